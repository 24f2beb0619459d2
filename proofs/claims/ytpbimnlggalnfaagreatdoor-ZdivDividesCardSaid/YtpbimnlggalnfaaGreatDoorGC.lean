/- A part of the proofs of this seat's laws. -/
import Derived.Test.YtpbimnlggalnfaaGreatDoorProg
import Derived.Test.YtpbimnlggalnfaaGreatDoorGB
set_option linter.unusedVariables false
set_option linter.unusedSimpArgs false
set_option linter.unnecessarySimpa false
namespace Go.Proofs.YtpbimnlggalnfaaGreatDoor.Zg
open Go.RowKit
noncomputable abbrev Pg:Program:=Go.Proofs.Tryz.prog
abbrev F.bE:FuncId:=9
abbrev F.bR:FuncId:=10
abbrev F.cU:FuncId:=12
abbrev F.cw:FuncId:=13
abbrev F.ct:FuncId:=14
abbrev F.jx:FuncId:=15
abbrev F.aK:FuncId:=18
abbrev F.cx:FuncId:=21
abbrev F.bA:FuncId:=22
abbrev F.ej:FuncId:=23
abbrev F.bu:FuncId:=25
abbrev F.cj:FuncId:=26
abbrev F.cS:FuncId:=27
abbrev F.bC:FuncId:=29
abbrev F.cX:FuncId:=31
abbrev F.cD:FuncId:=35
abbrev F.bk:FuncId:=37
abbrev F.ck:FuncId:=39
abbrev F.cF:FuncId:=41
abbrev F.dB:FuncId:=42
abbrev F.bZ:FuncId:=43
abbrev F.aU:FuncId:=44
abbrev F.cV:FuncId:=45
abbrev F.em:FuncId:=46
abbrev F.mj:FuncId:=47
abbrev F.ci:FuncId:=48
abbrev F.dE:FuncId:=51
abbrev F.cE:FuncId:=52
abbrev F.ba:FuncId:=54
abbrev F.cW:FuncId:=55
abbrev F.cI:FuncId:=56
abbrev F.ek:FuncId:=60
abbrev F.cP:FuncId:=61
abbrev F.dG:FuncId:=62
abbrev F.gz:FuncId:=63
abbrev F.dC:FuncId:=64
abbrev F.ln:FuncId:=65
abbrev F.aX:FuncId:=66
abbrev F.ax:FuncId:=67
abbrev F.lm:FuncId:=68
abbrev F.bi:FuncId:=69
abbrev F.kD:FuncId:=70
abbrev F.eS:FuncId:=71
abbrev F.aE:FuncId:=72
abbrev F.fF:FuncId:=73
abbrev F.aC:FuncId:=74
abbrev F.eQ:FuncId:=78
abbrev F.dA:FuncId:=79
abbrev F.cT:FuncId:=83
abbrev F.dD:FuncId:=84
abbrev F.bh:FuncId:=85
abbrev F.lk:FuncId:=86
abbrev F.i8:FuncId:=87
abbrev F.cH:FuncId:=88
abbrev F.aB:FuncId:=89
abbrev F.bJ:FuncId:=90
abbrev F.eY:FuncId:=91
abbrev F.dF:FuncId:=92
abbrev F.gi:FuncId:=93
abbrev F.cO:FuncId:=94
abbrev F.jl:FuncId:=95
abbrev F.cJ:FuncId:=96
abbrev F.ei:FuncId:=97
abbrev F.eh:FuncId:=98
abbrev F.aF:FuncId:=99
abbrev F.au:FuncId:=100
abbrev F.jE:FuncId:=101
abbrev F.ay:FuncId:=102
abbrev F.eJ:FuncId:=103
abbrev F.bF:FuncId:=104
abbrev F.jU:FuncId:=106
abbrev F.ko:FuncId:=108
abbrev F.aO:FuncId:=109
abbrev F.dM:FuncId:=110
abbrev F.dN:FuncId:=111
abbrev F.cC:FuncId:=112
abbrev F.il:FuncId:=113
abbrev F.gk:FuncId:=114
abbrev F.bo:FuncId:=115
abbrev F.iO:FuncId:=116
abbrev F.cR:FuncId:=117
abbrev F.eg:FuncId:=118
abbrev F.cN:FuncId:=119
abbrev F.dc:FuncId:=120
abbrev F.aI:FuncId:=121
abbrev F.bB:FuncId:=122
abbrev F.jm:FuncId:=123
abbrev F.bG:FuncId:=124
abbrev F.aP:FuncId:=125
abbrev F.bL:FuncId:=126
abbrev F.dO:FuncId:=127
abbrev F.dR:FuncId:=128
abbrev F.kV:FuncId:=132
abbrev F.jq:FuncId:=133
abbrev F.eR:FuncId:=134
abbrev F.jz:FuncId:=135
abbrev F.bU:FuncId:=136
abbrev F.bV:FuncId:=137
abbrev F.fY:FuncId:=138
abbrev F.jX:FuncId:=139
abbrev F.ik:FuncId:=140
abbrev F.iN:FuncId:=141
abbrev F.fI:FuncId:=142
abbrev F.jT:FuncId:=143
abbrev F.fX:FuncId:=144
abbrev F.kl:FuncId:=145
abbrev F.fu:FuncId:=146
abbrev F.aS:FuncId:=147
abbrev F.eG:FuncId:=148
abbrev F.dx:FuncId:=149
abbrev F.cA:FuncId:=150
abbrev F.fD:FuncId:=151
abbrev F.fx:FuncId:=152
abbrev F.fy:FuncId:=153
abbrev F.ep:FuncId:=154
abbrev F.cG:FuncId:=155
abbrev F.bv:FuncId:=158
abbrev F.gm:FuncId:=159
abbrev F.js:FuncId:=160
abbrev F.cZ:FuncId:=161
abbrev F.eT:FuncId:=162
abbrev F.cq:FuncId:=163
abbrev F.jO:FuncId:=164
abbrev F.mr:FuncId:=165
abbrev F.jo:FuncId:=166
abbrev F.jp:FuncId:=167
abbrev F.ip:FuncId:=168
abbrev F.bH:FuncId:=169
abbrev F.eO:FuncId:=170
abbrev F.kr:FuncId:=172
abbrev F.go:FuncId:=173
abbrev F.gp:FuncId:=174
abbrev F.jL:FuncId:=175
abbrev F.aw:FuncId:=176
abbrev F.dk:FuncId:=177
abbrev F.aH:FuncId:=178
abbrev F.ft:FuncId:=179
abbrev F.et:FuncId:=180
abbrev F.eU:FuncId:=181
abbrev F.eI:FuncId:=182
abbrev F.cy:FuncId:=183
abbrev F.aL:FuncId:=184
abbrev F.cK:FuncId:=185
abbrev F.ez:FuncId:=186
abbrev F.eH:FuncId:=187
abbrev F.eo:FuncId:=188
abbrev F.kv:FuncId:=189
abbrev F.iS:FuncId:=190
abbrev F.im:FuncId:=191
abbrev F.jG:FuncId:=192
abbrev F.bM:FuncId:=193
abbrev F.br:FuncId:=194
abbrev F.gf:FuncId:=195
abbrev F.dq:FuncId:=196
abbrev F.bq:FuncId:=197
abbrev F.kj:FuncId:=198
abbrev F.dK:FuncId:=199
abbrev F.gu:FuncId:=200
abbrev F.iV:FuncId:=201
abbrev F.jK:FuncId:=202
abbrev F.iT:FuncId:=203
abbrev F.jk:FuncId:=204
abbrev F.fC:FuncId:=205
abbrev F.fG:FuncId:=206
abbrev F.dw:FuncId:=207
abbrev F.bf:FuncId:=208
abbrev F.aR:FuncId:=209
abbrev F.bS:FuncId:=210
abbrev F.es:FuncId:=211
abbrev F.iM:FuncId:=212
abbrev F.bN:FuncId:=213
abbrev F.iL:FuncId:=214
abbrev F.ig:FuncId:=215
abbrev F.dL:FuncId:=216
abbrev F.fH:FuncId:=217
abbrev F.jr:FuncId:=218
abbrev F.ic:FuncId:=219
abbrev F.cm:FuncId:=220
abbrev F.iQ:FuncId:=221
abbrev F.ju:FuncId:=222
abbrev F.jh:FuncId:=223
abbrev F.iR:FuncId:=224
abbrev F.ie:FuncId:=225
abbrev F.iI:FuncId:=226
abbrev F.fQ:FuncId:=227
abbrev F.dH:FuncId:=228
abbrev F.cY:FuncId:=229
abbrev F.ml:FuncId:=230
abbrev F.i9:FuncId:=231
abbrev F.io:FuncId:=232
abbrev F.cM:FuncId:=233
abbrev F.fB:FuncId:=234
abbrev F.jV:FuncId:=235
abbrev F.ku:FuncId:=236
abbrev F.iX:FuncId:=237
abbrev F.gh:FuncId:=238
abbrev F.gq:FuncId:=239
abbrev F.jN:FuncId:=240
abbrev F.iW:FuncId:=241
abbrev F.fz:FuncId:=242
abbrev F.jM:FuncId:=243
abbrev F.iP:FuncId:=244
abbrev F.jI:FuncId:=245
abbrev F.jW:FuncId:=246
abbrev F.jH:FuncId:=247
abbrev F.i7:FuncId:=248
abbrev F.jg:FuncId:=249
abbrev F.bn:FuncId:=250
abbrev F.ki:FuncId:=251
abbrev F.fZ:FuncId:=252
abbrev F.jt:FuncId:=253
abbrev F.kE:FuncId:=254
abbrev F.jA:FuncId:=255
abbrev F.fO:FuncId:=256
abbrev F.eK:FuncId:=257
abbrev F.fw:FuncId:=258
abbrev F.kF:FuncId:=259
abbrev F.kU:FuncId:=260
abbrev F.iU:FuncId:=261
abbrev F.eF:FuncId:=262
abbrev F.jj:FuncId:=263
abbrev F.iK:FuncId:=264
abbrev F.dp:FuncId:=265
abbrev F.ey:FuncId:=266
abbrev F.mu:FuncId:=267
abbrev F.ge:FuncId:=268
abbrev F.fN:FuncId:=269
abbrev F.dU:FuncId:=270
abbrev F.co:FuncId:=271
abbrev F.kh:FuncId:=272
abbrev F.gt:FuncId:=273
abbrev F.cL:FuncId:=274
abbrev F.fP:FuncId:=275
abbrev F.dJ:FuncId:=276
abbrev F.kW:FuncId:=277
abbrev F.cB:FuncId:=278
abbrev F.mq:FuncId:=279
abbrev F.jS:FuncId:=280
abbrev F.kt:FuncId:=281
abbrev F.ji:FuncId:=282
abbrev F.jJ:FuncId:=283
abbrev T.ael:TypeId:=5
abbrev T.bO:TypeId:=24
abbrev T.jy:TypeId:=25
abbrev T.bP:TypeId:=26
abbrev T.af:TypeId:=28
abbrev T.cd:TypeId:=36
abbrev T.wJ:TypeId:=86
abbrev T.wI:TypeId:=95
abbrev T.an:TypeId:=100
abbrev T.wm:TypeId:=105
abbrev T.wM:TypeId:=108
abbrev T.wN:TypeId:=111
abbrev T.yI:TypeId:=122
abbrev T.wj:TypeId:=125
abbrev T.yG:TypeId:=147
abbrev T.wh:TypeId:=150
abbrev T.wK:TypeId:=153
abbrev T.yJ:TypeId:=156
abbrev T.wg:TypeId:=159
abbrev T.wO:TypeId:=162
abbrev T.yH:TypeId:=165
abbrev T.qT:TypeId:=168
abbrev T.qU:TypeId:=171
abbrev T.pI:TypeId:=174
abbrev T.dj:TypeId:=178
abbrev T.pE:TypeId:=196
abbrev T.wL:TypeId:=224
abbrev T.yE:TypeId:=266
abbrev T.yF:TypeId:=272
abbrev T.iJ:TypeId:=278
abbrev T.abJ:TypeId:=298
abbrev T.we:TypeId:=318
abbrev T.abK:TypeId:=323
abbrev T.abI:TypeId:=334
abbrev G.iw:Nat:=0
def Xt:List (FuncId × Nat):=[(2,0),(3,0),(4,0),(5,0),(6,0),(7,0),(8,0),(9,0),(10,0),(11,0),(12,0),(13,0),(14,0),(15,0),(16,0),(17,0),(18,0),(19,0),(20,0),(21,0),(22,0),(23,0),(24,0),(25,0),(26,0),(27,0),(28,0),(29,0),(30,0),(31,0),(32,0),(33,0),(34,0),(35,0),(36,0),(37,0),(38,0),(39,0),(40,0),(41,0),(42,0),(43,0),(44,0),(45,0),(46,0),(47,0),(48,0),(49,0),(50,0),(51,0),(52,0),(53,0),(54,0),(55,0),(56,0),(57,0),(58,0),(59,0),(60,0),(61,0),(62,0),(63,0),(64,0),(65,0),(66,0),(67,0),(68,0),(69,0),(70,0),(71,0),(72,0),(73,0),(74,0),(75,0),(76,0),(77,0),(78,0),(79,0),(80,0),(81,0),(82,0),(83,0),(84,0),(85,0),(86,0),(87,0),(88,0),(89,0),(90,0),(91,0),(92,0),(93,0),(94,0),(95,0),(96,0),(97,0),(98,0),(99,0),(100,0),(101,0),(102,0),(103,0),(104,0),(105,0),(106,0),(107,0),(108,0),(109,0),(110,0),(111,0),(112,0),(113,0),(114,0),(115,0),(116,0),(117,0),(118,0),(119,0),(120,0),(121,0),(122,0),(123,0),(124,0),(125,0),(126,0),(127,0),(128,0),(129,0),(130,0),(131,0),(132,0),(133,0),(134,0),(135,0),(136,0),(137,0),(138,0),(139,0),(140,0),(141,0),(142,0),(143,0),(144,0),(145,0),(146,0),(147,0),(148,0),(149,0),(150,0),(151,0),(152,0),(153,0),(154,0),(155,0),(156,1),(157,2),(158,0),(159,0),(160,0),(161,0),(162,0),(163,0),(164,0),(165,0),(166,0),(167,0),(168,0),(169,0),(170,0),(171,0),(172,0),(173,0),(174,0),(175,0),(176,0),(177,0),(178,0),(179,0),(180,0),(181,0),(182,0),(183,0),(184,0),(185,0),(186,0),(187,0),(188,0),(189,0),(190,0),(191,0),(192,0),(193,0),(194,0),(195,0),(196,0),(197,0),(198,0),(199,0),(200,0),(201,0),(202,0),(203,0),(204,0),(205,0),(206,0),(207,0),(208,0),(209,0),(210,0),(211,0),(212,0),(213,0),(214,0),(215,0),(216,0),(217,0),(218,0),(219,0),(220,0),(221,0),(222,0),(223,0),(224,0),(225,0),(226,0),(227,0),(228,0),(229,0),(230,0),(231,0),(232,0),(233,0),(234,0),(235,0),(236,0),(237,0),(238,0),(239,0),(240,0),(241,0),(242,0),(243,0),(244,0),(245,0),(246,0),(247,0),(248,0),(249,0),(250,0),(251,0),(252,0),(253,0),(254,0),(255,0),(256,0),(257,0),(258,0),(259,0),(260,0),(261,0),(262,0),(263,0),(264,0),(265,0),(266,0),(267,0),(268,0),(269,0),(270,0),(271,0),(272,0),(273,0),(274,0),(275,0),(276,0),(277,0),(278,0),(279,0),(280,0),(281,0),(282,0),(283,0),(304,0)]
theorem aef:mN Pg Xt:=mN.of krf 156 157 krf krf
 ⟨Go.Proofs.Tryz.f156,krf,krf,krf,krf,krf⟩ ⟨Go.Proofs.Tryz.f157,krf,krf,krf,krf,krf⟩
theorem yq:Pg.follows .mixedOrders=true:=krf
abbrev KT(l:List VT):=Tel (fl l) (TW→Prop)
abbrev PR:=(Value→TW→Prop)→TW→Prop
abbrev OA:=Option Addr
def ch:Nat→TW→OA→(OA→Prop)→Prop
 | 0,w,v,K=>nck v λa=>ldc (.ptr) w a K
 | n+1,w,v,K=>nck v λa=>ldc (.ptr) w a λ(q:OA)=>ch n w q K
abbrev tbl(w:TW)(a:Addr)(K:Int→Int→Int→Int→Int→Int→Int→Int→Int→Int→Int→Prop):Prop:=
 ldc (.int .i64) w ((a.add 3).add 0) λ(v0:Int)=>ldc (.int .i64) w ((a.add 3).add 1) λ(v1:Int)=>ldc (.int .i64) w ((a.add 3).add 2) λ(v2:Int)=>ldc (.int .i64) w ((a.add 3).add 3) λ(v3:Int)=>ldc (.int .i64) w ((a.add 3).add 4) λ(v4:Int)=>ldc (.int .i64) w ((a.add 3).add 5) λ(v5:Int)=>ldc (.int .i64) w ((a.add 3).add 6) λ(v6:Int)=>ldc (.int .i64) w ((a.add 3).add 7) λ(v7:Int)=>ldc (.int .i64) w ((a.add 3).add 8) λ(v8:Int)=>ldc (.int .i64) w ((a.add 3).add 9) λ(v9:Int)=>ldc (.int .i64) w ((a.add 3).add 10) λ(v10:Int)=>K v0 v1 v2 v3 v4 v5 v6 v7 v8 v9 v10
abbrev CG(S:PR)(f:FuncId)(av:List Value)(rt:List VT):Prop:=∀{w:TW} {X:Nat→Prop} {K:KT rt},S (Rt X rt K w) w.here→Ct Pg f av w X rt K
theorem cod{f:FuncId}{av:List Value}{rt:List VT}{S:PR}(N:Nat)(va vb:List (Nat × Nat))(ann:List (Nat × Nat × List (Nat × VT)))(fn:Func)(hf:Pg.funcs[f]?=some fn:=by kernel_rfl)(hb:fn.body=some (fn.body.getD .skip):=by kernel_rfl)(hok:(nT N vb&&Nat.beq fn.ntmps N&&Nat.ble av.length N&&kQ (fn.body.getD .skip))=true:=by kernel_rfl)(he:∀R w,abv Pg ⟨N,va,vb,ann,Xt⟩ fn (fn.body.getD .skip) av w R=S R w:=by intro _ _;kernel_rfl):CG S f av rt:=
 λh=>aap (D:=⟨N,va,vb,ann,Xt⟩) aef yq hf hb hok (Eq.mpr (he _ _) h)
section
variable {b k n x:Nat} {l m:List Nat}
def vl(b:Nat):List Nat→Nat
 | []=>0
 | x::l=>x+b*vl b l
def dg(b n:Nat):List Nat:=if 2≤b∧0<n then n%b::dg b (n/b) else []
termination_by n
decreasing_by
 rename_i h;exact Nat.div_lt_self h.2 om
def Sm(b:Nat)(l:List Nat):Prop:=∀x∈l,x<b
theorem gw(b:Nat):vl b []=0:=rfl
theorem de(b x:Nat)(l:List Nat):vl b (x::l)=x+b*vl b l:=rfl
theorem dY(b:Nat)(l m:List Nat):vl b (l++m)=vl b l+b^l.length*vl b m:=by
 induction l with
 | nil=>simp [vl]
 | cons x l ih=>
  simp only [List.cons_append,de,ih,List.length_cons];grind
theorem jQ{b:Nat}:∀{l:List Nat},Sm b l→vl b l<b^l.length
 | [],_=>by simp [vl]
 | x::l,h=>by
  have h1:x<b:=h x (.head _);have h2:=jQ (l:=l) (λy hy=>h y (.tail _ hy));simp only [de,List.length_cons];have h3:b*(vl b l+1)≤b*b^l.length:=Nat.mul_le_mul_left _ h2;grind
theorem jP(b n:Nat):vl b (List.replicate n 0)=0:=by
 induction n with
 | zero=>rfl
 | succ n ih=>simp [List.replicate_succ,de,ih]
theorem lq(h:k<l.length):vl b (l.take (k+1))=vl b (l.take k)+b^k*l[k]:=by
 rw [List.take_succ_eq_append_getElem h,dY];simp [vl,List.length_take,Nat.min_eq_left (Nat.le_of_lt h)]
theorem i4(b:Nat)(l:List Nat)(k:Nat)(h:k≤l.length):vl b l=vl b (l.take k)+b^k*vl b (l.drop k):=by
 conv=>lhs;rw [←List.take_append_drop k l]
 rw [dY,List.length_take,Nat.min_eq_left h]
theorem lu{b:Nat}:∀{l:List Nat} {k:Nat} (h:k<l.length) (x:Nat),vl b (l.set k x)+b^k*l[k]=vl b l+b^k*x
 | y::l,0,h,x=>by simp [de];omega
 | y::l,k+1,h,x=>by
  have ih:=lu (b:=b) (l:=l) (k:=k) (by simpa using h) x;simp only [List.set_cons_succ,de,List.getElem_cons_succ];grind
theorem Sm.take(h:Sm b l)(k:Nat):Sm b (l.take k):=λx hx=>h x (List.mem_of_mem_take hx)
theorem Sm.drop(h:Sm b l)(k:Nat):Sm b (l.drop k):=λx hx=>h x (List.mem_of_mem_drop hx)
theorem Sm.get(h:Sm b l)(hk:k<l.length):l[k]<b:=h _ (List.getElem_mem hk)
theorem Sm.set(h:Sm b l)(k:Nat)(hx:x<b):Sm b (l.set k x):=λy hy=>by
 rcases List.mem_or_eq_of_mem_set hy with hy|rfl
 ·exact h y hy
 ·exact hx
theorem Sm.append(h:Sm b l)(k:Sm b m):Sm b (l++m):=λx hx=>(List.mem_append.1 hx).elim (h x) (k x)
theorem Sm.nil(b:Nat):Sm b []:=λx hx=>by cases hx
theorem Sm.zeros(hb:0<b)(n:Nat):Sm b (List.replicate n 0):=λx hx=>by rw [List.eq_of_mem_replicate hx];exact hb
theorem Sm.cons(hx:x<b)(h:Sm b l):Sm b (x::l):=λy hy=>by
 rcases List.mem_cons.1 hy with rfl|hy
 ·exact hx
 ·exact h y hy
theorem az(b:Nat):dg b 0=[]:=by unfold dg;simp
theorem ke(hb:2≤b)(hn:0<n):dg b n=n%b::dg b (n/b):=by
 rw [dg];simp [hb,hn]
theorem aV(hb:2≤b)(n:Nat):vl b (dg b n)=n:=by
 induction n using Nat.strongRecOn with
 | _ n ih=>
  by_cases hn:0<n
  ·rw [ke hb hn,de,ih (n/b) (Nat.div_lt_self hn om)];exact Nat.mod_add_div n b
  ·have:n=0:=om;subst this;rw [az];rfl
theorem l8(hb:2≤b)(n:Nat):Sm b (dg b n):=by
 induction n using Nat.strongRecOn with
 | _ n ih=>
  by_cases hn:0<n
  ·rw [ke hb hn];exact .cons (Nat.mod_lt _ om) (ih (n/b) (Nat.div_lt_self hn om))
  ·have:n=0:=om;subst this;rw [az];exact .nil b
theorem xL(hb:0<b)(h:vl b l=0):∀x∈l,x=0:=by
 induction l with
 | nil=>simp
 | cons x l ih=>
  rw [de] at h
  have h2:vl b l=0:=by
   rcases Nat.eq_zero_or_pos (vl b l) with h2|h2
   ·exact h2
   ·have:=Nat.mul_pos hb h2;omega
  intro y hy;rcases List.mem_cons.1 hy with rfl|hy
  ·omega
  ·exact ih h2 y hy
theorem ol{b:Nat}(hb:2≤b):∀{l:List Nat},Sm b l→dg b (vl b l)=l.take (dg b (vl b l)).length∧(dg b (vl b l)).length≤l.length
 | [],_=>by simp [vl,az]
 | x::l,h=>by
  obtain⟨h1,h2⟩:=ol hb (l:=l) (λy hy=>h y (.tail _ hy));have hx:x<b:=h x (.head _);by_cases hv:0<vl b (x::l)
  ·have e1:vl b (x::l)%b=x:=by rw [de,Nat.add_mul_mod_self_left,Nat.mod_eq_of_lt hx]
   have e2:vl b (x::l)/b=vl b l:=by rw [de,Nat.add_mul_div_left _ _ om,Nat.div_eq_of_lt hx];omega
   rw [ke hb hv,e1,e2];simp only [List.length_cons,List.take_succ_cons];exact⟨by rw [←h1],om⟩
  ·have h0:vl b (x::l)=0:=om;rw [h0,az];simp
theorem pB(hb:2≤b)(h:Sm b l):vl b (l.drop (dg b (vl b l)).length)=0:=by
 obtain⟨h1,h2⟩:=ol hb h;have h3:=i4 b l _ h2;rw [←h1,aV hb] at h3;rcases Nat.eq_zero_or_pos (vl b (l.drop (dg b (vl b l)).length)) with h4|h4
 ·exact h4
 ·have:=Nat.mul_pos (Nat.pow_pos (n:=(dg b (vl b l)).length) (show 0<b by omega)) h4;omega
theorem acJ(hb:2≤b)(n:Nat):∀x,(dg b n).getLast?=some x→x≠0:=by
 induction n using Nat.strongRecOn with
 | _ n ih=>
  intro x hx;by_cases hn:0<n
  ·rw [ke hb hn] at hx;by_cases hq:0<n/b
   ·have hne:dg b (n/b)≠[]:=by rw [ke hb hq];simp
    rw [List.getLast?_cons] at hx;cases hl:(dg b (n/b)).getLast? with
    | none=>rw [List.getLast?_eq_none_iff] at hl;exact absurd hl hne
    | some y=>
     rw [hl] at hx;simp at hx;subst hx;exact ih (n/b) (Nat.div_lt_self hn om) y hl
   ·have h0:n/b=0:=Nat.eq_zero_of_not_pos hq;rw [h0,az] at hx;simp at hx;subst hx;have:=Nat.div_add_mod n b;rw [h0] at this;omega
  ·have:n=0:=om;subst this;rw [az] at hx;cases hx
theorem pC(hb:2≤b)(h:Sm b l)(hl:∀x,l.getLast?=some x→x≠0):dg b (vl b l)=l:=by
 obtain⟨h1,h2⟩:=ol hb h;have h3:=pB hb h;rcases Nat.lt_or_ge (dg b (vl b l)).length l.length with h4|h4
 ·exfalso;have hz:=xL om h3;have hne:l≠[]:=λe=>by subst e;simp at h4
  have hlast:=List.getLast_mem hne
  have hd:l.getLast hne∈l.drop (dg b (vl b l)).length:=by
   have hdne:l.drop (dg b (vl b l)).length≠[]:=by simp;omega
   rw [←List.getLast_drop hdne];exact List.getLast_mem hdne
  exact hl _ (List.getLast?_eq_some_getLast hne) (hz _ hd)
 ·rw [h1,List.take_of_length_le h4]
theorem jD(hb:2≤b)(h:n<b^k):(dg b n).length≤k:=by
 induction k generalizing n with
 | zero=>simp at h;subst h;simp [az]
 | succ k ih=>
  by_cases hn:0<n
  ·rw [ke hb hn];have:=ih (n:=n/b) (by rw [Nat.pow_succ] at h;exact Nat.div_lt_of_lt_mul (by rw [Nat.mul_comm];exact h));simp;omega
  ·have:n=0:=om;subst this;simp [az]
theorem oo(hb:2≤b)(n:Nat):n<b^(dg b n).length:=by
 have:=jQ (l8 hb n);rwa [aV hb] at this
theorem oO{m:Nat}(hb:2≤b)(h:m≤n):(dg b m).length≤(dg b n).length:=
 jD hb (Nat.lt_of_le_of_lt h (oo hb n))
theorem nJ(hb:2≤b)(h:Sm b l):(dg b (vl b l)).length≤l.length:=(ol hb h).2
theorem pT(hb:2≤b)(hn:0<n):b^((dg b n).length-1)≤n:=by
 rcases Nat.lt_or_ge n (b^((dg b n).length-1)) with h|h
 ·have h1:=jD hb h;have h2:0<(dg b n).length:=by rw [ke hb hn];simp
  omega
 ·exact h
theorem yv(hb:2≤b):dg b n=[]↔n=0:=by
 constructor
 ·intro h;have:=aV hb n;rw [h] at this;exact this.symm
 ·rintro rfl;exact az b
theorem kB(hb:2≤b):(dg b n).length=0↔n=0:=by rw [List.length_eq_zero_iff,yv hb]
theorem lw(hl:Sm b l)(hll:k<l.length)(hml:k<m.length)(hlt:l[k]<m[k])(htop:vl b (l.drop (k+1))≤vl b (m.drop (k+1))):vl b l<vl b m:=by
 rw [i4 b l (k+1) hll,i4 b m (k+1) hml,lq hll,lq hml];have h1:=jQ (hl.take k);rw [List.length_take,Nat.min_eq_left om] at h1;have h2:b^k*(l[k]+1)≤b^k*m[k]:=Nat.mul_le_mul_left _ hlt;have h3:b^(k+1)*vl b (l.drop (k+1))≤b^(k+1)*vl b (m.drop (k+1)):=Nat.mul_le_mul_left _ htop;grind
theorem uM(h:vl b (l.drop k)=0)(hk:k≤l.length):vl b l=vl b (l.take k):=by
 rw [i4 b l k hk,h];simp
theorem uh(hb:2≤b)(hl:Sm b l)(hk:k≤l.length)(h:vl b (l.drop k)=0)(ht:∀h:0<k,l[k-1]≠0):dg b (vl b l)=l.take k:=by
 rw [uM h hk];refine pC hb (hl.take k) λx hx=>?_
 rcases Nat.eq_zero_or_pos k with h0|h0
 ·subst h0;simp at hx
 ·rw [List.getLast?_eq_getElem?,List.length_take,Nat.min_eq_left hk,List.getElem?_take,if_pos om,List.getElem?_eq_getElem om] at hx;injection hx with hx;rw [←hx];exact ht h0
end
section
variable {i x:Int} {K:Int→Prop} {B j y:Nat} {c:Bool} {A:Prop} {cs:List CK} {T' w w' w0:TW} {X:Nat→Prop} {d:CK} {e:TypeId} {s:Sl} {vs:List Value} {l:List Nat}
abbrev W64:Nat:=18446744073709551616
theorem W2:2≤W64:=dcd
abbrev U(x:Nat):Value:=.int .u64 x
theorem fV{α:Type}{x:α}{K:α→Prop}(h:K x):bnd x K:=h
theorem ar(h1:-9223372036854775808≤x)(h2:x≤9223372036854775807):wi x=x:=by rw [wi,IntKind.wrap_i64];omega
theorem ab(h1:-9223372036854775808≤x)(h2:x≤9223372036854775807)(h:K x):bnd (wi x) K:=by
 unfold bnd;rw [ar h1 h2];exact h
theorem rG(x:Nat):wu (x:Int)=((x%W64:Nat):Int):=by
 simp [wu,IntKind.wrap,IntKind.signed,IntKind.bits,W64]
theorem uy{x:Nat}(h:x<W64):wu (x:Int)=x:=by rw [rG,Nat.mod_eq_of_lt h]
theorem gy(hx:x=y)(h:K (y%W64:Nat)):bnd (wu x) K:=by
 unfold bnd;rw [hx,rG];exact h
theorem ai(hx:x=y)(hy:y<W64)(h:K y):bnd (wu x) K:=by
 unfold bnd;rw [hx,uy hy];exact h
theorem ah{a:Addr}{K:Addr→Prop}(h:K a):nck (some a) K:=h
theorem aG{B:Prop}(h1:c=true→A)(h2:c=false→B):cond c A B:=by
 cases c
 ·exact h2 rfl
 ·exact h1 rfl
theorem ac{p:Prop}[Decidable p]{B:Prop}(h1:p→A)(h2:¬p→B):cond (decide p) A B:=by
 by_cases h:p
 ·simp [h,h1 h]
 ·simp [h,h2 h]
theorem aQ{B:Prop}(h:c=true)(hA:A):cond c A B:=by subst h;exact hA
theorem ap{B:Prop}(h:c=false)(hB:B):cond c A B:=by subst h;exact hB
theorem jn{A:Tel cs (TW→Prop)→Prop}{K:Tel cs (TW→Prop)}(J:Tel cs (TW→Prop))(h1:A J)(h2:qk cs (lam cs λx=>∀w,app cs J x w→app cs K x w)):Jn cs A K:=⟨J,h1,h2⟩
theorem zT{A:Tel cs (TW→Prop)→Prop}{K:Tel cs (TW→Prop)}(h:A K):Jn cs A K:=⟨K,h,(mh _ _).2 λ_ _ h=>h⟩
theorem lp1{c1:CK}{body:Tel [c1] (TW→(Tel [c1] (TW→Prop))→Prop)}{x1:CV c1}(I:Nat→CV c1→TW→Prop)(m:Nat)(h0:I m x1 w)(hs:∀m x1 w,I m x1 w→body x1 w (λy1 w'=>∃m',m'<m∧I m' y1 w')):Lp [c1] body x1 w:=⟨I,⟨m,h0⟩,hs⟩
theorem lp2{c1 c2:CK}{body:Tel [c1,c2] (TW→(Tel [c1,c2] (TW→Prop))→Prop)}{x1:CV c1}{x2:CV c2}(I:Nat→CV c1→CV c2→TW→Prop)(m:Nat)(h0:I m x1 x2 w)(hs:∀m x1 x2 w,I m x1 x2 w→body x1 x2 w (λy1 y2 w'=>∃m',m'<m∧I m' y1 y2 w')):Lp [c1,c2] body x1 x2 w:=⟨I,⟨m,h0⟩,hs⟩
theorem lp3{c1 c2 c3:CK}{body:Tel [c1,c2,c3] (TW→(Tel [c1,c2,c3] (TW→Prop))→Prop)}{x1:CV c1}{x2:CV c2}{x3:CV c3}(I:Nat→CV c1→CV c2→CV c3→TW→Prop)(m:Nat)(h0:I m x1 x2 x3 w)(hs:∀m x1 x2 x3 w,I m x1 x2 x3 w→body x1 x2 x3 w (λy1 y2 y3 w'=>∃m',m'<m∧I m' y1 y2 y3 w')):Lp [c1,c2,c3] body x1 x2 x3 w:=⟨I,⟨m,h0⟩,hs⟩
theorem lp4{c1 c2 c3 c4:CK}{body:Tel [c1,c2,c3,c4] (TW→(Tel [c1,c2,c3,c4] (TW→Prop))→Prop)}{x1:CV c1}{x2:CV c2}{x3:CV c3}{x4:CV c4}(I:Nat→CV c1→CV c2→CV c3→CV c4→TW→Prop)(m:Nat)(h0:I m x1 x2 x3 x4 w)(hs:∀m x1 x2 x3 x4 w,I m x1 x2 x3 x4 w→body x1 x2 x3 x4 w (λy1 y2 y3 y4 w'=>∃m',m'<m∧I m' y1 y2 y3 y4 w')):Lp [c1,c2,c3,c4] body x1 x2 x3 x4 w:=⟨I,⟨m,h0⟩,hs⟩
theorem rt0{K:TW→Prop}(hx:Ext X w.here T')(hK:K (T'.at w.B)):Rt X [] K w (.tuple #[]) T':=⟨(),rfl,hx,hK⟩
theorem rt1{c:CK}{K:CV c→TW→Prop}(x:CV c)(hx:Ext X w.here T')(hK:K x (T'.at w.B)):Rt X [.one c] K w (CV.enc c x) T':=⟨(x,()),rfl,hx,hK⟩
theorem rt2{c:CK}{K:CV c→CV d→TW→Prop}(x:CV c)(y:CV d)(hx:Ext X w.here T')(hK:K x y (T'.at w.B)):Rt X [.one c,.one d] K w (.tuple #[CV.enc c x,CV.enc d y]) T':=⟨(x,y,()),rfl,hx,hK⟩
theorem rt3{c e:CK}{K:CV c→CV d→CV e→TW→Prop}(x:CV c)(y:CV d)(z:CV e)(hx:Ext X w.here T')(hK:K x y z (T'.at w.B)):Rt X [.one c,.one d,.one e] K w (.tuple #[CV.enc c x,CV.enc d y,CV.enc e z]) T':=⟨(x,y,z,()),rfl,hx,hK⟩
structure Rd (w:TW) (s:Sl) (l:List Nat):Prop where
 rv:Rdv w 1 s (l.map U)
 sm:Sm W64 l
theorem Rdv.ext{sz:Nat}(h:Rdv w sz s vs)(hx:Ext X w w')(hX:∀b,s.blk=some b→¬X b):Rdv w' sz s vs:=by
 obtain⟨h1,h2,h3,h4⟩:=h;refine⟨h1,h2,h3,λhne=>?_⟩;obtain⟨b,o,hp,hV,hc⟩:=h4 hne;have hb:s.blk=some b:=by simp [Sl.blk,hp]
 have hlt:b<w.w.heap.size:=by
  obtain⟨v,hv⟩:∃v,vs[0]?=some v:=⟨vs[0]'(List.length_pos_iff.2 hne),List.getElem?_eq_getElem _⟩;exact World.block_lt_of_cell? w.w _ (hc 0 v hv)
 refine⟨b,o,hp,λhV'=>?_,λj v hj=>?_⟩
 ·rcases hx.new b hV' with h|h
  ·exact hV h
  ·omega
 ·rw [←hc j v hj];exact World.cell?_of_block (hx.block b hlt (hX b hb) (.inr hV))
theorem Rd.extX(h:Rd w s l)(hx:Ext X w w')(hX:∀b,s.blk=some b→¬X b):Rd w' s l:=⟨h.rv.ext hx hX,h.sm⟩
theorem Rd.ext(h:Rd w s l)(hx:Ext aa w w'):Rd w' s l:=h.extX hx λ_ _ h=>h
theorem Rd.drew(h:Rd w s l):Rd w.drew s l:=⟨h.rv,h.sm⟩
theorem Rd.here(h:Rd w s l):Rd w.here s l:=⟨h.rv,h.sm⟩
theorem Ext.drew(h:Ext X w0 w):Ext X w0 w.drew:=⟨h.os,h.tape,h.output,h.size,h.floor,h.sub,h.new,h.block,h.shape⟩
theorem Rd.len(h:Rd w s l):s.n=l.length:=by have:=h.rv.1;simp at this;omega
theorem Rd.cap(h:Rd w s l):l.length≤s.c∧s.c≤9223372036854775807:=by
 have h1:=h.rv.2.1;have h2:=h.rv.2.2.1;simp only [maxLen] at h2;rw [h.len] at h1;omega
theorem Rd.le(h:Rd w s l):l.length≤9223372036854775807:=by have:=h.cap;omega
theorem Rd.nil(w:TW):Rd w Sl.nil []:=⟨⟨rfl,Nat.le_refl _,dcd,λh=>absurd rfl h⟩,Sm.nil _⟩
theorem Rd.idx(h:Rd w s l)(hi:i=j)(hj:j<l.length)(hK:K (l[j]:Nat)):ixa s i 1 (λa=>ldc (.int .u64) w a K):=by
 subst hi;obtain⟨h1,_,_,h4⟩:=h.rv;obtain⟨b,o,hp,_,hc⟩:=h4 (λe=>by have:=congrArg List.length e;simp at this;subst this;simp at hj);refine⟨⟨b,o,none⟩,hp,om,by have:=h.len;omega,(l[j]:Nat),?_,hK⟩;rw [Int.toNat_natCast,Nat.mul_one,Addr.add_mk];exact hc j (U l[j]) (by simp [hj])
theorem Rd.cut(h:Rd w s l){lo hi:Nat}(h1:lo≤hi)(h2:hi≤l.length):Rd w (s.cut lo hi 1) ((l.take hi).drop lo):=by
 have hl:=h.len;have hc:=h.cap;obtain⟨h3,h4,h5,h6⟩:=h.rv;refine⟨⟨by simp [Sl.cut];omega,by simp only [Sl.cut];omega,by simp only [Sl.cut];omega,λhne=>?_⟩,(h.sm.take hi).drop lo⟩
 have hlt:lo<hi:=by
  rcases Nat.lt_or_ge lo hi with h|h
  ·exact h
  ·exfalso;apply hne;simp;omega
 obtain⟨b,o,hp,hV,hcell⟩:=h6 (λe=>by have:=congrArg List.length e;simp at this;subst this;simp at h2;omega);refine⟨b,o+lo,?_,hV,λj v hj=>?_⟩
 ·simp only [Sl.cut];rw [if_neg om,hp];simp [Addr.add_mk]
 ·rw [Nat.add_assoc];refine hcell (lo+j) v ?_;simp only [List.map_drop,List.map_take,List.getElem?_drop,List.getElem?_take] at hj;split at hj
  ·exact hj
  ·cases hj
structure Ow (w:TW) (B:Nat) (s:Sl) (l:List Nat):Prop where
 ow:Own w B T.an 1 s (l.map U)
 sm:Sm W64 l
theorem Own.form{sz:Nat}(h:Own w B e sz s vs):(s=Sl.nil∧vs=[])∨∃b cur,s.p=some ⟨b,0,none⟩∧B≤b∧w.w.heap[b]?=some (.cells cur e (0,0))∧s.n≤s.c∧s.c≤maxLen∧cur.size=s.c*sz∧cur.toList.take (s.n*sz)=vs∧¬w.V b:=by
 obtain⟨⟨h1,h2⟩,h3⟩:=h;rcases h2 with ⟨hv,hn⟩|⟨g,cap,cur,hv,hb,hg,hnc,hcm,hcs,ht⟩
 ·simp only [Sl.v,Value.slice.injEq] at hv;refine .inl ⟨?_,?_⟩
  ·cases s;simp only at hv;simp [hv]
  ·rw [hn] at h1;simpa using h1
 ·simp only [Sl.v,Value.slice.injEq] at hv;obtain⟨hp,-,rfl⟩:=hv;exact .inr ⟨g,cur,hp,hb,hg,hnc,hcm,hcs,ht,h3 g (by simp [Sl.blk,hp])⟩
theorem Own.rdv{sz:Nat}(h:Own w B e sz s vs):Rdv w sz s vs:=by
 have h1:=h.1.1;rcases h.form with ⟨rfl,rfl⟩|⟨b,cur,hp,hb,hg,hnc,hcm,hcs,ht,hV⟩
 ·exact⟨smp,Nat.le_refl _,dcd,λh=>absurd rfl h⟩
 ·refine⟨h1,hnc,hcm,λ_=>⟨b,0,hp,hV,λj v hj=>?_⟩⟩;rw [cell_of_row w.w b (0+j) cur e (0,0) hg,Nat.zero_add];rw [←ht,List.getElem?_take] at hj;split at hj
  ·simpa using hj
  ·cases hj
theorem Ow.rd(h:Ow w B s l):Rd w s l:=⟨h.ow.rdv,h.sm⟩
theorem Own.ext{sz:Nat}(h:Own w B e sz s vs)(hx:Ext X w w')(hX:∀b,s.blk=some b→¬X b):Own w' B e sz s vs:=by
 obtain⟨⟨h1,h2⟩,h3⟩:=h
 have hlt:∀b,s.blk=some b→b<w.w.heap.size:=λb hb=>by
  rcases h2 with ⟨hv,_⟩|⟨g,cap,cur,hv,_,hg,_⟩
  ·simp only [Sl.v,Value.slice.injEq] at hv;simp [Sl.blk,hv.1] at hb
  ·simp only [Sl.v,Value.slice.injEq] at hv;simp [Sl.blk,hv.1] at hb;subst hb;exact (Array.getElem?_eq_some_iff.1 hg).1
 refine⟨⟨h1,?_⟩,λb hb hV'=>?_⟩
 ·rcases h2 with hn|⟨g,cap,cur,hv,hB,hg,rest⟩
  ·exact .inl hn
  ·have hv':=hv;simp only [Sl.v,Value.slice.injEq] at hv';have hbk:s.blk=some g:=by simp [Sl.blk,hv'.1]
   exact .inr ⟨g,cap,cur,hv,hB,(hx.block g (hlt g hbk) (hX g hbk) (.inr (h3 g hbk))).trans hg,rest⟩
 ·rcases hx.new b hV' with h|h
  ·exact h3 b hb h
  ·have:=hlt b hb;omega
theorem Ow.extX(h:Ow w B s l)(hx:Ext X w w')(hX:∀b,s.blk=some b→¬X b):Ow w' B s l:=⟨h.ow.ext hx hX,h.sm⟩
theorem Ow.ext(h:Ow w B s l)(hx:Ext aa w w'):Ow w' B s l:=h.extX hx λ_ _ h=>h
theorem Ow.from_(h:Ow w B s l):∀b,s.blk=some b→B≤b∧b<w.w.heap.size:=λb hb=>by
 rcases h.ow.form with ⟨rfl,_⟩|⟨g,cur,hp,hB,hg,_⟩
 ·simp [Sl.blk] at hb
 ·simp [Sl.blk,hp] at hb;subst hb;exact⟨hB,(Array.getElem?_eq_some_iff.1 hg).1⟩
theorem Ow.less{B':Nat}(h:Ow w B s l)(hB:B'≤B):Ow w B' s l:=by
 obtain⟨⟨⟨h1,h2⟩,h3⟩,h4⟩:=h;refine⟨⟨⟨h1,?_⟩,h3⟩,h4⟩;rcases h2 with h2|⟨g,cap,cur,hv,hb,r⟩
 ·exact .inl h2
 ·exact .inr ⟨g,cap,cur,hv,Nat.le_trans hB hb,r⟩
theorem Ext.mine(h:Ext aa w0 w)(k:Ext X w w')(hX:∀b,X b→w0.w.heap.size≤b):Ext aa w0 w':=
 (h.mono (Y:=X) λ_ _ h=>h.elim).trans k |>.mono λb hb hx=>absurd (hX b hx) om
theorem bW{n:Int}{N:Nat}{K:Sl→TW→Prop}(hn:n=N)(hN:N≤17592186044416)(h:∀s w',Ow w' w.w.heap.size s (List.replicate N 0)→s.n=N→Ext aa w w'→s.blk=some w.w.heap.size→K s w'):mks w n n T.an 8 [.int .u64 0] K:=by
 subst hn;refine⟨om,Int.le_refl _,om,om,λb w' hnew=>h _ _ ⟨⟨⟨smp,.inr ⟨b,N,(List.replicate N [Value.int .u64 0]).flatten.toArray,smp,by have:=hnew.at_;omega,by simpa using hnew.heap,Nat.le_refl _,by simp only [maxLen];omega,smp,?_⟩⟩,?_⟩,Sm.zeros dcd N⟩ smp (hnew.ext _) (by simp [Sl.blk,hnew.at_])⟩
 ·have:(List.replicate N [Value.int .u64 0]).flatten=List.replicate N (Value.int .u64 0):=by
   induction N with
   | zero=>rfl
   | succ N _=>simp [List.replicate_succ]
  simp [this]
 ·intro c hc hV;simp [Sl.blk] at hc;rw [hnew.V] at hV;have:=w.lt _ hV;have:=hnew.at_;omega
theorem Ow.store(h:Ow w B s l){x:Nat}(hi:i=j)(hj:j<l.length)(hx:x<W64){y:Int}(hy:y=x){K:TW→Prop}(hK:∀w',Ow w' B s (l.set j x)→Ext (λb=>s.blk=some b) w w'→K w'):ixa s i 1 (λa=>stc w a (.int .u64 y) K):=by
 subst hi;subst hy;have hlen:=h.rd.len;rcases h.ow.form with ⟨hs,hv⟩|⟨b,cur,hp,hB,hg,hnc,hcm,hcs,ht,hV⟩
 ·have:=congrArg List.length hv;simp at this;subst this;simp at hj
 ·have hcur:j<cur.size:=om;refine⟨⟨b,0,none⟩,hp,om,om,?_⟩;rw [Int.toNat_natCast,Nat.mul_one,Addr.add_mk,Nat.zero_add];have hcell:w.w.cell? ⟨b,j,none⟩=some cur[j]:=by rw [cell_of_row w.w b j cur T.an (0,0) hg,Array.getElem?_eq_getElem hcur]
  have hset:(w.w.setCell ⟨b,j,none⟩ (U x)).heap[b]?=some (.cells (cur.set j (U x) hcur) T.an (0,0)):=by
   simp [World.setCell,Array.getElem?_modify,hg,Array.setIfInBounds,hcur]
  have hbk:s.blk=some b:=by simp [Sl.blk,hp]
  refine⟨⟨_,hcell⟩,by simp [World.frozen?,hg],hV,hK _ ⟨⟨⟨by simpa using hlen.symm,.inr ⟨b,s.c,_,by simp [hp],hB,hset,hnc,hcm,by simpa using hcs,?_⟩⟩,λc hc=>by rw [hbk] at hc;injection hc with hc;subst hc;exact hV⟩,h.sm.set j hx⟩ ?_⟩
  ·rw [Array.toList_set,List.take_set,ht,List.map_set]
  ·refine⟨rfl,rfl,rfl,by simp [TW.set,World.setCell],rfl,λ_ h=>h,λ_ h=>.inl h,λk hk hX _=>Below.heap_setCell w.w _ _ k (λe=>hX (by rw [hbk,e])),λk hk=>jY _ _ _ _⟩
end
section
variable {B b j k x:Nat} {l m:List Nat} {c c4 d:CK} {w w':TW} {s:Sl} {X:Nat→Prop} {i:Int} {K:TW→Prop} {P:Program} {f:FuncId}
def sz(x:Nat):Nat:=(dg W64 x).length
theorem cQ(h:x<W64^k):sz x≤k:=jD W2 h
theorem gN(x:Nat):x<W64^sz x:=oo W2 x
theorem lK(h:sz x≤k):x<W64^k:=Nat.lt_of_lt_of_le (gN x) (Nat.pow_le_pow_right dcd h)
theorem aq{y:Nat}(h:x≤y):sz x≤sz y:=oO W2 h
theorem aA(x:Nat):(dg W64 x).length=sz x:=rfl
theorem kz{x:Nat}:sz x=0↔x=0:=kB W2
theorem df(h:Sm W64 l):sz (vl W64 l)≤l.length:=nJ W2 h
theorem xQ(h:0<x):W64^(sz x-1)≤x:=pT W2 h
theorem kI(x y:Nat):sz (x+y)≤max (sz x) (sz y)+1:=by
 refine cQ ?_;have h1:x<W64^max (sz x) (sz y):=lK om;have h2:y<W64^max (sz x) (sz y):=lK om;rw [Nat.pow_succ];have:2*W64^max (sz x) (sz y)≤W64^max (sz x) (sz y)*W64:=by rw [Nat.mul_comm];exact Nat.mul_le_mul_left _ W2
 omega
theorem dt(x y:Nat):sz (x*y)≤sz x+sz y:=by
 refine cQ ?_;rw [Nat.pow_add];exact Nat.mul_lt_mul'' (gN x) (gN y)
theorem gI(h:x<W64):sz x≤1:=cQ (by simpa using h)
theorem adX(h1:W64^k≤x)(h2:x<W64^(k+1)):sz x=k+1:=by
 have h3:=cQ h2;rcases Nat.lt_or_ge k (sz x) with h|h
 ·omega
 ·have:=lK h;omega
theorem aj(b:Nat)(l:List Nat)(k:Nat):vl b (l.take (k+1))=vl b (l.take k)+b^k*l.getD k 0:=by
 rcases Nat.lt_or_ge k l.length with h|h
 ·rw [lq h];simp [h]
 ·rw [List.take_of_length_le om,List.take_of_length_le h];simp [h]
theorem Sm.getD(hb:0<b)(h:Sm b l)(k:Nat):l.getD k 0<b:=by
 rcases Nat.lt_or_ge k l.length with hk|hk
 ·have:=h.get hk;simpa [hk] using this
 ·simpa [hk] using hb
theorem jF(h:l.length≤k):l.getD k 0=0:=by simp [h]
theorem sz0:sz 0=0:=kz.2 rfl
theorem aJ(h:l.length≤k):vl b (l.take k)=vl b l:=by rw [List.take_of_length_le h]
theorem uL:vl b [x]=x:=by simp [vl]
theorem gG(b:Nat)(l:List Nat)(x:Nat):vl b (l++[x])=vl b l+b^l.length*x:=by rw [dY,uL]
theorem ad4{d:Nat}(h:d≤1):d<W64:=Nat.lt_of_le_of_lt h dcd
theorem w64:W64=18446744073709551616:=rfl
def Nt(w:TW)(s:Sl)(x:Nat):Prop:=∃l,Rd w s l∧vl W64 l=x
def On(w:TW)(B:Nat)(s:Sl)(x:Nat):Prop:=Ow w B s (dg W64 x)
theorem On.nt(h:On w B s x):Nt w s x:=⟨_,h.rd,aV W2 x⟩
theorem Rd.nt(h:Rd w s l):Nt w s (vl W64 l):=⟨l,h,rfl⟩
theorem Nt.extX(h:Nt w s x)(hx:Ext X w w')(hX:∀b,s.blk=some b→¬X b):Nt w' s x:=h.imp λ_ h=>⟨h.1.extX hx hX,h.2⟩
theorem Nt.ext(h:Nt w s x)(hx:Ext aa w w'):Nt w' s x:=h.imp λ_ h=>⟨h.1.ext hx,h.2⟩
theorem Nt.here(h:Nt w s x):Nt w.here s x:=h.imp λ_ h=>⟨h.1.here,h.2⟩
theorem Nt.drew(h:Nt w s x):Nt w.drew s x:=h.imp λ_ h=>⟨h.1.drew,h.2⟩
theorem On.ext(h:On w B s x)(hx:Ext aa w w'):On w' B s x:=Ow.ext h hx
theorem On.extX(h:On w B s x)(hx:Ext X w w')(hX:∀b,s.blk=some b→¬X b):On w' B s x:=Ow.extX h hx hX
theorem On.less{B':Nat}(h:On w B s x)(hB:B'≤B):On w B' s x:=Ow.less h hB
theorem On.len(h:On w B s x):s.n=sz x:=h.rd.len
theorem Nt.nil(w:TW):Nt w Sl.nil 0:=⟨[],Rd.nil w,rfl⟩
theorem Ow.nil(w:TW)(B:Nat):Ow w B Sl.nil []:=⟨⟨⟨rfl,.inl ⟨rfl,rfl⟩⟩,λb h=>by simp [Sl.blk] at h⟩,Sm.nil _⟩
theorem On.nil(w:TW)(B:Nat):On w B Sl.nil 0:=by have:=Ow.nil w B;rwa [←az W64] at this
theorem Ow.at(h:Ow w B s l):Ow (w.at k) B s l:=⟨⟨h.ow.1,h.ow.2⟩,h.sm⟩
theorem On.at(h:On w B s x):On (w.at k) B s x:=Ow.at h
theorem Rd.at_(h:Rd w s l):Rd (w.at k) s l:=⟨h.rv,h.sm⟩
theorem Nt.at(h:Nt w s x):Nt (w.at k) s x:=h.imp λ_ h=>⟨h.1.at_,h.2⟩
theorem Ow.here(h:Ow w B s l):Ow w.here B s l:=⟨⟨h.ow.1,h.ow.2⟩,h.sm⟩
theorem Ow.drew(h:Ow w B s l):Ow w.drew B s l:=⟨⟨h.ow.1,h.ow.2⟩,h.sm⟩
theorem Rd.ix(h:Rd w s l)(hi:i=j)(hj:j<l.length){K:Int→Prop}(hK:K (l.getD j 0:Nat)):ixa s i 1 (λa=>ldc (.int .u64) w a K):=by
 rw [show l.getD j 0=l[j] by simp [hj]] at hK;exact h.idx hi hj hK
theorem Rd.lt(h:Rd w s l)(j:Nat):l.getD j 0<18446744073709551616:=h.sm.getD dcd j
theorem Rd.at0(h:Rd w s l){x:Int}(hx:x=j){K:Int→TW→Prop}(hK:K (l.getD j 0:Nat) w):
  Jn [.int .u64] (λJ=>cond (decide (x<(s.n:Int))) (ixa s x 1 λa=>ldc (.int .u64) w a λv=>J v w) (J 0 w)) K:=by
 refine zT ?_;have hl:=h.len;subst hx;refine ac (λh0=>?_) (λh0=>?_)
 ·have h0:j<l.length:=om;refine h.idx rfl h0 ?_;rw [show l[j]=l.getD j 0 by simp [h0]];exact hK
 ·have h0:l.length≤j:=om;rw [show l.getD j 0=0 by simp [h0]] at hK;exact hK
theorem aaG(P:List Nat)(k x:Nat):(P++List.replicate (k+1) 0).set P.length x=(P++[x])++List.replicate k 0:=by
 simp [List.replicate_succ]
theorem Ow.put{P:List Nat}(h:Ow w B s (P++List.replicate (k+1) 0))(hi:i=P.length)(hx:x<W64){y:Int}(hy:y=x)(hK:∀w',Ow w' B s ((P++[x])++List.replicate k 0)→Ext (λb=>s.blk=some b) w w'→K w'):ixa s i 1 (λa=>stc w a (.int .u64 y) K):=by
 refine h.store hi smp hx hy λw' h' hx'=>hK w' ?_ hx'
 rwa [aaG] at h'
theorem Rd.trim(h:Rd w s l):Rd w (s.cut 0 (sz (vl W64 l)) 1) (dg W64 (vl W64 l)):=by
 have:=h.cut (Nat.zero_le _) (df h.sm);rwa [List.drop_zero,sz,←(ol W2 h.sm).1] at this
theorem Ow.cut0(h:Ow w B s l){n:Nat}(hn:n≤l.length):Ow w B (s.cut 0 n 1) (l.take n):=by
 have hl:=h.rd.len;rcases h.ow.form with ⟨rfl,hv⟩|⟨b,cur,hp,hB,hg,hnc,hcm,hcs,ht,hV⟩
 ·have:l=[]:=by simpa using hv
  subst this;have:n=0:=by simpa using hn
  subst this;simpa [Sl.cut] using Ow.nil w B
 ·have hb:(s.cut 0 n 1).p=some ⟨b,0,none⟩:=by
   simp only [Sl.cut];split
   ·exact hp
   ·simp [hp,Addr.add_mk]
  refine⟨⟨⟨by simp [Sl.cut];omega,.inr ⟨b,s.c,cur,?_,hB,hg,by simp [Sl.cut];omega,hcm,hcs,?_⟩⟩,λc hc=>?_⟩,h.sm.take n⟩
  ·rw [Sl.v,hb];simp [Sl.cut]
  ·simp only [Sl.cut,Nat.sub_zero,List.map_take,←ht,List.take_take,Nat.mul_one];congr 1;omega
  ·simp [Sl.blk,hb] at hc;subst hc;exact hV
theorem Ow.trim(h:Ow w B s l):On w B (s.cut 0 (sz (vl W64 l)) 1) (vl W64 l):=by
 have:=h.cut0 (df h.sm);rwa [sz,←(ol W2 h.sm).1] at this
theorem tX(l:List Nat):∀v∈l.map U,v.oneCell'=true:=by
 intro v hv;obtain⟨x,_,rfl⟩:=List.mem_map.1 hv;rfl
theorem Ow.cat{x:Sl}(h:Ow w B s l)(k:Rd w x m)(hB:B≤w.w.heap.size)(hn:l.length+m.length≤1099511627776){K:Sl→TW→Prop}(hK:∀s' w',Ow w' B s' (l++m)→Ext (λb=>s.blk=some b) w w'→(∀b,s'.blk=some b→s.blk=some b∨w.w.heap.size≤b)→K s' w'):apd w T.an 1 8 s x K:=by
 have h1:=h.rd.len;have h2:=k.len;refine⟨B,l.map U,m.map U,h.ow,k.rv,hB,tX m,by simp only [maxLen];omega,om,λs' w' ho _ hx hb=>hK s' w' ⟨by simpa using ho,h.sm.append k.sm⟩ hx hb⟩
theorem Rd.copy{x:Sl}(k:Rd w x m)(hB:B≤w.w.heap.size)(hn:m.length≤1099511627776){K:Sl→TW→Prop}(hK:∀s' w',Ow w' B s' m→Ext aa w w'→(∀b,s'.blk=some b→w.w.heap.size≤b)→K s' w'):apd w T.an 1 8 Sl.nil x K:=
 (Ow.nil w B).cat k hB (by simpa using hn) λs' w' h hx hb=>hK s' w' h (hx.mono λb _ h=>by simp [Sl.blk] at h) (λb h=>(hb b h).elim (λh=>by simp [Sl.blk] at h) id)
theorem Ext.own{w0:TW}(h:Ext aa w0 w)(k:Ext X w w')(hX:∀b,X b→w0.w.heap.size≤b):Ext aa w0 w':=h.mine k hX
theorem Ow.blk_le(h:Ow w B s l):∀b,s.blk=some b→B≤b:=λb hb=>(h.from_ b hb).1
theorem j0{A:(TW→Prop)→Prop}(J:TW→Prop)(h1:A J)(h2:∀ w,J  w→K  w):Jn [] A K:=⟨J,h1,h2⟩
theorem j1{c1:CK}{A:(CV c1→TW→Prop)→Prop}{K:CV c1→TW→Prop}(J:CV c1→TW→Prop)(h1:A J)(h2:∀x1 w,J x1 w→K x1 w):Jn [c1] A K:=⟨J,h1,h2⟩
theorem j2{c1 c2:CK}{A:(CV c1→CV c2→TW→Prop)→Prop}{K:CV c1→CV c2→TW→Prop}(J:CV c1→CV c2→TW→Prop)(h1:A J)(h2:∀x1 x2 w,J x1 x2 w→K x1 x2 w):Jn [c1,c2] A K:=⟨J,h1,h2⟩
theorem j3{c1 c2 c3:CK}{A:(CV c1→CV c2→CV c3→TW→Prop)→Prop}{K:CV c1→CV c2→CV c3→TW→Prop}(J:CV c1→CV c2→CV c3→TW→Prop)(h1:A J)(h2:∀x1 x2 x3 w,J x1 x2 x3 w→K x1 x2 x3 w):Jn [c1,c2,c3] A K:=⟨J,h1,h2⟩
theorem j4{c1 c2 c3:CK}{A:(CV c1→CV c2→CV c3→CV c4→TW→Prop)→Prop}{K:CV c1→CV c2→CV c3→CV c4→TW→Prop}(J:CV c1→CV c2→CV c3→CV c4→TW→Prop)(h1:A J)(h2:∀x1 x2 x3 x4 w,J x1 x2 x3 x4 w→K x1 x2 x3 x4 w):Jn [c1,c2,c3,c4] A K:=⟨J,h1,h2⟩
theorem j5{c1 c2 c3 c5:CK}{A:(CV c1→CV c2→CV c3→CV c4→CV c5→TW→Prop)→Prop}{K:CV c1→CV c2→CV c3→CV c4→CV c5→TW→Prop}(J:CV c1→CV c2→CV c3→CV c4→CV c5→TW→Prop)(h1:A J)(h2:∀x1 x2 x3 x4 x5 w,J x1 x2 x3 x4 x5 w→K x1 x2 x3 x4 x5 w):Jn [c1,c2,c3,c4,c5] A K:=⟨J,h1,h2⟩
theorem c1{args:List Value}{Φ K:CV c→TW→Prop}(h:Ct P f args w aa [.one c] Φ)(hK:∀x w',Ext aa w w'→Φ x w'→K x w'):cl P f args w [.one c] K:=cl0 h hK
theorem c2{args:List Value}{Φ K:CV c→CV d→TW→Prop}(h:Ct P f args w aa [.one c,.one d] Φ)(hK:∀x y w',Ext aa w w'→Φ x y w'→K x y w'):cl P f args w [.one c,.one d] K:=cl0 h hK
theorem c3{args:List Value}{e:CK}{Φ K:CV c→CV d→CV e→TW→Prop}(h:Ct P f args w aa [.one c,.one d,.one e] Φ)(hK:∀x y z w',Ext aa w w'→Φ x y z w'→K x y z w'):cl P f args w [.one c,.one d,.one e] K:=cl0 h hK
end
section
variable {k n x y:Nat} {N X Y:Int} {K:Int→Prop} {w:TW}
theorem abn(x y:Nat):((x:Int).fdiv (y:Int))=((x/y:Nat):Int):=by
 rw [Int.fdiv_eq_ediv_of_nonneg _ om];rfl
theorem jC{k:IntKind}(hX:X=x)(hN:N=n)(hn:n≤k.bits)(h:K ((x/2^n:Nat):Int)):gJ k X N K:=by
 subst hX hN;refine⟨om,?_⟩;rw [Int.toNat_natCast,Nat.min_eq_left hn,show ((2:Int)^n)=((2^n:Nat):Int) by simp,abn];exact h
theorem oy(hX:X=x)(hN:N=n)(hn:n≤64)(h:K ((x*2^n%W64:Nat):Int)):jv .u64 X N K:=by
 subst hX hN;refine⟨om,?_⟩;rw [Int.toNat_natCast,Nat.min_eq_left (by simpa [IntKind.bits] using hn),show ((x:Int)*(2:Int)^n)=((x*2^n:Nat):Int) by simp];have:=rG (x*2^n);rw [wu] at this;rw [this];exact h
theorem j6(hX:X=x)(hY:Y=y)(hx:x<W64)(h0:y≠0)(h:K ((x/y:Nat):Int)):d9 .u64 X Y K:=by
 subst hX hY;refine⟨om,?_⟩;rw [Int.tdiv_eq_ediv_of_nonneg om,show ((x:Int)/(y:Int))=((x/y:Nat):Int) by rfl];have:=uy (Nat.lt_of_le_of_lt (Nat.div_le_self x y) hx);rw [wu] at this;rw [this];exact h
theorem jb(hX:X=x)(hY:Y=y)(hx:x≤9223372036854775807)(h0:y≠0)(h:K ((x/y:Nat):Int)):d9 .i64 X Y K:=by
 subst hX hY;refine⟨om,?_⟩;rw [Int.tdiv_eq_ediv_of_nonneg om,show ((x:Int)/(y:Int))=((x/y:Nat):Int) by rfl];have h1:=Nat.div_le_self x y;have:=ar (x:=((x/y:Nat):Int)) (by exact Int.le_trans dcd (Int.natCast_nonneg _)) (by have h2:=Int.ofNat_le.2 (Nat.le_trans h1 hx);exact h2);rw [wi] at this;rw [this];exact h
theorem eP(hX:X=x)(hY:Y=y)(h0:y≠0)(h:K ((x%y:Nat):Int)):dV X Y K:=by
 subst hX hY;refine⟨om,?_⟩;rw [Int.tmod_eq_emod_of_nonneg om];exact h
theorem uk{op:BinOp}{z:Nat}(hz:z<W64)(h:bg op .u64 (x:Int) (y:Int)=IntKind.u64.wrap (z:Int)):bg op .u64 (x:Int) (y:Int)=z:=by
 rw [h];exact uy hz
theorem oQ(hx:x<W64):(BitVec.ofInt 64 (x:Int)).toNat=x:=by
 rw [BitVec.ofInt_natCast,BitVec.toNat_ofNat];exact Nat.mod_eq_of_lt hx
theorem qE(hX:X=x)(hY:Y=y)(hx:x<W64)(hy:y<W64)(h:K ((x &&& y:Nat):Int)):bnd (bg .and .u64 X Y) K:=by
 subst hX hY;unfold bnd;rw [uk (Nat.lt_of_le_of_lt Nat.and_le_left hx) (z:=x &&& y)]
 ·exact h
 ·have e:(BitVec.ofInt 64 (x:Int) &&& BitVec.ofInt 64 (y:Int)).toNat=x &&& y:=by rw [BitVec.toNat_and,oQ hx,oQ hy]
  show IntKind.u64.wrap (((BitVec.ofInt 64 (x:Int) &&& BitVec.ofInt 64 (y:Int)).toNat:Nat):Int)=_;rw [e]
theorem sM(hX:X=x)(hY:Y=y)(hx:x<W64)(hy:y<W64)(h:K ((x ||| y:Nat):Int)):bnd (bg .or .u64 X Y) K:=by
 subst hX hY;unfold bnd;rw [uk (Nat.or_lt_two_pow (n:=64) hx hy) (z:=x ||| y)]
 ·exact h
 ·have e:(BitVec.ofInt 64 (x:Int) ||| BitVec.ofInt 64 (y:Int)).toNat=x ||| y:=by rw [BitVec.toNat_or,oQ hx,oQ hy]
  show IntKind.u64.wrap (((BitVec.ofInt 64 (x:Int) ||| BitVec.ofInt 64 (y:Int)).toNat:Nat):Int)=_;rw [e]
theorem mZ(hX:X=x)(hY:Y=(2^k-1:Nat))(hx:x<W64)(hk:k≤64)(h:K ((x%2^k:Nat):Int)):bnd (bg .and .u64 X Y) K:=by
 have:2^k≤2^64:=Nat.pow_le_pow_right dcd hk;have h0:=Nat.two_pow_pos k;refine qE hX hY hx (by show _<2^64;omega) ?_;rwa [Nat.and_two_pow_sub_one_eq_mod]
theorem abE(hX:X=x)(hY:Y=y)(hx:x<W64)(hy:y<W64)(h1:2^k ∣ x)(h2:y<2^k)(h:K ((x+y:Nat):Int)):bnd (bg .or .u64 X Y) K:=by
 refine sM hX hY hx hy ?_;obtain⟨q,rfl⟩:=h1;rwa [←Nat.two_pow_add_eq_or_of_lt h2]
theorem uj(hX:X=x)(hY:Y=y)(hx:x<W64)(hy:y<W64)(h1:2^k ∣ y)(h2:x<2^k)(h:K ((x+y:Nat):Int)):bnd (bg .or .u64 X Y) K:=by
 refine sM hX hY hx hy ?_;obtain⟨q,rfl⟩:=h1;rwa [Nat.or_comm,←Nat.two_pow_add_eq_or_of_lt h2,Nat.add_comm]
theorem Ow.cpy{B:Nat}{d s:Sl}{l m:List Nat}(h:Ow w B d l)(k:Rd w s m)(hle:m.length≤l.length){K:Int→TW→Prop}(hK:∀w',Ow w' B d (m++l.drop m.length)→Ext (λb=>d.blk=some b) w w'→K (m.length:Nat) w'):cpy w T.an d s K:=by
 have hd:=h.rd.len;have hs:=k.len;have hmin:min s.n d.n=m.length:=om;rcases h.ow.form with ⟨rfl,hv⟩|⟨b,cur,hp,hB,hg,hnc,hcm,hcs,ht,hV⟩
 ·have hl:l=[]:=by simpa using hv
  subst hl;have hm:m=[]:=by simpa using hle
  subst hm;exact .inl ⟨hmin,by simpa using hK w (by simpa using h) (Ext.refl _ _)⟩
 ·refine .inr ⟨m.map U,b,0,cur,k.rv,tX m,hp,hV,hg,om,λw' hw hx=>?_⟩;rw [hmin];have hbk:d.blk=some b:=by simp [Sl.blk,hp]
  refine hK w' ⟨⟨⟨by simp;omega,.inr ⟨b,d.c,_,by simp [hp],hB,hw,hnc,hcm,?_,?_⟩⟩,λc hc hV'=>?_⟩,k.sm.append (h.sm.drop _)⟩ (hx.mono λk _ e=>by subst e;exact hbk)
  ·simp [splice];omega
  ·rw [Nat.mul_one] at ht ⊢;have hlen:cur.toList.length=d.c:=by simpa using hcs
   have e:List.map U (m++l.drop m.length)=m.map U++(cur.toList.take d.n).drop m.length:=by rw [ht];simp
   rw [e];simp only [splice,List.take_zero,List.nil_append,Nat.zero_add];rw [hmin,List.take_of_length_le (by simp:(m.map U).length≤m.length),List.take_append];simp only [List.length_map];rw [List.take_of_length_le (by simp;omega),List.drop_take]
  ·rw [hbk] at hc;cases hc;rcases hx.new b hV' with h|h
   ·exact hV h
   ·have:=(Array.getElem?_eq_some_iff.1 hg).1;omega
theorem vk{y:Int}{K:Nat→TW→Prop}(hy:y=x)(hx:x<W64)(h:∀b w',Ow w' w.w.heap.size ⟨some ⟨b,0,none⟩,1,1⟩ [x]→Ext aa w w'→K b w'):nwb w [.int .u64 y] T.an K:=by
 subst hy;intro b w' hn;refine h b w' ⟨⟨⟨smp,.inr ⟨b,1,#[U x],rfl,by have:=hn.at_;omega,by simpa using hn.heap,Nat.le_refl _,dcd,smp,smp⟩⟩,λc hc hV=>?_⟩,Sm.cons hx (Sm.nil _)⟩ (hn.ext _);simp [Sl.blk] at hc;rw [hn.V] at hV;have:=w.lt _ hV;have:=hn.at_;omega
end
end Go.Proofs.YtpbimnlggalnfaaGreatDoor.Zg
