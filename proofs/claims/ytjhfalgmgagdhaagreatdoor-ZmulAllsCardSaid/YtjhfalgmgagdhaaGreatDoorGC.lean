/- A part of the proofs of this seat's laws: words, lemmas or contracts of its functions. -/
import Derived.Test.YtjhfalgmgagdhaaGreatDoorProg
import Derived.Test.YtjhfalgmgagdhaaGreatDoorGB
set_option linter.unusedVariables false
set_option linter.unusedSimpArgs false
set_option linter.unnecessarySimpa false
section
namespace Go.Proofs.YtjhfalgmgagdhaaGreatDoor.Zg
noncomputable abbrev Pg:Program:=Go.Proofs.Tryz.prog
abbrev F.zigguratlaw29_ZmulWays:FuncId:=4
abbrev F.zigguratlaw29_ZmulTables:FuncId:=5
abbrev F.zigguratlaw29_ZmulAlls:FuncId:=6
abbrev F.modn_New:FuncId:=7
abbrev F.zigguratkeep_Within:FuncId:=9
abbrev F.zigguratref02_Cmp:FuncId:=13
abbrev F.zigguratkeep_Same:FuncId:=15
abbrev F.zigguratlaw29_cut:FuncId:=16
abbrev F.zmul_New:FuncId:=17
abbrev F.zigguratkeep_CopyInts:FuncId:=18
abbrev F.zigguratref28_Mul:FuncId:=19
abbrev F.zigguratref28_Same:FuncId:=20
abbrev F.zmul_Engine_Times:FuncId:=21
abbrev F.zmul_Engine_Kron:FuncId:=22
abbrev F.zmul_Engine_Many:FuncId:=23
abbrev F.polyz_Engine_Hand:FuncId:=24
abbrev F.zigguratref28_Height:FuncId:=25
abbrev F.zmul_Engine_Bound:FuncId:=26
abbrev F.zigguratkeep_Ints:FuncId:=27
abbrev F.zigguratlaw29_wakes:FuncId:=28
abbrev F.zigguratkeep_CutInts:FuncId:=29
abbrev F.num_Of:FuncId:=30
abbrev F.zigguratkeep_Int:FuncId:=31
abbrev F.num_Engine_Times:FuncId:=32
abbrev F.zmul_Engine_All:FuncId:=33
abbrev F.zigguratref28_Pow:FuncId:=34
abbrev F.zmul_Engine_Pow:FuncId:=35
abbrev F.hgcd_New:FuncId:=36
abbrev F.zigguratkeep_Cut:FuncId:=37
abbrev F.api_Nat_Zero:FuncId:=38
abbrev F.limb_One:FuncId:=39
abbrev F.modn_Engine_Inverse:FuncId:=40
abbrev F.div_Engine_DivMod:FuncId:=41
abbrev F.limb_Cmp:FuncId:=42
abbrev F.limb_Add:FuncId:=43
abbrev F.limb_Sub:FuncId:=44
abbrev F.mul_Engine_Mul:FuncId:=45
abbrev F.modn_Engine_Signed:FuncId:=46
abbrev F.zigguratref02_From:FuncId:=47
abbrev F.zigguratref28_From:FuncId:=49
abbrev F.polyz_New:FuncId:=50
abbrev F.zigguratkeep_CopyInt:FuncId:=51
abbrev F.zigguratref17_Add:FuncId:=52
abbrev F.zigguratref17_Mul:FuncId:=53
abbrev F.zigguratref28_norm:FuncId:=54
abbrev F.zigguratref28_To:FuncId:=55
abbrev F.zigguratref02_Same:FuncId:=56
abbrev F.polyz_Deg:FuncId:=57
abbrev F.polyz_Norm:FuncId:=58
abbrev F.zmul_half:FuncId:=59
abbrev F.zmul_unpacked:FuncId:=60
abbrev F.num_Norm:FuncId:=61
abbrev F.api_Nat_Bits:FuncId:=62
abbrev F.zmul_before:FuncId:=63
abbrev F.zmul_Engine_modulo:FuncId:=64
abbrev F.zmul_Engine_more:FuncId:=65
abbrev F.limb_MulWord:FuncId:=66
abbrev F.polyz_trim:FuncId:=67
abbrev F.num_Add:FuncId:=68
abbrev F.polyz_Engine_product:FuncId:=69
abbrev F.zigguratref02_Bits:FuncId:=70
abbrev F.polyz_Height:FuncId:=71
abbrev F.bits_Len:FuncId:=72
abbrev F.zmul_Engine_Unpack:FuncId:=73
abbrev F.zigguratref17_Small:FuncId:=74
abbrev F.zigguratkeep_CutInt:FuncId:=75
abbrev F.num_made:FuncId:=76
abbrev F.gcd_New:FuncId:=77
abbrev F.api_Nat_Len:FuncId:=78
abbrev F.hgcd_Engine_Xgcd:FuncId:=79
abbrev F.modn_Engine_Residue:FuncId:=80
abbrev F.divs_Engine_Long:FuncId:=81
abbrev F.div_Engine_newton:FuncId:=82
abbrev F.div_Engine_Halves:FuncId:=83
abbrev F.limb_trim:FuncId:=84
abbrev F.mul_Engine_times:FuncId:=87
abbrev F.mul_words:FuncId:=88
abbrev F.limb_Shl:FuncId:=89
abbrev F.zigguratref02_norm:FuncId:=90
abbrev F.zigguratref17_From:FuncId:=93
abbrev F.zigguratkeep_Copy:FuncId:=94
abbrev F.zigguratref17_made:FuncId:=95
abbrev F.zigguratref02_Add:FuncId:=96
abbrev F.zigguratref02_Sub:FuncId:=97
abbrev F.zigguratref02_Mul:FuncId:=98
abbrev F.zigguratref17_Zero:FuncId:=99
abbrev F.zigguratref17_To:FuncId:=100
abbrev F.zigguratref02_To:FuncId:=101
abbrev F.zmul_shifted:FuncId:=102
abbrev F.zmul_digits:FuncId:=103
abbrev F.limb_Norm:FuncId:=104
abbrev F.bits_Len64:FuncId:=105
abbrev F.prime_Is:FuncId:=106
abbrev F.polyz_Reduce:FuncId:=107
abbrev F.pmul_New:FuncId:=108
abbrev F.pmul_Engine_Mul:FuncId:=109
abbrev F.meter_Meter_Spend:FuncId:=110
abbrev F.meter_Meter_Muls:FuncId:=111
abbrev F.limb_DivWord:FuncId:=112
abbrev F.limb_AddMul:FuncId:=113
abbrev F.zigguratref02_Small:FuncId:=115
abbrev F.power_New:FuncId:=116
abbrev F.hgcd_Engine_Steps:FuncId:=117
abbrev F.bits_LeadingZeros64:FuncId:=118
abbrev F.word_Inverse2:FuncId:=119
abbrev F.divs_digit:FuncId:=120
abbrev F.limb_Shr:FuncId:=121
abbrev F.recip_Engine_Recip:FuncId:=122
abbrev F.div_Engine_two:FuncId:=123
abbrev F.limb_Join:FuncId:=124
abbrev F.div_piece:FuncId:=125
abbrev F.mul_Engine_long:FuncId:=126
abbrev F.mul_Engine_gone:FuncId:=127
abbrev F.table_Tune_Route:FuncId:=128
abbrev F.school_Engine_Mul:FuncId:=129
abbrev F.limb_within:FuncId:=130
abbrev F.zigguratref02_Zero:FuncId:=131
abbrev F.limb_Low:FuncId:=132
abbrev F.bits_TrailingZeros64:FuncId:=133
abbrev F.prime_witness:FuncId:=134
abbrev F.polyz_residue:FuncId:=135
abbrev F.polyp_New:FuncId:=136
abbrev F.polyp_Ring_Norm:FuncId:=137
abbrev F.polyp_Ring_Times:FuncId:=138
abbrev F.pmul_Engine_kara:FuncId:=139
abbrev F.pmul_Engine_Ntt:FuncId:=140
abbrev F.pmul_Engine_Kron:FuncId:=141
abbrev F.bits_Div64:FuncId:=142
abbrev F.bits_Mul64:FuncId:=143
abbrev F.num_New:FuncId:=144
abbrev F.hgcd_Unit:FuncId:=145
abbrev F.lead_Find:FuncId:=146
abbrev F.lead_Row_Apply:FuncId:=147
abbrev F.hgcd_behind:FuncId:=148
abbrev F.hgcd_Engine_one:FuncId:=149
abbrev F.hgcd_norm:FuncId:=150
abbrev F.word_Inverse:FuncId:=151
abbrev F.word_Div3:FuncId:=152
abbrev F.recip_Engine_newton:FuncId:=153
abbrev F.meter_Meter_Enter:FuncId:=154
abbrev F.limb_Split:FuncId:=155
abbrev F.div_Engine_three:FuncId:=156
abbrev F.meter_Meter_Leave:FuncId:=157
abbrev F.mul_Engine_pieces:FuncId:=158
abbrev F.mul_Engine_block:FuncId:=159
abbrev F.kara_Engine_Kara:FuncId:=160
abbrev F.toom_Engine_Toom:FuncId:=161
abbrev F.conv_Mul:FuncId:=162
abbrev F.table_Route:FuncId:=163
abbrev F.prime_pow:FuncId:=164
abbrev F.prime_mul:FuncId:=165
abbrev F.prime_Mod:FuncId:=166
abbrev F.modw_Mod_Red:FuncId:=167
abbrev F.polyp_trim:FuncId:=168
abbrev F.modw_Mod_Add:FuncId:=169
abbrev F.modw_Mod_Mul:FuncId:=170
abbrev F.polyp_Ring_Plus:FuncId:=171
abbrev F.pmul_Engine_moved:FuncId:=172
abbrev F.polyp_Ring_Minus:FuncId:=173
abbrev F.conv_Words:FuncId:=174
abbrev F.pmul_Engine_residue:FuncId:=175
abbrev F.modw_Mod_P:FuncId:=176
abbrev F.pmul_packed:FuncId:=177
abbrev F.radix_New:FuncId:=178
abbrev F.lead_words:FuncId:=179
abbrev F.lead_word:FuncId:=180
abbrev F.lead_less:FuncId:=181
abbrev F.hgcd_by:FuncId:=182
abbrev F.word_below:FuncId:=183
abbrev F.recip_power:FuncId:=184
abbrev F.recip_Engine_step:FuncId:=185
abbrev F.recip_Engine_right:FuncId:=186
abbrev F.kara_piece:FuncId:=187
abbrev F.kara_wide:FuncId:=188
abbrev F.toom_Points:FuncId:=189
abbrev F.toom_wide:FuncId:=190
abbrev F.toom_joined:FuncId:=191
abbrev F.conv_Carry:FuncId:=192
abbrev F.table_may:FuncId:=193
abbrev F.table_route:FuncId:=194
abbrev F.table_Clamp:FuncId:=195
abbrev F.modw_New:FuncId:=196
abbrev F.modw_Mod_add:FuncId:=197
abbrev F.modw_Mod_mul:FuncId:=198
abbrev F.modw_Mod_Sub:FuncId:=199
abbrev F.polyp_at:FuncId:=200
abbrev F.conv_may:FuncId:=201
abbrev F.conv_joined:FuncId:=202
abbrev F.conv_Words_1:FuncId:=203
abbrev F.ntt_Plan_Conv:FuncId:=204
abbrev F.root_New:FuncId:=205
abbrev F.lead_Row_quotient:FuncId:=206
abbrev F.lead_Row_next:FuncId:=207
abbrev F.limb_SubMul:FuncId:=208
abbrev F.toom_part:FuncId:=209
abbrev F.toom_less:FuncId:=210
abbrev F.limb_Sum:FuncId:=211
abbrev F.toom_sub2:FuncId:=212
abbrev F.toom_sub:FuncId:=213
abbrev F.toom_Third:FuncId:=214
abbrev F.table_within:FuncId:=215
abbrev F.modw_Mod_sub:FuncId:=216
abbrev F.conv_begun:FuncId:=217
abbrev F.ntt_New:FuncId:=218
abbrev F.conv_log:FuncId:=219
abbrev F.conv_crt_three:FuncId:=220
abbrev F.ntt_Plan_Size:FuncId:=221
abbrev F.ntt_Plan_cyclic:FuncId:=222
abbrev F.div_New:FuncId:=223
abbrev F.prime_Three:FuncId:=224
abbrev F.modw_Mod_Inv:FuncId:=225
abbrev F.prime_Root:FuncId:=226
abbrev F.ntt_powers:FuncId:=227
abbrev F.ntt_Plan_forward:FuncId:=228
abbrev F.ntt_Plan_inverse:FuncId:=229
abbrev F.recip_New:FuncId:=230
abbrev F.modw_Mod_Pow:FuncId:=231
abbrev F.modw_Mod_Shoup:FuncId:=232
abbrev F.ntt_Plan_turned:FuncId:=233
abbrev F.ntt_Plan_transform:FuncId:=234
abbrev F.divs_New:FuncId:=235
abbrev F.modw_Mod_mont:FuncId:=236
abbrev F.modw_Mod_redc:FuncId:=237
abbrev F.bits_Reverse64:FuncId:=238
abbrev F.modw_Mod_ShoupMul:FuncId:=239
abbrev F.mul_New:FuncId:=240
abbrev F.bits_ReverseBytes64:FuncId:=241
abbrev F.toom_New:FuncId:=242
abbrev F.kara_New:FuncId:=243
abbrev F.school_New:FuncId:=244
abbrev F.table_New:FuncId:=245
abbrev T.uint8:TypeId:=5
abbrev T.s_uint64:TypeId:=30
abbrev T.api_Nat:TypeId:=31
abbrev T.api_Pair:TypeId:=33
abbrev T.s_api_Int:TypeId:=44
abbrev T.zmul_Engine:TypeId:=57
abbrev T.api_Int:TypeId:=64
abbrev T.power_Engine:TypeId:=69
abbrev T.gcd_Engine:TypeId:=72
abbrev T.hgcd_Engine:TypeId:=75
abbrev T.modn_Engine:TypeId:=78
abbrev T.polyz_Engine:TypeId:=80
abbrev T.uint64:TypeId:=90
abbrev T.num_Engine:TypeId:=97
abbrev T.radix_Engine:TypeId:=100
abbrev T.root_Engine:TypeId:=103
abbrev T.div_Engine:TypeId:=110
abbrev T.recip_Engine:TypeId:=113
abbrev T.divs_Engine:TypeId:=116
abbrev T.zigguratref17_I:TypeId:=126
abbrev T.mul_Engine:TypeId:=134
abbrev T.toom_Engine:TypeId:=137
abbrev T.kara_Engine:TypeId:=140
abbrev T.school_Engine:TypeId:=143
abbrev T.table_Tune:TypeId:=147
abbrev T.pmul_Engine:TypeId:=195
abbrev T.t_64_uint8:TypeId:=239
abbrev T.polyp_Ring:TypeId:=245
abbrev T.t_3_uint64:TypeId:=251
abbrev T.modw_Mod:TypeId:=271
abbrev T.t_3_s_uint64:TypeId:=289
abbrev T.conv_crt:TypeId:=294
abbrev T.ntt_Plan:TypeId:=304
abbrev G.deBruijn64tab:Nat:=0
def Xt:List (FuncId × Nat):=[(2,0),(3,0),(4,0),(5,0),(6,0),(7,0),(8,0),(9,0),(10,0),(11,0),(12,0),(13,0),(14,0),(15,0),(16,0),(17,0),(18,0),(19,0),(20,0),(21,0),(22,0),(23,0),(24,0),(25,0),(26,0),(27,0),(28,0),(29,0),(30,0),(31,0),(32,0),(33,0),(34,0),(35,0),(36,0),(37,0),(38,0),(39,0),(40,0),(41,0),(42,0),(43,0),(44,0),(45,0),(46,0),(47,0),(48,0),(49,0),(50,0),(51,0),(52,0),(53,0),(54,0),(55,0),(56,0),(57,0),(58,0),(59,0),(60,0),(61,0),(62,0),(63,0),(64,0),(65,0),(66,0),(67,0),(68,0),(69,0),(70,0),(71,0),(72,0),(73,0),(74,0),(75,0),(76,0),(77,0),(78,0),(79,0),(80,0),(81,0),(82,0),(83,0),(84,0),(85,1),(86,2),(87,0),(88,0),(89,0),(90,0),(91,0),(92,0),(93,0),(94,0),(95,0),(96,0),(97,0),(98,0),(99,0),(100,0),(101,0),(102,0),(103,0),(104,0),(105,0),(106,0),(107,0),(108,0),(109,0),(110,0),(111,0),(112,0),(113,0),(114,0),(115,0),(116,0),(117,0),(118,0),(119,0),(120,0),(121,0),(122,0),(123,0),(124,0),(125,0),(126,0),(127,0),(128,0),(129,0),(130,0),(131,0),(132,0),(133,0),(134,0),(135,0),(136,0),(137,0),(138,0),(139,0),(140,0),(141,0),(142,0),(143,0),(144,0),(145,0),(146,0),(147,0),(148,0),(149,0),(150,0),(151,0),(152,0),(153,0),(154,0),(155,0),(156,0),(157,0),(158,0),(159,0),(160,0),(161,0),(162,0),(163,0),(164,0),(165,0),(166,0),(167,0),(168,0),(169,0),(170,0),(171,0),(172,0),(173,0),(174,0),(175,0),(176,0),(177,0),(178,0),(179,0),(180,0),(181,0),(182,0),(183,0),(184,0),(185,0),(186,0),(187,0),(188,0),(189,0),(190,0),(191,0),(192,0),(193,0),(194,0),(195,0),(196,0),(197,0),(198,0),(199,0),(200,0),(201,0),(202,0),(203,0),(204,0),(205,0),(206,0),(207,0),(208,0),(209,0),(210,0),(211,0),(212,0),(213,0),(214,0),(215,0),(216,0),(217,0),(218,0),(219,0),(220,0),(221,0),(222,0),(223,0),(224,0),(225,0),(226,0),(227,0),(228,0),(229,0),(230,0),(231,0),(232,0),(233,0),(234,0),(235,0),(236,0),(237,0),(238,0),(239,0),(240,0),(241,0),(242,0),(243,0),(244,0),(245,0),(266,0)]
theorem Xt_ok:XtOk Pg Xt:=XtOk.of (by kernel_rfl) 85 86 (by kernel_rfl) (by kernel_rfl)
 ⟨Go.Proofs.Tryz.f85,by kernel_rfl,by kernel_rfl,by kernel_rfl,by kernel_rfl,by kernel_rfl⟩ ⟨Go.Proofs.Tryz.f86,by kernel_rfl,by kernel_rfl,by kernel_rfl,by kernel_rfl,by kernel_rfl⟩
theorem follows_ok:Pg.follows .mixedOrders=true:=by kernel_rfl
abbrev KT (l:List VT):=Tel (fl l) (TW→Prop)
theorem cod {f:FuncId} {av:List Value} {w:TW} {X:Nat→Prop} {rt:List VT} {K:KT rt} (S:(Value→TW→Prop)→TW→Prop) (N:Nat) (va vb:List (Nat × Nat)) (ann:List (Nat × Nat × List (Nat × VT))) (fn:Func) (h:S (Rt X rt K w) w.here) (hf:Pg.funcs[f]?=some fn:=by kernel_rfl) (hb:fn.body=some (fn.body.getD .skip):=by kernel_rfl)
  (hok:(apartB N vb&&Nat.beq fn.ntmps N&&Nat.ble av.length N&&selOk (fn.body.getD .skip))=true:=by kernel_rfl) (he:∀R w,denF Pg ⟨N,va,vb,ann,Xt⟩ fn (fn.body.getD .skip) av w R=S R w:=by intro _ _;kernel_rfl):Ct Pg f av w X rt K:=
 ct_of_den (D:=⟨N,va,vb,ann,Xt⟩) Xt_ok follows_ok hf hb hok (Eq.mpr (he _ _) h)
end Go.Proofs.YtjhfalgmgagdhaaGreatDoor.Zg
end

section
namespace Go.Proofs.YtjhfalgmgagdhaaGreatDoor.Zg
def vl (b:Nat):List Nat→Nat
 | []=>0
 | x::l=>x+b*vl b l
def dg (b n:Nat):List Nat:=if 2≤b∧0<n then n%b::dg b (n/b) else []
termination_by n
decreasing_by
 rename_i h
 exact Nat.div_lt_self h.2 (by omega)
def Sm (b:Nat) (l:List Nat):Prop:=∀x∈l,x<b
theorem vl_nil (b:Nat):vl b []=0:=rfl
theorem vl_cons (b x:Nat) (l:List Nat):vl b (x::l)=x+b*vl b l:=rfl
theorem vl_append (b:Nat) (l m:List Nat):vl b (l++m)=vl b l+b^l.length*vl b m:=by
 induction l with
 | nil=>simp [vl]
 | cons x l ih=>
  simp only [List.cons_append,vl_cons,ih,List.length_cons]
  grind
theorem vl_lt {b:Nat}:∀{l:List Nat},Sm b l→vl b l<b^l.length
 | [],_=>by simp [vl]
 | x::l,h=>by
  have h1:x<b:=h x (.head _)
  have h2:=vl_lt (l:=l) (fun y hy=>h y (.tail _ hy))
  simp only [vl_cons,List.length_cons]
  have h3:b*(vl b l+1)≤b*b^l.length:=Nat.mul_le_mul_left _ h2
  grind
theorem vl_zeros (b n:Nat):vl b (List.replicate n 0)=0:=by
 induction n with
 | zero=>rfl
 | succ n ih=>simp [List.replicate_succ,vl_cons,ih]
theorem vl_take_succ {b:Nat} {l:List Nat} {k:Nat} (h:k<l.length):vl b (l.take (k+1))=vl b (l.take k)+b^k*l[k]:=by
 rw [List.take_succ_eq_append_getElem h,vl_append]
 simp [vl,List.length_take,Nat.min_eq_left (Nat.le_of_lt h)]
theorem vl_split (b:Nat) (l:List Nat) (k:Nat) (h:k≤l.length):vl b l=vl b (l.take k)+b^k*vl b (l.drop k):=by
 conv=>lhs;rw [←List.take_append_drop k l]
 rw [vl_append,List.length_take,Nat.min_eq_left h]
theorem vl_set {b:Nat}:∀{l:List Nat} {k:Nat} (h:k<l.length) (x:Nat),vl b (l.set k x)+b^k*l[k]=vl b l+b^k*x
 | y::l,0,h,x=>by simp [vl_cons];omega
 | y::l,k+1,h,x=>by
  have ih:=vl_set (b:=b) (l:=l) (k:=k) (by simpa using h) x
  simp only [List.set_cons_succ,vl_cons,List.getElem_cons_succ]
  grind
theorem Sm.take {b:Nat} {l:List Nat} (h:Sm b l) (k:Nat):Sm b (l.take k):=fun x hx=>h x (List.mem_of_mem_take hx)
theorem Sm.drop {b:Nat} {l:List Nat} (h:Sm b l) (k:Nat):Sm b (l.drop k):=fun x hx=>h x (List.mem_of_mem_drop hx)
theorem Sm.get {b:Nat} {l:List Nat} (h:Sm b l) {k:Nat} (hk:k<l.length):l[k]<b:=h _ (List.getElem_mem hk)
theorem Sm.set {b:Nat} {l:List Nat} (h:Sm b l) (k:Nat) {x:Nat} (hx:x<b):Sm b (l.set k x):=fun y hy=>by
 rcases List.mem_or_eq_of_mem_set hy with hy|rfl
 ·exact h y hy
 ·exact hx
theorem Sm.append {b:Nat} {l m:List Nat} (h:Sm b l) (k:Sm b m):Sm b (l++m):=fun x hx=>(List.mem_append.1 hx).elim (h x) (k x)
theorem Sm.nil (b:Nat):Sm b []:=fun x hx=>by cases hx
theorem Sm.zeros {b:Nat} (hb:0<b) (n:Nat):Sm b (List.replicate n 0):=fun x hx=>by rw [List.eq_of_mem_replicate hx];exact hb
theorem Sm.cons {b x:Nat} {l:List Nat} (hx:x<b) (h:Sm b l):Sm b (x::l):=fun y hy=>by
 rcases List.mem_cons.1 hy with rfl|hy
 ·exact hx
 ·exact h y hy
theorem dg_zero (b:Nat):dg b 0=[]:=by unfold dg;simp
theorem dg_pos {b n:Nat} (hb:2≤b) (hn:0<n):dg b n=n%b::dg b (n/b):=by
 rw [dg];simp [hb,hn]
theorem vl_dg {b:Nat} (hb:2≤b) (n:Nat):vl b (dg b n)=n:=by
 induction n using Nat.strongRecOn with
 | _ n ih=>
  by_cases hn:0<n
  ·rw [dg_pos hb hn,vl_cons,ih (n/b) (Nat.div_lt_self hn (by omega))]
   exact Nat.mod_add_div n b
  ·have:n=0:=by omega
   subst this
   rw [dg_zero];rfl
theorem dg_sm {b:Nat} (hb:2≤b) (n:Nat):Sm b (dg b n):=by
 induction n using Nat.strongRecOn with
 | _ n ih=>
  by_cases hn:0<n
  ·rw [dg_pos hb hn]
   exact .cons (Nat.mod_lt _ (by omega)) (ih (n/b) (Nat.div_lt_self hn (by omega)))
  ·have:n=0:=by omega
   subst this
   rw [dg_zero];exact .nil b
theorem vl_eq_zero {b:Nat} {l:List Nat} (hb:0<b) (h:vl b l=0):∀x∈l,x=0:=by
 induction l with
 | nil=>simp
 | cons x l ih=>
  rw [vl_cons] at h
  have h2:vl b l=0:=by
   rcases Nat.eq_zero_or_pos (vl b l) with h2|h2
   ·exact h2
   ·have:=Nat.mul_pos hb h2;omega
  intro y hy
  rcases List.mem_cons.1 hy with rfl|hy
  ·omega
  ·exact ih h2 y hy
theorem dg_vl {b:Nat} (hb:2≤b):∀{l:List Nat},Sm b l→dg b (vl b l)=l.take (dg b (vl b l)).length∧(dg b (vl b l)).length≤l.length
 | [],_=>by simp [vl,dg_zero]
 | x::l,h=>by
  obtain ⟨h1,h2⟩:=dg_vl hb (l:=l) (fun y hy=>h y (.tail _ hy))
  have hx:x<b:=h x (.head _)
  by_cases hv:0<vl b (x::l)
  ·have e1:vl b (x::l)%b=x:=by rw [vl_cons,Nat.add_mul_mod_self_left,Nat.mod_eq_of_lt hx]
   have e2:vl b (x::l)/b=vl b l:=by rw [vl_cons,Nat.add_mul_div_left _ _ (by omega),Nat.div_eq_of_lt hx];omega
   rw [dg_pos hb hv,e1,e2]
   simp only [List.length_cons,List.take_succ_cons]
   exact ⟨by rw [←h1],by omega⟩
  ·have h0:vl b (x::l)=0:=by omega
   rw [h0,dg_zero];simp
theorem dg_vl_drop {b:Nat} (hb:2≤b) {l:List Nat} (h:Sm b l):vl b (l.drop (dg b (vl b l)).length)=0:=by
 obtain ⟨h1,h2⟩:=dg_vl hb h
 have h3:=vl_split b l _ h2
 rw [←h1,vl_dg hb] at h3
 rcases Nat.eq_zero_or_pos (vl b (l.drop (dg b (vl b l)).length)) with h4|h4
 ·exact h4
 ·have:=Nat.mul_pos (Nat.pow_pos (n:=(dg b (vl b l)).length) (show 0<b by omega)) h4
  omega
theorem dg_last {b:Nat} (hb:2≤b) (n:Nat):∀x,(dg b n).getLast?=some x→x≠0:=by
 induction n using Nat.strongRecOn with
 | _ n ih=>
  intro x hx
  by_cases hn:0<n
  ·rw [dg_pos hb hn] at hx
   by_cases hq:0<n/b
   ·have hne:dg b (n/b)≠[]:=by rw [dg_pos hb hq];simp
    rw [List.getLast?_cons] at hx
    cases hl:(dg b (n/b)).getLast? with
    | none=>rw [List.getLast?_eq_none_iff] at hl;exact absurd hl hne
    | some y=>
     rw [hl] at hx
     simp at hx
     subst hx
     exact ih (n/b) (Nat.div_lt_self hn (by omega)) y hl
   ·have h0:n/b=0:=Nat.eq_zero_of_not_pos hq
    rw [h0,dg_zero] at hx
    simp at hx
    subst hx
    have:=Nat.div_add_mod n b
    rw [h0] at this
    omega
  ·have:n=0:=by omega
   subst this
   rw [dg_zero] at hx
   cases hx
theorem dg_of_last {b:Nat} (hb:2≤b) {l:List Nat} (h:Sm b l) (hl:∀x,l.getLast?=some x→x≠0):dg b (vl b l)=l:=by
 obtain ⟨h1,h2⟩:=dg_vl hb h
 have h3:=dg_vl_drop hb h
 rcases Nat.lt_or_ge (dg b (vl b l)).length l.length with h4|h4
 ·exfalso
  have hz:=vl_eq_zero (by omega) h3
  have hne:l≠[]:=fun e=>by subst e;simp at h4
  have hlast:=List.getLast_mem hne
  have hd:l.getLast hne∈l.drop (dg b (vl b l)).length:=by
   have hdne:l.drop (dg b (vl b l)).length≠[]:=by simp;omega
   rw [←List.getLast_drop hdne]
   exact List.getLast_mem hdne
  exact hl _ (List.getLast?_eq_some_getLast hne) (hz _ hd)
 ·rw [h1,List.take_of_length_le h4]
theorem dg_length_le {b n k:Nat} (hb:2≤b) (h:n<b^k):(dg b n).length≤k:=by
 induction k generalizing n with
 | zero=>simp at h;subst h;simp [dg_zero]
 | succ k ih=>
  by_cases hn:0<n
  ·rw [dg_pos hb hn]
   have:=ih (n:=n/b) (by rw [Nat.pow_succ] at h;exact Nat.div_lt_of_lt_mul (by rw [Nat.mul_comm];exact h))
   simp;omega
  ·have:n=0:=by omega
   subst this
   simp [dg_zero]
theorem dg_lt_pow {b:Nat} (hb:2≤b) (n:Nat):n<b^(dg b n).length:=by
 have:=vl_lt (dg_sm hb n)
 rwa [vl_dg hb] at this
theorem dg_length_mono {b m n:Nat} (hb:2≤b) (h:m≤n):(dg b m).length≤(dg b n).length:=
 dg_length_le hb (Nat.lt_of_le_of_lt h (dg_lt_pow hb n))
theorem dg_length_vl {b:Nat} (hb:2≤b) {l:List Nat} (h:Sm b l):(dg b (vl b l)).length≤l.length:=(dg_vl hb h).2
theorem pow_le_of_dg {b n:Nat} (hb:2≤b) (hn:0<n):b^((dg b n).length-1)≤n:=by
 rcases Nat.lt_or_ge n (b^((dg b n).length-1)) with h|h
 ·have h1:=dg_length_le hb h
  have h2:0<(dg b n).length:=by rw [dg_pos hb hn];simp
  omega
 ·exact h
theorem dg_nil_iff {b n:Nat} (hb:2≤b):dg b n=[]↔n=0:=by
 constructor
 ·intro h
  have:=vl_dg hb n
  rw [h] at this
  exact this.symm
 ·rintro rfl;exact dg_zero b
theorem dg_length_zero {b n:Nat} (hb:2≤b):(dg b n).length=0↔n=0:=by rw [List.length_eq_zero_iff,dg_nil_iff hb]
theorem vl_lt_of_top {b:Nat} {l m:List Nat} {k:Nat} (hl:Sm b l) (hll:k<l.length) (hml:k<m.length) (hlt:l[k]<m[k]) (htop:vl b (l.drop (k+1))≤vl b (m.drop (k+1))):vl b l<vl b m:=by
 rw [vl_split b l (k+1) hll,vl_split b m (k+1) hml,vl_take_succ hll,vl_take_succ hml]
 have h1:=vl_lt (hl.take k)
 rw [List.length_take,Nat.min_eq_left (by omega)] at h1
 have h2:b^k*(l[k]+1)≤b^k*m[k]:=Nat.mul_le_mul_left _ hlt
 have h3:b^(k+1)*vl b (l.drop (k+1))≤b^(k+1)*vl b (m.drop (k+1)):=Nat.mul_le_mul_left _ htop
 grind
theorem vl_drop_zero {b:Nat} {l:List Nat} {k:Nat} (h:vl b (l.drop k)=0) (hk:k≤l.length):vl b l=vl b (l.take k):=by
 rw [vl_split b l k hk,h];simp
theorem dg_len_of {b:Nat} (hb:2≤b) {l:List Nat} (hl:Sm b l) {k:Nat} (hk:k≤l.length) (h:vl b (l.drop k)=0) (ht:∀h:0<k,l[k-1]≠0):dg b (vl b l)=l.take k:=by
 rw [vl_drop_zero h hk]
 refine dg_of_last hb (hl.take k) fun x hx=>?_
 rcases Nat.eq_zero_or_pos k with h0|h0
 ·subst h0;simp at hx
 ·rw [List.getLast?_eq_getElem?,List.length_take,Nat.min_eq_left hk,List.getElem?_take,if_pos (by omega),List.getElem?_eq_getElem (by omega)] at hx
  injection hx with hx
  rw [←hx]
  exact ht h0
end Go.Proofs.YtjhfalgmgagdhaaGreatDoor.Zg
end

section
namespace Go.Proofs.YtjhfalgmgagdhaaGreatDoor.Zg
open Go.RowKit
abbrev W64:Nat:=18446744073709551616
theorem W2:2≤W64:=by decide
abbrev U (x:Nat):Value:=.int .u64 x
theorem bnd_i {α:Type} {x:α} {K:α→Prop} (h:K x):bnd x K:=h
theorem wi_id {x:Int} (h1:-9223372036854775808≤x) (h2:x≤9223372036854775807):wi x=x:=by rw [wi,IntKind.wrap_i64];omega
theorem bnd_wi {x:Int} {K:Int→Prop} (h1:-9223372036854775808≤x) (h2:x≤9223372036854775807) (h:K x):bnd (wi x) K:=by
 unfold bnd;rw [wi_id h1 h2];exact h
theorem wu_nat (x:Nat):wu (x:Int)=((x%W64:Nat):Int):=by
 simp [wu,IntKind.wrap,IntKind.signed,IntKind.bits,W64]
theorem wu_id {x:Nat} (h:x<W64):wu (x:Int)=x:=by rw [wu_nat,Nat.mod_eq_of_lt h]
theorem bnd_wu {x:Int} {y:Nat} {K:Int→Prop} (hx:x=y) (h:K (y%W64:Nat)):bnd (wu x) K:=by
 unfold bnd;rw [hx,wu_nat];exact h
theorem bnd_wu' {x:Int} {y:Nat} {K:Int→Prop} (hx:x=y) (hy:y<W64) (h:K y):bnd (wu x) K:=by
 unfold bnd;rw [hx,wu_id hy];exact h
theorem nck_some {a:Addr} {K:Addr→Prop} (h:K a):nck (some a) K:=h
theorem cnd_i {c:Bool} {A B:Prop} (h1:c=true→A) (h2:c=false→B):cond c A B:=by
 cases c
 ·exact h2 rfl
 ·exact h1 rfl
theorem cnd_d {p:Prop} [Decidable p] {A B:Prop} (h1:p→A) (h2:¬p→B):cond (decide p) A B:=by
 by_cases h:p
 ·simp [h,h1 h]
 ·simp [h,h2 h]
theorem cnd_t {c:Bool} {A B:Prop} (h:c=true) (hA:A):cond c A B:=by subst h;exact hA
theorem cnd_f {c:Bool} {A B:Prop} (h:c=false) (hB:B):cond c A B:=by subst h;exact hB
theorem jn {cs:List CK} {A:Tel cs (TW→Prop)→Prop} {K:Tel cs (TW→Prop)} (J:Tel cs (TW→Prop)) (h1:A J) (h2:allT cs (lam cs fun x=>∀w,app cs J x w→app cs K x w)):Jn cs A K:=⟨J,h1,h2⟩
theorem jn_all {cs:List CK} {A:Tel cs (TW→Prop)→Prop} {K:Tel cs (TW→Prop)} (h:A K):Jn cs A K:=⟨K,h,(allT_lam _ _).2 fun _ _ h=>h⟩
theorem lp1 {c1:CK} {body:Tel [c1] (TW→(Tel [c1] (TW→Prop))→Prop)} {x1:CV c1} {w:TW} (I:Nat→CV c1→TW→Prop) (m:Nat) (h0:I m x1 w)
  (hs:∀m x1 w,I m x1 w→body x1 w (fun y1 w'=>∃m',m'<m∧I m' y1 w')):Lp [c1] body x1 w:=⟨I,⟨m,h0⟩,hs⟩
theorem lp2 {c1 c2:CK} {body:Tel [c1,c2] (TW→(Tel [c1,c2] (TW→Prop))→Prop)} {x1:CV c1} {x2:CV c2} {w:TW} (I:Nat→CV c1→CV c2→TW→Prop) (m:Nat) (h0:I m x1 x2 w)
  (hs:∀m x1 x2 w,I m x1 x2 w→body x1 x2 w (fun y1 y2 w'=>∃m',m'<m∧I m' y1 y2 w')):Lp [c1,c2] body x1 x2 w:=⟨I,⟨m,h0⟩,hs⟩
theorem lp3 {c1 c2 c3:CK} {body:Tel [c1,c2,c3] (TW→(Tel [c1,c2,c3] (TW→Prop))→Prop)} {x1:CV c1} {x2:CV c2} {x3:CV c3} {w:TW} (I:Nat→CV c1→CV c2→CV c3→TW→Prop) (m:Nat) (h0:I m x1 x2 x3 w)
  (hs:∀m x1 x2 x3 w,I m x1 x2 x3 w→body x1 x2 x3 w (fun y1 y2 y3 w'=>∃m',m'<m∧I m' y1 y2 y3 w')):Lp [c1,c2,c3] body x1 x2 x3 w:=⟨I,⟨m,h0⟩,hs⟩
theorem lp4 {c1 c2 c3 c4:CK} {body:Tel [c1,c2,c3,c4] (TW→(Tel [c1,c2,c3,c4] (TW→Prop))→Prop)} {x1:CV c1} {x2:CV c2} {x3:CV c3} {x4:CV c4} {w:TW} (I:Nat→CV c1→CV c2→CV c3→CV c4→TW→Prop) (m:Nat) (h0:I m x1 x2 x3 x4 w)
  (hs:∀m x1 x2 x3 x4 w,I m x1 x2 x3 x4 w→body x1 x2 x3 x4 w (fun y1 y2 y3 y4 w'=>∃m',m'<m∧I m' y1 y2 y3 y4 w')):Lp [c1,c2,c3,c4] body x1 x2 x3 x4 w:=⟨I,⟨m,h0⟩,hs⟩
theorem rt0 {X:Nat→Prop} {K:TW→Prop} {w T':TW} (hx:Ext X w.here T') (hK:K (T'.at w.B)):Rt X [] K w (.tuple #[]) T':=⟨(),rfl,hx,hK⟩
theorem rt1 {X:Nat→Prop} {c:CK} {K:CV c→TW→Prop} {w T':TW} (x:CV c) (hx:Ext X w.here T') (hK:K x (T'.at w.B)):Rt X [.one c] K w (CV.enc c x) T':=⟨(x,()),rfl,hx,hK⟩
theorem rt2 {X:Nat→Prop} {c d:CK} {K:CV c→CV d→TW→Prop} {w T':TW} (x:CV c) (y:CV d) (hx:Ext X w.here T') (hK:K x y (T'.at w.B)):Rt X [.one c,.one d] K w (.tuple #[CV.enc c x,CV.enc d y]) T':=⟨(x,y,()),rfl,hx,hK⟩
theorem rt3 {X:Nat→Prop} {c d e:CK} {K:CV c→CV d→CV e→TW→Prop} {w T':TW} (x:CV c) (y:CV d) (z:CV e) (hx:Ext X w.here T') (hK:K x y z (T'.at w.B)):Rt X [.one c,.one d,.one e] K w (.tuple #[CV.enc c x,CV.enc d y,CV.enc e z]) T':=⟨(x,y,z,()),rfl,hx,hK⟩
structure Rd (w:TW) (s:Sl) (l:List Nat):Prop where
 rv:Rdv w 1 s (l.map U)
 sm:Sm W64 l
theorem Rdv.ext {w w':TW} {X:Nat→Prop} {sz:Nat} {s:Sl} {vs:List Value} (h:Rdv w sz s vs) (hx:Ext X w w') (hX:∀b,s.blk=some b→¬X b):Rdv w' sz s vs:=by
 obtain ⟨h1,h2,h3,h4⟩:=h
 refine ⟨h1,h2,h3,fun hne=>?_⟩
 obtain ⟨b,o,hp,hV,hc⟩:=h4 hne
 have hb:s.blk=some b:=by simp [Sl.blk,hp]
 have hlt:b<w.w.heap.size:=by
  obtain ⟨v,hv⟩:∃v,vs[0]?=some v:=⟨vs[0]'(List.length_pos_iff.2 hne),List.getElem?_eq_getElem _⟩
  exact World.block_lt_of_cell? w.w _ (hc 0 v hv)
 refine ⟨b,o,hp,fun hV'=>?_,fun j v hj=>?_⟩
 ·rcases hx.new b hV' with h|h
  ·exact hV h
  ·omega
 ·rw [←hc j v hj]
  exact World.cell?_of_block (hx.block b hlt (hX b hb) (.inr hV))
theorem Rd.extX {w w':TW} {X:Nat→Prop} {s:Sl} {l:List Nat} (h:Rd w s l) (hx:Ext X w w') (hX:∀b,s.blk=some b→¬X b):Rd w' s l:=⟨h.rv.ext hx hX,h.sm⟩
theorem Rd.ext {w w':TW} {s:Sl} {l:List Nat} (h:Rd w s l) (hx:Ext none_ w w'):Rd w' s l:=h.extX hx fun _ _ h=>h
theorem Rd.drew {w:TW} {s:Sl} {l:List Nat} (h:Rd w s l):Rd w.drew s l:=⟨h.rv,h.sm⟩
theorem Rd.here {w:TW} {s:Sl} {l:List Nat} (h:Rd w s l):Rd w.here s l:=⟨h.rv,h.sm⟩
theorem Ext.drew {X:Nat→Prop} {w0 w:TW} (h:Ext X w0 w):Ext X w0 w.drew:=⟨h.os,h.tape,h.output,h.size,h.floor,h.sub,h.new,h.block,h.shape⟩
theorem Rd.len {w:TW} {s:Sl} {l:List Nat} (h:Rd w s l):s.n=l.length:=by have:=h.rv.1;simp at this;omega
theorem Rd.cap {w:TW} {s:Sl} {l:List Nat} (h:Rd w s l):l.length≤s.c∧s.c≤9223372036854775807:=by
 have h1:=h.rv.2.1
 have h2:=h.rv.2.2.1
 simp only [maxLen] at h2
 rw [h.len] at h1
 omega
theorem Rd.le {w:TW} {s:Sl} {l:List Nat} (h:Rd w s l):l.length≤9223372036854775807:=by have:=h.cap;omega
theorem Rd.nil (w:TW):Rd w Sl.nil []:=⟨⟨rfl,Nat.le_refl _,by decide,fun h=>absurd rfl h⟩,Sm.nil _⟩
theorem Rd.idx {w:TW} {s:Sl} {l:List Nat} (h:Rd w s l) {i:Int} {j:Nat} (hi:i=j) (hj:j<l.length) {K:Int→Prop} (hK:K (l[j]:Nat)):ixa s i 1 (fun a=>ldc (.int .u64) w a K):=by
 subst hi
 obtain ⟨h1,_,_,h4⟩:=h.rv
 obtain ⟨b,o,hp,_,hc⟩:=h4 (fun e=>by have:=congrArg List.length e;simp at this;subst this;simp at hj)
 refine ⟨⟨b,o,none⟩,hp,by omega,by have:=h.len;omega,(l[j]:Nat),?_,hK⟩
 rw [Int.toNat_natCast,Nat.mul_one,Addr.add_mk]
 exact hc j (U l[j]) (by simp [hj])
theorem Rd.cut {w:TW} {s:Sl} {l:List Nat} (h:Rd w s l) {lo hi:Nat} (h1:lo≤hi) (h2:hi≤l.length):Rd w (s.cut lo hi 1) ((l.take hi).drop lo):=by
 have hl:=h.len
 have hc:=h.cap
 obtain ⟨h3,h4,h5,h6⟩:=h.rv
 refine ⟨⟨by simp [Sl.cut];omega,by simp only [Sl.cut];omega,by simp only [Sl.cut];omega,fun hne=>?_⟩,(h.sm.take hi).drop lo⟩
 have hlt:lo<hi:=by
  rcases Nat.lt_or_ge lo hi with h|h
  ·exact h
  ·exfalso;apply hne;simp;omega
 obtain ⟨b,o,hp,hV,hcell⟩:=h6 (fun e=>by have:=congrArg List.length e;simp at this;subst this;simp at h2;omega)
 refine ⟨b,o+lo,?_,hV,fun j v hj=>?_⟩
 ·simp only [Sl.cut]
  rw [if_neg (by omega),hp]
  simp [Addr.add_mk]
 ·rw [Nat.add_assoc]
  refine hcell (lo+j) v ?_
  simp only [List.map_drop,List.map_take,List.getElem?_drop,List.getElem?_take] at hj
  split at hj
  ·exact hj
  ·cases hj
structure Ow (w:TW) (B:Nat) (s:Sl) (l:List Nat):Prop where
 ow:Own w B T.uint64 1 s (l.map U)
 sm:Sm W64 l
theorem Own.form {w:TW} {B:Nat} {e:TypeId} {sz:Nat} {s:Sl} {vs:List Value} (h:Own w B e sz s vs):(s=Sl.nil∧vs=[])∨∃b cur,s.p=some ⟨b,0,none⟩∧B≤b∧w.w.heap[b]?=some (.cells cur e (0,0))∧s.n≤s.c∧s.c≤maxLen∧cur.size=s.c*sz∧cur.toList.take (s.n*sz)=vs∧¬w.V b:=by
 obtain ⟨⟨h1,h2⟩,h3⟩:=h
 rcases h2 with ⟨hv,hn⟩|⟨g,cap,cur,hv,hb,hg,hnc,hcm,hcs,ht⟩
 ·simp only [Sl.v,Value.slice.injEq] at hv
  refine .inl ⟨?_,?_⟩
  ·cases s;simp only at hv;simp [hv]
  ·rw [hn] at h1;simpa using h1
 ·simp only [Sl.v,Value.slice.injEq] at hv
  obtain ⟨hp,-,rfl⟩:=hv
  exact .inr ⟨g,cur,hp,hb,hg,hnc,hcm,hcs,ht,h3 g (by simp [Sl.blk,hp])⟩
theorem Own.rdv {w:TW} {B:Nat} {e:TypeId} {sz:Nat} {s:Sl} {vs:List Value} (h:Own w B e sz s vs):Rdv w sz s vs:=by
 have h1:=h.1.1
 rcases h.form with ⟨rfl,rfl⟩|⟨b,cur,hp,hb,hg,hnc,hcm,hcs,ht,hV⟩
 ·exact ⟨by simp,Nat.le_refl _,by decide,fun h=>absurd rfl h⟩
 ·refine ⟨h1,hnc,hcm,fun _=>⟨b,0,hp,hV,fun j v hj=>?_⟩⟩
  rw [cell_of_row w.w b (0+j) cur e (0,0) hg,Nat.zero_add]
  rw [←ht,List.getElem?_take] at hj
  split at hj
  ·simpa using hj
  ·cases hj
theorem Ow.rd {w:TW} {B:Nat} {s:Sl} {l:List Nat} (h:Ow w B s l):Rd w s l:=⟨h.ow.rdv,h.sm⟩
theorem Own.ext {w w':TW} {X:Nat→Prop} {B:Nat} {e:TypeId} {sz:Nat} {s:Sl} {vs:List Value} (h:Own w B e sz s vs) (hx:Ext X w w') (hX:∀b,s.blk=some b→¬X b):Own w' B e sz s vs:=by
 obtain ⟨⟨h1,h2⟩,h3⟩:=h
 have hlt:∀b,s.blk=some b→b<w.w.heap.size:=fun b hb=>by
  rcases h2 with ⟨hv,_⟩|⟨g,cap,cur,hv,_,hg,_⟩
  ·simp only [Sl.v,Value.slice.injEq] at hv;simp [Sl.blk,hv.1] at hb
  ·simp only [Sl.v,Value.slice.injEq] at hv;simp [Sl.blk,hv.1] at hb;subst hb;exact (Array.getElem?_eq_some_iff.1 hg).1
 refine ⟨⟨h1,?_⟩,fun b hb hV'=>?_⟩
 ·rcases h2 with hn|⟨g,cap,cur,hv,hB,hg,rest⟩
  ·exact .inl hn
  ·have hv':=hv
   simp only [Sl.v,Value.slice.injEq] at hv'
   have hbk:s.blk=some g:=by simp [Sl.blk,hv'.1]
   exact .inr ⟨g,cap,cur,hv,hB,(hx.block g (hlt g hbk) (hX g hbk) (.inr (h3 g hbk))).trans hg,rest⟩
 ·rcases hx.new b hV' with h|h
  ·exact h3 b hb h
  ·have:=hlt b hb;omega
theorem Ow.extX {w w':TW} {X:Nat→Prop} {B:Nat} {s:Sl} {l:List Nat} (h:Ow w B s l) (hx:Ext X w w') (hX:∀b,s.blk=some b→¬X b):Ow w' B s l:=⟨h.ow.ext hx hX,h.sm⟩
theorem Ow.ext {w w':TW} {B:Nat} {s:Sl} {l:List Nat} (h:Ow w B s l) (hx:Ext none_ w w'):Ow w' B s l:=h.extX hx fun _ _ h=>h
theorem Ow.from_ {w:TW} {B:Nat} {s:Sl} {l:List Nat} (h:Ow w B s l):∀b,s.blk=some b→B≤b∧b<w.w.heap.size:=fun b hb=>by
 rcases h.ow.form with ⟨rfl,_⟩|⟨g,cur,hp,hB,hg,_⟩
 ·simp [Sl.blk] at hb
 ·simp [Sl.blk,hp] at hb;subst hb;exact ⟨hB,(Array.getElem?_eq_some_iff.1 hg).1⟩
theorem Ow.less {w:TW} {B B':Nat} {s:Sl} {l:List Nat} (h:Ow w B s l) (hB:B'≤B):Ow w B' s l:=by
 obtain ⟨⟨⟨h1,h2⟩,h3⟩,h4⟩:=h
 refine ⟨⟨⟨h1,?_⟩,h3⟩,h4⟩
 rcases h2 with h2|⟨g,cap,cur,hv,hb,r⟩
 ·exact .inl h2
 ·exact .inr ⟨g,cap,cur,hv,Nat.le_trans hB hb,r⟩
theorem Ext.mine {X:Nat→Prop} {w0 w w':TW} (h:Ext none_ w0 w) (k:Ext X w w') (hX:∀b,X b→w0.w.heap.size≤b):Ext none_ w0 w':=
 (h.mono (Y:=X) fun _ _ h=>h.elim).trans k |>.mono fun b hb hx=>absurd (hX b hx) (by omega)
theorem mk_u64 {w:TW} {n:Int} {N:Nat} {K:Sl→TW→Prop} (hn:n=N) (hN:N≤17592186044416) (h:∀s w',Ow w' w.w.heap.size s (List.replicate N 0)→s.n=N→Ext none_ w w'→s.blk=some w.w.heap.size→K s w'):mks w n n T.uint64 8 [.int .u64 0] K:=by
 subst hn
 refine ⟨by omega,Int.le_refl _,by omega,by omega,fun b w' hnew=>h _ _ ⟨⟨⟨by simp,.inr ⟨b,N,(List.replicate N [Value.int .u64 0]).flatten.toArray,by simp,by have:=hnew.at_;omega,by simpa using hnew.heap,Nat.le_refl _,by simp only [maxLen];omega,by simp,?_⟩⟩,?_⟩,Sm.zeros (by decide) N⟩ (by simp) (hnew.ext _) (by simp [Sl.blk,hnew.at_])⟩
 ·have:(List.replicate N [Value.int .u64 0]).flatten=List.replicate N (Value.int .u64 0):=by
   induction N with
   | zero=>rfl
   | succ N _=>simp [List.replicate_succ]
  simp [this]
 ·intro c hc hV
  simp [Sl.blk] at hc
  rw [hnew.V] at hV
  have:=w.lt _ hV
  have:=hnew.at_
  omega
theorem Ow.store {w:TW} {B:Nat} {s:Sl} {l:List Nat} (h:Ow w B s l) {i:Int} {j x:Nat} (hi:i=j) (hj:j<l.length) (hx:x<W64) {y:Int} (hy:y=x) {K:TW→Prop}
  (hK:∀w',Ow w' B s (l.set j x)→Ext (fun b=>s.blk=some b) w w'→K w'):ixa s i 1 (fun a=>stc w a (.int .u64 y) K):=by
 subst hi;subst hy
 have hlen:=h.rd.len
 rcases h.ow.form with ⟨hs,hv⟩|⟨b,cur,hp,hB,hg,hnc,hcm,hcs,ht,hV⟩
 ·have:=congrArg List.length hv;simp at this;subst this;simp at hj
 ·have hcur:j<cur.size:=by omega
  refine ⟨⟨b,0,none⟩,hp,by omega,by omega,?_⟩
  rw [Int.toNat_natCast,Nat.mul_one,Addr.add_mk,Nat.zero_add]
  have hcell:w.w.cell? ⟨b,j,none⟩=some cur[j]:=by rw [cell_of_row w.w b j cur T.uint64 (0,0) hg,Array.getElem?_eq_getElem hcur]
  have hset:(w.w.setCell ⟨b,j,none⟩ (U x)).heap[b]?=some (.cells (cur.set j (U x) hcur) T.uint64 (0,0)):=by
   simp [World.setCell,Array.getElem?_modify,hg,Array.setIfInBounds,hcur]
  have hbk:s.blk=some b:=by simp [Sl.blk,hp]
  refine ⟨⟨_,hcell⟩,by simp [World.frozen?,hg],hV,hK _ ⟨⟨⟨by simpa using hlen.symm,.inr ⟨b,s.c,_,by simp [hp],hB,hset,hnc,hcm,by simpa using hcs,?_⟩⟩,fun c hc=>by rw [hbk] at hc;injection hc with hc;subst hc;exact hV⟩,h.sm.set j hx⟩ ?_⟩
  ·rw [Array.toList_set,List.take_set,ht,List.map_set]
  ·refine ⟨rfl,rfl,rfl,by simp [TW.set,World.setCell],rfl,fun _ h=>h,fun _ h=>.inl h,fun k hk hX _=>Below.heap_setCell w.w _ _ k (fun e=>hX (by rw [hbk,e])),fun k hk=>setCell_shape _ _ _ _⟩
end Go.Proofs.YtjhfalgmgagdhaaGreatDoor.Zg
end

section
namespace Go.Proofs.YtjhfalgmgagdhaaGreatDoor.Zg
open Go.RowKit
def sz (x:Nat):Nat:=(dg W64 x).length
theorem sz_pow {x k:Nat} (h:x<W64^k):sz x≤k:=dg_length_le W2 h
theorem lt_sz (x:Nat):x<W64^sz x:=dg_lt_pow W2 x
theorem pow_lt {x k:Nat} (h:sz x≤k):x<W64^k:=Nat.lt_of_lt_of_le (lt_sz x) (Nat.pow_le_pow_right (by decide) h)
theorem sz_mono {x y:Nat} (h:x≤y):sz x≤sz y:=dg_length_mono W2 h
theorem dg_len (x:Nat):(dg W64 x).length=sz x:=rfl
theorem sz_zero {x:Nat}:sz x=0↔x=0:=dg_length_zero W2
theorem sz_vl {l:List Nat} (h:Sm W64 l):sz (vl W64 l)≤l.length:=dg_length_vl W2 h
theorem sz_le {x:Nat} (h:0<x):W64^(sz x-1)≤x:=pow_le_of_dg W2 h
theorem sz_add (x y:Nat):sz (x+y)≤max (sz x) (sz y)+1:=by
 refine sz_pow ?_
 have h1:x<W64^max (sz x) (sz y):=pow_lt (by omega)
 have h2:y<W64^max (sz x) (sz y):=pow_lt (by omega)
 rw [Nat.pow_succ]
 have:2*W64^max (sz x) (sz y)≤W64^max (sz x) (sz y)*W64:=by rw [Nat.mul_comm];exact Nat.mul_le_mul_left _ W2
 omega
theorem sz_mul (x y:Nat):sz (x*y)≤sz x+sz y:=by
 refine sz_pow ?_
 rw [Nat.pow_add]
 exact Nat.mul_lt_mul'' (lt_sz x) (lt_sz y)
theorem sz_word {x:Nat} (h:x<W64):sz x≤1:=sz_pow (by simpa using h)
theorem sz_eq {x k:Nat} (h1:W64^k≤x) (h2:x<W64^(k+1)):sz x=k+1:=by
 have h3:=sz_pow h2
 rcases Nat.lt_or_ge k (sz x) with h|h
 ·omega
 ·have:=pow_lt h;omega
theorem vl_take_getD (b:Nat) (l:List Nat) (k:Nat):vl b (l.take (k+1))=vl b (l.take k)+b^k*l.getD k 0:=by
 rcases Nat.lt_or_ge k l.length with h|h
 ·rw [vl_take_succ h];simp [h]
 ·rw [List.take_of_length_le (by omega),List.take_of_length_le h];simp [h]
theorem Sm.getD {b:Nat} {l:List Nat} (hb:0<b) (h:Sm b l) (k:Nat):l.getD k 0<b:=by
 rcases Nat.lt_or_ge k l.length with hk|hk
 ·have:=h.get hk;simpa [hk] using this
 ·simpa [hk] using hb
theorem getD_past {l:List Nat} {k:Nat} (h:l.length≤k):l.getD k 0=0:=by simp [h]
theorem sz0:sz 0=0:=sz_zero.2 rfl
theorem vl_take_all {b:Nat} {l:List Nat} {k:Nat} (h:l.length≤k):vl b (l.take k)=vl b l:=by rw [List.take_of_length_le h]
theorem vl_one {b x:Nat}:vl b [x]=x:=by simp [vl]
theorem vl_snoc (b:Nat) (l:List Nat) (x:Nat):vl b (l++[x])=vl b l+b^l.length*x:=by rw [vl_append,vl_one]
theorem one_w {d:Nat} (h:d≤1):d<W64:=Nat.lt_of_le_of_lt h (by decide)
theorem w64:W64=18446744073709551616:=rfl
def Nt (w:TW) (s:Sl) (x:Nat):Prop:=∃l,Rd w s l∧vl W64 l=x
def On (w:TW) (B:Nat) (s:Sl) (x:Nat):Prop:=Ow w B s (dg W64 x)
theorem On.nt {w:TW} {B:Nat} {s:Sl} {x:Nat} (h:On w B s x):Nt w s x:=⟨_,h.rd,vl_dg W2 x⟩
theorem Rd.nt {w:TW} {s:Sl} {l:List Nat} (h:Rd w s l):Nt w s (vl W64 l):=⟨l,h,rfl⟩
theorem Nt.extX {w w':TW} {X:Nat→Prop} {s:Sl} {x:Nat} (h:Nt w s x) (hx:Ext X w w') (hX:∀b,s.blk=some b→¬X b):Nt w' s x:=h.imp fun _ h=>⟨h.1.extX hx hX,h.2⟩
theorem Nt.ext {w w':TW} {s:Sl} {x:Nat} (h:Nt w s x) (hx:Ext none_ w w'):Nt w' s x:=h.imp fun _ h=>⟨h.1.ext hx,h.2⟩
theorem Nt.here {w:TW} {s:Sl} {x:Nat} (h:Nt w s x):Nt w.here s x:=h.imp fun _ h=>⟨h.1.here,h.2⟩
theorem Nt.drew {w:TW} {s:Sl} {x:Nat} (h:Nt w s x):Nt w.drew s x:=h.imp fun _ h=>⟨h.1.drew,h.2⟩
theorem On.ext {w w':TW} {B:Nat} {s:Sl} {x:Nat} (h:On w B s x) (hx:Ext none_ w w'):On w' B s x:=Ow.ext h hx
theorem On.extX {w w':TW} {X:Nat→Prop} {B:Nat} {s:Sl} {x:Nat} (h:On w B s x) (hx:Ext X w w') (hX:∀b,s.blk=some b→¬X b):On w' B s x:=Ow.extX h hx hX
theorem On.less {w:TW} {B B':Nat} {s:Sl} {x:Nat} (h:On w B s x) (hB:B'≤B):On w B' s x:=Ow.less h hB
theorem On.len {w:TW} {B:Nat} {s:Sl} {x:Nat} (h:On w B s x):s.n=sz x:=h.rd.len
theorem Nt.nil (w:TW):Nt w Sl.nil 0:=⟨[],Rd.nil w,rfl⟩
theorem Ow.nil (w:TW) (B:Nat):Ow w B Sl.nil []:=⟨⟨⟨rfl,.inl ⟨rfl,rfl⟩⟩,fun b h=>by simp [Sl.blk] at h⟩,Sm.nil _⟩
theorem On.nil (w:TW) (B:Nat):On w B Sl.nil 0:=by have:=Ow.nil w B;rwa [←dg_zero W64] at this
theorem Ow.at {w:TW} {B k:Nat} {s:Sl} {l:List Nat} (h:Ow w B s l):Ow (w.at k) B s l:=⟨⟨h.ow.1,h.ow.2⟩,h.sm⟩
theorem On.at {w:TW} {B k:Nat} {s:Sl} {x:Nat} (h:On w B s x):On (w.at k) B s x:=Ow.at h
theorem Rd.at_ {w:TW} {k:Nat} {s:Sl} {l:List Nat} (h:Rd w s l):Rd (w.at k) s l:=⟨h.rv,h.sm⟩
theorem Nt.at {w:TW} {k:Nat} {s:Sl} {x:Nat} (h:Nt w s x):Nt (w.at k) s x:=h.imp fun _ h=>⟨h.1.at_,h.2⟩
theorem Ow.here {w:TW} {B:Nat} {s:Sl} {l:List Nat} (h:Ow w B s l):Ow w.here B s l:=⟨⟨h.ow.1,h.ow.2⟩,h.sm⟩
theorem Ow.drew {w:TW} {B:Nat} {s:Sl} {l:List Nat} (h:Ow w B s l):Ow w.drew B s l:=⟨⟨h.ow.1,h.ow.2⟩,h.sm⟩
theorem Rd.ix {w:TW} {s:Sl} {l:List Nat} (h:Rd w s l) {i:Int} {j:Nat} (hi:i=j) (hj:j<l.length) {K:Int→Prop} (hK:K (l.getD j 0:Nat)):ixa s i 1 (fun a=>ldc (.int .u64) w a K):=by
 rw [show l.getD j 0=l[j] by simp [hj]] at hK
 exact h.idx hi hj hK
theorem Rd.lt {w:TW} {s:Sl} {l:List Nat} (h:Rd w s l) (j:Nat):l.getD j 0<18446744073709551616:=h.sm.getD (by decide) j
theorem Rd.at0 {w:TW} {s:Sl} {l:List Nat} (h:Rd w s l) {x:Int} {j:Nat} (hx:x=j) {K:Int→TW→Prop} (hK:K (l.getD j 0:Nat) w):
  Jn [.int .u64] (fun J=>cond (decide (x<(s.n:Int))) (ixa s x 1 fun a=>ldc (.int .u64) w a fun v=>J v w) (J 0 w)) K:=by
 refine jn_all ?_
 have hl:=h.len
 subst hx
 refine cnd_d (fun h0=>?_) (fun h0=>?_)
 ·have h0:j<l.length:=by omega
  refine h.idx rfl h0 ?_
  rw [show l[j]=l.getD j 0 by simp [h0]]
  exact hK
 ·have h0:l.length≤j:=by omega
  rw [show l.getD j 0=0 by simp [h0]] at hK
  exact hK
theorem set_snoc (P:List Nat) (k x:Nat):(P++List.replicate (k+1) 0).set P.length x=(P++[x])++List.replicate k 0:=by
 simp [List.replicate_succ]
theorem Ow.put {w:TW} {B:Nat} {s:Sl} {P:List Nat} {k:Nat} (h:Ow w B s (P++List.replicate (k+1) 0)) {i:Int} {x:Nat} (hi:i=P.length) (hx:x<W64) {y:Int} (hy:y=x) {K:TW→Prop}
  (hK:∀w',Ow w' B s ((P++[x])++List.replicate k 0)→Ext (fun b=>s.blk=some b) w w'→K w'):ixa s i 1 (fun a=>stc w a (.int .u64 y) K):=by
 refine h.store hi (by simp) hx hy fun w' h' hx'=>hK w' ?_ hx'
 rwa [set_snoc] at h'
theorem Rd.trim {w:TW} {s:Sl} {l:List Nat} (h:Rd w s l):Rd w (s.cut 0 (sz (vl W64 l)) 1) (dg W64 (vl W64 l)):=by
 have:=h.cut (Nat.zero_le _) (sz_vl h.sm)
 rwa [List.drop_zero,sz,←(dg_vl W2 h.sm).1] at this
theorem Ow.cut0 {w:TW} {B:Nat} {s:Sl} {l:List Nat} (h:Ow w B s l) {n:Nat} (hn:n≤l.length):Ow w B (s.cut 0 n 1) (l.take n):=by
 have hl:=h.rd.len
 rcases h.ow.form with ⟨rfl,hv⟩|⟨b,cur,hp,hB,hg,hnc,hcm,hcs,ht,hV⟩
 ·have:l=[]:=by simpa using hv
  subst this
  have:n=0:=by simpa using hn
  subst this
  simpa [Sl.cut] using Ow.nil w B
 ·have hb:(s.cut 0 n 1).p=some ⟨b,0,none⟩:=by
   simp only [Sl.cut]
   split
   ·exact hp
   ·simp [hp,Addr.add_mk]
  refine ⟨⟨⟨by simp [Sl.cut];omega,.inr ⟨b,s.c,cur,?_,hB,hg,by simp [Sl.cut];omega,hcm,hcs,?_⟩⟩,fun c hc=>?_⟩,h.sm.take n⟩
  ·rw [Sl.v,hb];simp [Sl.cut]
  ·simp only [Sl.cut,Nat.sub_zero,List.map_take,←ht,List.take_take,Nat.mul_one]
   congr 1;omega
  ·simp [Sl.blk,hb] at hc;subst hc;exact hV
theorem Ow.trim {w:TW} {B:Nat} {s:Sl} {l:List Nat} (h:Ow w B s l):On w B (s.cut 0 (sz (vl W64 l)) 1) (vl W64 l):=by
 have:=h.cut0 (sz_vl h.sm)
 rwa [sz,←(dg_vl W2 h.sm).1] at this
theorem map_u_one (l:List Nat):∀v∈l.map U,v.oneCell'=true:=by
 intro v hv
 obtain ⟨x,_,rfl⟩:=List.mem_map.1 hv
 rfl
theorem Ow.cat {w:TW} {B:Nat} {s x:Sl} {l m:List Nat} (h:Ow w B s l) (k:Rd w x m) (hB:B≤w.w.heap.size) (hn:l.length+m.length≤1099511627776) {K:Sl→TW→Prop}
  (hK:∀s' w',Ow w' B s' (l++m)→Ext (fun b=>s.blk=some b) w w'→(∀b,s'.blk=some b→s.blk=some b∨w.w.heap.size≤b)→K s' w'):apd w T.uint64 1 8 s x K:=by
 have h1:=h.rd.len
 have h2:=k.len
 refine ⟨B,l.map U,m.map U,h.ow,k.rv,hB,map_u_one m,by simp only [maxLen];omega,by omega,fun s' w' ho _ hx hb=>hK s' w' ⟨by simpa using ho,h.sm.append k.sm⟩ hx hb⟩
theorem Rd.copy {w:TW} {x:Sl} {m:List Nat} (k:Rd w x m) {B:Nat} (hB:B≤w.w.heap.size) (hn:m.length≤1099511627776) {K:Sl→TW→Prop}
  (hK:∀s' w',Ow w' B s' m→Ext none_ w w'→(∀b,s'.blk=some b→w.w.heap.size≤b)→K s' w'):apd w T.uint64 1 8 Sl.nil x K:=
 (Ow.nil w B).cat k hB (by simpa using hn) fun s' w' h hx hb=>hK s' w' h (hx.mono fun b _ h=>by simp [Sl.blk] at h) (fun b h=>(hb b h).elim (fun h=>by simp [Sl.blk] at h) id)
theorem Ext.own {X:Nat→Prop} {w0 w w':TW} (h:Ext none_ w0 w) (k:Ext X w w') (hX:∀b,X b→w0.w.heap.size≤b):Ext none_ w0 w':=h.mine k hX
theorem Ow.blk_le {w:TW} {B:Nat} {s:Sl} {l:List Nat} (h:Ow w B s l):∀b,s.blk=some b→B≤b:=fun b hb=>(h.from_ b hb).1
theorem j0 {A:(TW→Prop)→Prop} {K:TW→Prop} (J:TW→Prop) (h1:A J) (h2:∀ w,J  w→K  w):Jn [] A K:=⟨J,h1,h2⟩
theorem j1 {c1:CK} {A:(CV c1→TW→Prop)→Prop} {K:CV c1→TW→Prop} (J:CV c1→TW→Prop) (h1:A J) (h2:∀x1 w,J x1 w→K x1 w):Jn [c1] A K:=⟨J,h1,h2⟩
theorem j2 {c1 c2:CK} {A:(CV c1→CV c2→TW→Prop)→Prop} {K:CV c1→CV c2→TW→Prop} (J:CV c1→CV c2→TW→Prop) (h1:A J) (h2:∀x1 x2 w,J x1 x2 w→K x1 x2 w):Jn [c1,c2] A K:=⟨J,h1,h2⟩
theorem j3 {c1 c2 c3:CK} {A:(CV c1→CV c2→CV c3→TW→Prop)→Prop} {K:CV c1→CV c2→CV c3→TW→Prop} (J:CV c1→CV c2→CV c3→TW→Prop) (h1:A J) (h2:∀x1 x2 x3 w,J x1 x2 x3 w→K x1 x2 x3 w):Jn [c1,c2,c3] A K:=⟨J,h1,h2⟩
theorem j4 {c1 c2 c3 c4:CK} {A:(CV c1→CV c2→CV c3→CV c4→TW→Prop)→Prop} {K:CV c1→CV c2→CV c3→CV c4→TW→Prop} (J:CV c1→CV c2→CV c3→CV c4→TW→Prop) (h1:A J) (h2:∀x1 x2 x3 x4 w,J x1 x2 x3 x4 w→K x1 x2 x3 x4 w):Jn [c1,c2,c3,c4] A K:=⟨J,h1,h2⟩
theorem j5 {c1 c2 c3 c4 c5:CK} {A:(CV c1→CV c2→CV c3→CV c4→CV c5→TW→Prop)→Prop} {K:CV c1→CV c2→CV c3→CV c4→CV c5→TW→Prop} (J:CV c1→CV c2→CV c3→CV c4→CV c5→TW→Prop) (h1:A J) (h2:∀x1 x2 x3 x4 x5 w,J x1 x2 x3 x4 x5 w→K x1 x2 x3 x4 x5 w):Jn [c1,c2,c3,c4,c5] A K:=⟨J,h1,h2⟩
theorem c1 {P:Program} {f:FuncId} {args:List Value} {w:TW} {c:CK} {Φ K:CV c→TW→Prop} (h:Ct P f args w none_ [.one c] Φ) (hK:∀x w',Ext none_ w w'→Φ x w'→K x w'):cl P f args w [.one c] K:=cl0 h hK
theorem c2 {P:Program} {f:FuncId} {args:List Value} {w:TW} {c d:CK} {Φ K:CV c→CV d→TW→Prop} (h:Ct P f args w none_ [.one c,.one d] Φ) (hK:∀x y w',Ext none_ w w'→Φ x y w'→K x y w'):cl P f args w [.one c,.one d] K:=cl0 h hK
theorem c3 {P:Program} {f:FuncId} {args:List Value} {w:TW} {c d e:CK} {Φ K:CV c→CV d→CV e→TW→Prop} (h:Ct P f args w none_ [.one c,.one d,.one e] Φ) (hK:∀x y z w',Ext none_ w w'→Φ x y z w'→K x y z w'):cl P f args w [.one c,.one d,.one e] K:=cl0 h hK
end Go.Proofs.YtjhfalgmgagdhaaGreatDoor.Zg
end

section
namespace Go.Proofs.YtjhfalgmgagdhaaGreatDoor.Zg
open Go.RowKit
theorem fdiv_nat (x y:Nat):((x:Int).fdiv (y:Int))=((x/y:Nat):Int):=by
 rw [Int.fdiv_eq_ediv_of_nonneg _ (by omega)];rfl
theorem shrN {k:IntKind} {x n:Nat} {X N:Int} {K:Int→Prop} (hX:X=x) (hN:N=n) (hn:n≤k.bits) (h:K ((x/2^n:Nat):Int)):shrK k X N K:=by
 subst hX hN
 refine ⟨by omega,?_⟩
 rw [Int.toNat_natCast,Nat.min_eq_left hn,show ((2:Int)^n)=((2^n:Nat):Int) by simp,fdiv_nat]
 exact h
theorem shlN {x n:Nat} {X N:Int} {K:Int→Prop} (hX:X=x) (hN:N=n) (hn:n≤64) (h:K ((x*2^n%W64:Nat):Int)):shlK .u64 X N K:=by
 subst hX hN
 refine ⟨by omega,?_⟩
 rw [Int.toNat_natCast,Nat.min_eq_left (by simpa [IntKind.bits] using hn),show ((x:Int)*(2:Int)^n)=((x*2^n:Nat):Int) by simp]
 have:=wu_nat (x*2^n)
 rw [wu] at this
 rw [this]
 exact h
theorem divNu {x y:Nat} {X Y:Int} {K:Int→Prop} (hX:X=x) (hY:Y=y) (hx:x<W64) (h0:y≠0) (h:K ((x/y:Nat):Int)):divK .u64 X Y K:=by
 subst hX hY
 refine ⟨by omega,?_⟩
 rw [Int.tdiv_eq_ediv_of_nonneg (by omega),show ((x:Int)/(y:Int))=((x/y:Nat):Int) by rfl]
 have:=wu_id (Nat.lt_of_le_of_lt (Nat.div_le_self x y) hx)
 rw [wu] at this
 rw [this]
 exact h
theorem divNi {x y:Nat} {X Y:Int} {K:Int→Prop} (hX:X=x) (hY:Y=y) (hx:x≤9223372036854775807) (h0:y≠0) (h:K ((x/y:Nat):Int)):divK .i64 X Y K:=by
 subst hX hY
 refine ⟨by omega,?_⟩
 rw [Int.tdiv_eq_ediv_of_nonneg (by omega),show ((x:Int)/(y:Int))=((x/y:Nat):Int) by rfl]
 have h1:=Nat.div_le_self x y
 have:=wi_id (x:=((x/y:Nat):Int)) (by exact Int.le_trans (by decide) (Int.natCast_nonneg _)) (by have h2:=Int.ofNat_le.2 (Nat.le_trans h1 hx);exact h2)
 rw [wi] at this
 rw [this]
 exact h
theorem remN {x y:Nat} {X Y:Int} {K:Int→Prop} (hX:X=x) (hY:Y=y) (h0:y≠0) (h:K ((x%y:Nat):Int)):remK X Y K:=by
 subst hX hY
 refine ⟨by omega,?_⟩
 rw [Int.tmod_eq_emod_of_nonneg (by omega)]
 exact h
theorem bits2_u64 {op:BinOp} {x y z:Nat} (hz:z<W64) (h:bits2 op .u64 (x:Int) (y:Int)=IntKind.u64.wrap (z:Int)):bits2 op .u64 (x:Int) (y:Int)=z:=by
 rw [h];exact wu_id hz
theorem bv_nat {x:Nat} (hx:x<W64):(BitVec.ofInt 64 (x:Int)).toNat=x:=by
 rw [BitVec.ofInt_natCast,BitVec.toNat_ofNat]
 exact Nat.mod_eq_of_lt hx
theorem bnd_and {x y:Nat} {X Y:Int} {K:Int→Prop} (hX:X=x) (hY:Y=y) (hx:x<W64) (hy:y<W64) (h:K ((x &&& y:Nat):Int)):bnd (bits2 .and .u64 X Y) K:=by
 subst hX hY
 unfold bnd
 rw [bits2_u64 (Nat.lt_of_le_of_lt Nat.and_le_left hx) (z:=x &&& y)]
 ·exact h
 ·have e:(BitVec.ofInt 64 (x:Int) &&& BitVec.ofInt 64 (y:Int)).toNat=x &&& y:=by rw [BitVec.toNat_and,bv_nat hx,bv_nat hy]
  show IntKind.u64.wrap (((BitVec.ofInt 64 (x:Int) &&& BitVec.ofInt 64 (y:Int)).toNat:Nat):Int)=_
  rw [e]
theorem bnd_or {x y:Nat} {X Y:Int} {K:Int→Prop} (hX:X=x) (hY:Y=y) (hx:x<W64) (hy:y<W64) (h:K ((x ||| y:Nat):Int)):bnd (bits2 .or .u64 X Y) K:=by
 subst hX hY
 unfold bnd
 rw [bits2_u64 (Nat.or_lt_two_pow (n:=64) hx hy) (z:=x ||| y)]
 ·exact h
 ·have e:(BitVec.ofInt 64 (x:Int) ||| BitVec.ofInt 64 (y:Int)).toNat=x ||| y:=by rw [BitVec.toNat_or,bv_nat hx,bv_nat hy]
  show IntKind.u64.wrap (((BitVec.ofInt 64 (x:Int) ||| BitVec.ofInt 64 (y:Int)).toNat:Nat):Int)=_
  rw [e]
theorem bnd_low {x k:Nat} {X Y:Int} {K:Int→Prop} (hX:X=x) (hY:Y=(2^k-1:Nat)) (hx:x<W64) (hk:k≤64) (h:K ((x%2^k:Nat):Int)):bnd (bits2 .and .u64 X Y) K:=by
 have:2^k≤2^64:=Nat.pow_le_pow_right (by decide) hk
 have h0:=Nat.two_pow_pos k
 refine bnd_and hX hY hx (by show _<2^64;omega) ?_
 rwa [Nat.and_two_pow_sub_one_eq_mod]
theorem bnd_plus {x y k:Nat} {X Y:Int} {K:Int→Prop} (hX:X=x) (hY:Y=y) (hx:x<W64) (hy:y<W64) (h1:2^k ∣ x) (h2:y<2^k) (h:K ((x+y:Nat):Int)):bnd (bits2 .or .u64 X Y) K:=by
 refine bnd_or hX hY hx hy ?_
 obtain ⟨q,rfl⟩:=h1
 rwa [←Nat.two_pow_add_eq_or_of_lt h2]
theorem bnd_plus' {x y k:Nat} {X Y:Int} {K:Int→Prop} (hX:X=x) (hY:Y=y) (hx:x<W64) (hy:y<W64) (h1:2^k ∣ y) (h2:x<2^k) (h:K ((x+y:Nat):Int)):bnd (bits2 .or .u64 X Y) K:=by
 refine bnd_or hX hY hx hy ?_
 obtain ⟨q,rfl⟩:=h1
 rwa [Nat.or_comm,←Nat.two_pow_add_eq_or_of_lt h2,Nat.add_comm]
theorem Ow.cpy {w:TW} {B:Nat} {d s:Sl} {l m:List Nat} (h:Ow w B d l) (k:Rd w s m) (hle:m.length≤l.length) {K:Int→TW→Prop}
  (hK:∀w',Ow w' B d (m++l.drop m.length)→Ext (fun b=>d.blk=some b) w w'→K (m.length:Nat) w'):cpy w T.uint64 d s K:=by
 have hd:=h.rd.len
 have hs:=k.len
 have hmin:min s.n d.n=m.length:=by omega
 rcases h.ow.form with ⟨rfl,hv⟩|⟨b,cur,hp,hB,hg,hnc,hcm,hcs,ht,hV⟩
 ·have hl:l=[]:=by simpa using hv
  subst hl
  have hm:m=[]:=by simpa using hle
  subst hm
  exact .inl ⟨hmin,by simpa using hK w (by simpa using h) (Ext.refl _ _)⟩
 ·refine .inr ⟨m.map U,b,0,cur,k.rv,map_u_one m,hp,hV,hg,by omega,fun w' hw hx=>?_⟩
  rw [hmin]
  have hbk:d.blk=some b:=by simp [Sl.blk,hp]
  refine hK w' ⟨⟨⟨by simp;omega,.inr ⟨b,d.c,_,by simp [hp],hB,hw,hnc,hcm,?_,?_⟩⟩,fun c hc hV'=>?_⟩,k.sm.append (h.sm.drop _)⟩ (hx.mono fun k _ e=>by subst e;exact hbk)
  ·simp [splice];omega
  ·rw [Nat.mul_one] at ht ⊢
   have hlen:cur.toList.length=d.c:=by simpa using hcs
   have e:List.map U (m++l.drop m.length)=m.map U++(cur.toList.take d.n).drop m.length:=by rw [ht];simp
   rw [e]
   simp only [splice,List.take_zero,List.nil_append,Nat.zero_add]
   rw [hmin,List.take_of_length_le (by simp:(m.map U).length≤m.length),List.take_append]
   simp only [List.length_map]
   rw [List.take_of_length_le (by simp;omega),List.drop_take]
  ·rw [hbk] at hc;cases hc
   rcases hx.new b hV' with h|h
   ·exact hV h
   ·have:=(Array.getElem?_eq_some_iff.1 hg).1;omega
theorem nw_u64 {w:TW} {y:Int} {x:Nat} {K:Nat→TW→Prop} (hy:y=x) (hx:x<W64) (h:∀b w',Ow w' w.w.heap.size ⟨some ⟨b,0,none⟩,1,1⟩ [x]→Ext none_ w w'→K b w'):nwb w [.int .u64 y] T.uint64 K:=by
 subst hy
 intro b w' hn
 refine h b w' ⟨⟨⟨by simp,.inr ⟨b,1,#[U x],rfl,by have:=hn.at_;omega,by simpa using hn.heap,Nat.le_refl _,by decide,by simp,by simp⟩⟩,fun c hc hV=>?_⟩,Sm.cons hx (Sm.nil _)⟩ (hn.ext _)
 simp [Sl.blk] at hc
 rw [hn.V] at hV
 have:=w.lt _ hV
 have:=hn.at_
 omega
end Go.Proofs.YtjhfalgmgagdhaaGreatDoor.Zg
end
