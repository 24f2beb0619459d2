/- A part of the proofs of this seat's laws: words, lemmas or contracts of its functions. -/
import Derived.Test.YtjhfalgmgagdhaaGreatDoorGIA
import Derived.Test.YtjhfalgmgagdhaaGreatDoorGP
import Derived.Test.YtjhfalgmgagdhaaGreatDoorGP1
import Derived.Test.YtjhfalgmgagdhaaGreatDoorGP2
import Derived.Test.YtjhfalgmgagdhaaGreatDoorGP3
import Derived.Test.YtjhfalgmgagdhaaGreatDoorGP4
import Derived.Test.YtjhfalgmgagdhaaGreatDoorGP5
import Derived.Deep.SlicePairs
import Derived.Deep.Fields
import Derived.Test.YtjhfalgmgagdhaaGreatDoorGS
set_option linter.unusedVariables false
set_option linter.unusedSimpArgs false
set_option linter.unnecessarySimpa false
section
namespace Go.Proofs.YtjhfalgmgagdhaaGreatDoor.Zg
open Go.RowKit
def NewE (F:FuncId):Prop:=∀{t:HL I11} {w:TW},Ct Pg F [.agg (encs I11 t).toArray] w none_ [.one .ptr] fun (p:Option Addr) w'=>∃bs b tab,Chain w' p bs b∧bs≠[]∧w.w.heap.size≤b∧(∀c∈bs,w.w.heap.size≤c∧c≠b)∧TabOk tab∧Tn w' b 0 0 0 tab
theorem new_step {Fi:FuncId} (h:NewE Fi) {t:HL I11} {w:TW} {ty:TypeId}:nwv w.here fun w1=>cl Pg Fi [.agg (encs I11 t).toArray] w1 [.one .ptr] fun (p:Option Addr) w2=>nwb w2 [.pointer p] ty fun b w3=>Rt none_ [.one .ptr] (fun (p:Option Addr) w'=>∃bs b tab,Chain w' p bs b∧bs≠[]∧w.w.heap.size≤b∧(∀c∈bs,w.w.heap.size≤c∧c≠b)∧TabOk tab∧Tn w' b 0 0 0 tab) w (.pointer (some ⟨b,0,none⟩)) w3:=by
 intro w1 e1
 refine c1 (h (t:=t)) ?_
 rintro p w2 e2 ⟨bs,b,tab,hen,_,hbt,hne,htab,htn⟩
 intro c w3 hn
 have hlt:=htn.lt
 have hc:c=w2.w.heap.size:=hn.at_
 have hle:w.w.heap.size≤w1.w.heap.size:=e1.size
 have hle2:=e2.size
 refine rt1 (c:=.ptr) (some ⟨c,0,none⟩) ((e1.trans e2).trans (hn.ext _)) ⟨c::bs,b,tab,?_,by simp,by omega,?_,htab,(htn.ext (hn.ext _)).at⟩
 ·refine ⟨rfl,fun hV=>?_,p,?_,(hen.ext (hn.ext _)).at⟩
  ·have hV:w3.V c:=hV
   rw [hn.V] at hV
   have:=w2.lt _ hV
   omega
  ·show w3.w.cell? _=_
   rw [cell_of_row w3.w c 0 _ ty (0,0) hn.heap]
   rfl
 ·intro x hx
  rcases List.mem_cons.1 hx with rfl|hx
  ·exact ⟨by omega,by omega⟩
  ·have:=hne x hx
   exact ⟨by omega,this.2⟩
theorem toom_NewE:NewE F.toom_New:=fun {t w}=>Calls.mono (toom_New (t:=t) (w:=w)) fun e w' h=>by
 obtain ⟨x,T',h1,h2,h3,d,k,e,b,tab,k1,k2,k3,k4,k5⟩:=h
 exact ⟨x,T',h1,h2,h3,[d,k,e],b,tab,k1,by simp,k2,k3,k4,k5⟩
theorem mul_NewE:NewE F.mul_New:=fun {t w}=>Ct.mul_New (new_step toom_NewE)
theorem divs_NewE:NewE F.divs_New:=fun {t w}=>Ct.divs_New (new_step mul_NewE)
theorem recip_NewE:NewE F.recip_New:=fun {t w}=>Ct.recip_New (new_step divs_NewE)
theorem div_NewE:NewE F.div_New:=fun {t w}=>Ct.div_New (new_step recip_NewE)
theorem root_NewE:NewE F.root_New:=fun {t w}=>Ct.root_New (new_step div_NewE)
theorem radix_NewE:NewE F.radix_New:=fun {t w}=>Ct.radix_New (new_step root_NewE)
theorem num_NewE:NewE F.num_New:=fun {t w}=>Ct.num_New (new_step radix_NewE)
theorem power_NewE:NewE F.power_New:=fun {t w}=>Ct.power_New (new_step num_NewE)
theorem gcd_NewE:NewE F.gcd_New:=fun {t w}=>Ct.gcd_New (new_step power_NewE)
theorem hgcd_NewE:NewE F.hgcd_New:=fun {t w}=>Ct.hgcd_New (new_step gcd_NewE)
theorem modn_NewE:NewE F.modn_New:=fun {t w}=>Ct.modn_New (new_step hgcd_NewE)
theorem polyz_NewE:NewE F.polyz_New:=fun {t w}=>Ct.polyz_New (new_step modn_NewE)
theorem zmul_NewE:NewE F.zmul_New:=fun {t w}=>Ct.zmul_New (new_step polyz_NewE)
theorem sz_bits {x K:Nat} (h:x<2^K):sz x≤K/64+1:=sz_pow (by rw [w_pow,←Nat.pow_mul];exact Nat.lt_of_lt_of_le h (Nat.pow_le_pow_right (by decide) (by omega)))
theorem zmul_digits {w:TW} {a:Sl} {x f n:Nat} (ha:Nt w a x) (hn:n≤1048576) (hf:f≤4611686018427387904) (hs:a.n≤549755813888):Ct Pg F.zmul_digits [a.v,.int .i64 f,.int .i64 n] w none_ [.one .slice] fun (s':Sl) w'=>On w' w.w.heap.size s' (x/2^f%2^n):=by
 obtain ⟨l,ha,rfl⟩:=ha
 refine Ct.zmul_digits ?_
 unfold Sh.zmul_digits
 have na:=ha.len
 have hcap:=ha.rv.2.1
 refine divNi (x:=f) (y:=64) rfl rfl (by omega) (by decide) ?_
 have hxl:=vl_lt ha.sm
 have hdm:=Nat.div_add_mod f 64
 have hr:=Nat.mod_lt f (show 0<64 by decide)
 have hW:∀j,W64^j=2^(64*j):=fun j=>by rw [Nat.pow_mul]
 have hsplit:vl W64 l/2^f=vl W64 l/W64^(f/64)/2^(f%64):=by
  rw [hW,Nat.div_div_eq_div_mul,←Nat.pow_add,hdm]
 refine cnd_d (fun h=>?_) (fun h=>?_)
 ·refine rt1 (c:=.slice) Sl.nil (Ext.refl _ _) ?_
  have:vl W64 l/2^f=0:=by
   rw [hsplit,Nat.div_eq_of_lt (Nat.lt_of_lt_of_le hxl (Nat.pow_le_pow_right (by decide) (by omega))),Nat.zero_div]
  rw [this,Nat.zero_mod]
  exact On.nil _ _
 refine divNi (x:=n) (y:=64) rfl rfl (by omega) (by decide) (bnd_wi (by omega) (by omega) (bnd_wi (by omega) (by omega) ?_))
 obtain ⟨T,hT⟩:∃T,T=min (f/64+n/64+2) l.length:=⟨_,rfl⟩
 refine bnd_eq (y:=(T:Int)) (by split<;>omega) ⟨by omega,by omega,by omega,?_⟩
 rw [Int.toNat_natCast,Int.toNat_natCast]
 have hcut:=ha.here.cut (lo:=f/64) (hi:=T) (by omega) (by omega)
 have hv:vl W64 ((l.take T).drop (f/64))=vl W64 l/W64^(f/64)%W64^(T-f/64):=by
  rw [List.drop_take,(vl_drop_div (ha.sm.drop _) _).2,(vl_drop_div ha.sm _).1]
 have hN:=hcut.nt
 rw [hv] at hN
 refine remN (x:=f) (y:=64) rfl rfl (by decide) ?_
 have hsz:sz (vl W64 l/W64^(f/64)%W64^(T-f/64))≤l.length:=Nat.le_trans (sz_mono (Nat.le_trans (Nat.mod_le _ _) (Nat.div_le_self _ _))) (sz_vl ha.sm)
 refine c1 (limb_Shr (n:=((f%64:Nat):Int)) hN (by omega)) fun s1 w1 e1 h1=>?_
 rw [show min (((f%64:Nat):Int).toNat) 1048576=f%64 by omega] at h1
 refine c1 (limb_Low (n:=n) h1.nt (Nat.le_trans (sz_mono (Nat.div_le_self _ _)) (by omega))) fun s2 w2 e2 h2=>?_
 rw [show min ((n:Int).toNat) 1048576=n by omega] at h2
 refine rt1 (c:=.slice) _ (e1.trans e2) ?_
 have key:vl W64 l/W64^(f/64)%W64^(T-f/64)/2^(f%64)%2^n=vl W64 l/2^f%2^n:=by
  rw [hsplit]
  by_cases hlen:f/64+n/64+2≤l.length
  ·have e:W64^(T-f/64)=2^(f%64)*2^(64*(T-f/64)-f%64):=by rw [hW,←Nat.pow_add];congr 1;omega
   rw [e,Nat.mod_mul_right_div_self]
   exact Nat.mod_mod_of_dvd _ (Nat.pow_dvd_pow 2 (by omega))
  ·have hTl:T=l.length:=by omega
   have:vl W64 l/W64^(f/64)<W64^(T-f/64):=by
    rw [Nat.div_lt_iff_lt_mul (Nat.pow_pos (by decide)),←Nat.pow_add,hTl,Nat.sub_add_cancel (by omega)]
    exact hxl
   rw [Nat.mod_eq_of_lt this]
 rw [key] at h2
 exact On.at (On.less h2 e1.size)
theorem zmul_shifted {w:TW} {B:Nat} {a:Sl} {neg:Bool} {z:Int} {n:Nat} (ha:Io w B a neg z) (hB:B≤w.w.heap.size) (hz:sz (z.natAbs*2^n)≤1099511627776) (hn:n≤1099511627776):Ct Pg F.zmul_shifted [.agg #[a.v,.bool neg],.int .i64 n] w none_ [.agg [.slice,.bool]] fun (s':Sl) (neg':Bool) w'=>Io w' B s' neg' (z*(2^n:Nat)):=by
 refine Ct.zmul_shifted ?_
 unfold Sh.zmul_shifted
 intro w1 e1 w2 e2
 have e12:=e1.trans e2
 have h0:=On.ext (w:=w.here) (Ow.here ha.1) e12
 refine ⟨fun (x:Sl) (b:Bool) (_:Sl) (_:Bool) w'=>On w' B x (z.natAbs*2^n)∧b=neg∧Ext none_ w.here w',?_,?_⟩
 ·refine ⟨fun m (i:Int) (x:Sl) (b:Bool) (_:Sl) (_:Bool) w3=>m≤n∧i=m∧On w3 B x (z.natAbs*2^(n-m))∧b=neg∧Ext none_ w.here w3,⟨n,Nat.le_refl _,rfl,by simpa using h0,rfl,e12⟩,?_⟩
  intro m (i:Int) (x:Sl) (b:Bool) (_:Sl) (_:Bool) w3 h
  obtain ⟨hm,rfl,hx,rfl,e3⟩:=h
  refine cnd_d (fun h=>?_) (fun h=>?_)
  ·refine bnd_eq (y:=((min m 1048576:Nat):Int)) (by split<;>omega) ?_
   have hle:z.natAbs*2^(n-m)≤z.natAbs*2^n:=Nat.mul_le_mul_left _ (Nat.pow_le_pow_right (by decide) (by omega))
   refine c1 (limb_Shl (n:=((min m 1048576:Nat):Int)) (On.nt hx) (Nat.le_trans (sz_mono hle) hz)) fun s w4 e4 h4=>?_
   rw [show min (((min m 1048576:Nat):Int).toNat) 1048576=min m 1048576 by omega] at h4
   refine bnd_wi (by omega) (by omega) ⟨m-min m 1048576,by omega,by omega,by omega,?_,rfl,e3.trans e4⟩
   rw [show n-(m-min m 1048576)=n-m+min m 1048576 by omega,Nat.pow_add,←Nat.mul_assoc]
   exact On.less h4 (Nat.le_trans hB e3.size)
  ·have:m=0:=by omega
   subst this
   exact ⟨hx,rfl,e3⟩
 intro x b _ _ w3 h
 obtain ⟨hx,rfl,e3⟩:=h
 intro w4 e4
 refine ⟨(x,b,()),rfl,e3.trans e4,?_⟩
 have hp:=Nat.two_pow_pos n
 refine ⟨?_,?_⟩
 ·rw [Int.natAbs_mul,Int.natAbs_natCast]
  exact On.at (On.ext hx e4)
 ·rw [ha.2,decide_eq_decide]
  constructor
  ·intro h;exact Int.mul_neg_of_neg_of_pos h (by omega)
  ·intro h
   rcases Int.lt_or_le z 0 with h'|h'
   ·exact h'
   ·have:=Int.mul_nonneg h' (show (0:Int)≤((2^n:Nat):Int) by omega)
    omega
theorem pval_lt {M:Nat} (hM:0<M):∀{l:List Int},(∀z∈l,z.natAbs<M)→(pval (M:Int) l).natAbs<M^l.length
 | [],_=>by simp [pval]
 | z::l,h=>by
  have ih:=pval_lt hM (l:=l) fun y hy=>h y (List.mem_cons_of_mem _ hy)
  have hz:=h z (List.mem_cons_self ..)
  show (z+(M:Int)*pval M l).natAbs<_
  rw [List.length_cons,Nat.pow_succ]
  have h1:=Int.natAbs_add_le z ((M:Int)*pval M l)
  rw [Int.natAbs_mul,Int.natAbs_natCast] at h1
  have h2:=Nat.mul_le_mul_left M (Nat.succ_le_of_lt ih)
  rw [Nat.mul_succ,Nat.mul_comm M (M^l.length)] at h2
  omega
theorem pval_append (b:Int) (l m:List Int):pval b (l++m)=pval b l+b^l.length*pval b m:=by
 induction l with
 | nil=>simp [pval]
 | cons z l ih=>rw [List.cons_append,pval,ih,pval,List.length_cons,Int.pow_succ];grind
theorem bl_iff {x k:Nat} (h:bl x≤k):x<2^k:=Nat.lt_of_lt_of_le (bl_lt x) (Nat.pow_le_pow_right (by decide) h)
theorem zmul_half {k:Nat} (hk:k≤1048576):∀(n:Nat) {w:TW} {a:Sl} {zs:List Int},Ri w a zs→zs.length≤n→n≤65536→(∀z∈zs,z.natAbs<2^k)→Ct Pg F.zmul_half [a.v,.int .i64 k] w none_ [.agg [.slice,.bool]] fun (s':Sl) (neg':Bool) w'=>Io w' w.w.heap.size s' neg' (pval (2^k:Nat) zs):=by
 intro n
 induction n using Nat.strongRecOn with
 | ind n ih=>
 intro w a zs ha hl hn hz
 refine Ct.zmul_half ?_
 unfold Sh.zmul_half
 have na:=ha.len
 have hcap:a.n≤a.c:=by obtain ⟨ts,g1,_⟩:=ha;exact g1.2.1
 intro w1 e1
 have hp2:=Nat.two_pow_pos k
 have szb:∀{l:List Int} {x:Nat},(∀z∈l,z.natAbs<2^k)→l.length≤65536→x<(2^k)^l.length→sz x≤1099511627776:=fun {l x} h1 h2 h3=>by
  rw [←Nat.pow_mul] at h3
  have h4:=sz_bits h3
  have h5:k*l.length≤1048576*65536:=Nat.mul_le_mul hk h2
  omega
 refine cnd_i (fun h=>?_) (fun h=>?_)
 ·have h0:zs=[]:=by
   have:(a.n:Int)=0:=by simpa using h
   exact List.length_eq_zero_iff.1 (by omega)
  subst h0
  intro w2 e2
  exact ⟨(Sl.nil,false,()),rfl,e1.trans e2,On.nil _ _,rfl⟩
 have hne:a.n≠0:=fun h'=>by simp [h'] at h
 refine cnd_i (fun h1=>?_) (fun h1=>?_)
 ·have hl1:zs.length=1:=by
   have:(a.n:Int)=1:=by simpa using h1
   omega
  obtain ⟨z,rfl⟩:=List.length_eq_one_iff.1 hl1
  refine (ha.here.ext e1).ix (j:=0) rfl (by simp) fun ad t hzt _ k0 k1=>ldp k0 k1 ?_
  have hzt:Iz w1 t.1 t.2 z:=hzt
  have hzz:=hz z (by simp)
  refine cl0 (num_Norm hzt (szb (l:=[z]) hz (by simp) (by simpa using hzz))) ?_
  intro r rn w2 e2 hr
  have hr:Io w2 w1.w.heap.size r rn z:=hr
  intro w3 e3
  refine ⟨(r,rn,()),rfl,(e1.trans e2).trans e3,?_⟩
  have:pval ((2^k:Nat):Int) [z]=z:=by simp [pval]
  rw [this]
  exact ((hr.ext e3).less e1.size).at
 have hn1:a.n≠1:=fun h'=>by simp [h'] at h1
 refine divNi (x:=a.n) (y:=2) rfl rfl (by omega) (by decide) ?_
 obtain ⟨H,hH⟩:∃H,H=a.n/2:=⟨_,rfl⟩
 rw [←hH]
 refine ⟨by omega,by omega,by omega,?_⟩
 rw [Int.toNat_natCast,Int.toNat_natCast,na]
 have hi:=(ha.here.ext e1).cut (lo:=H) (hi:=zs.length) (by omega) (Nat.le_refl _)
 rw [List.take_of_length_le (Nat.le_refl _)] at hi
 have hzd:∀z∈zs.drop H,z.natAbs<2^k:=fun z h=>hz z (List.mem_of_mem_drop h)
 have hzt:∀z∈zs.take H,z.natAbs<2^k:=fun z h=>hz z (List.mem_of_mem_take h)
 refine cl0 (ih (zs.drop H).length (by simp;omega) hi (Nat.le_refl _) (by simp;omega) hzd) ?_
 intro r rn w2 e2 hr
 have hr:Io w2 w1.w.heap.size r rn (pval (2^k:Nat) (zs.drop H)):=hr
 intro w3 e3 w4 e4
 refine ⟨by omega,by omega,by omega,?_⟩
 have hkH:k*H≤1048576*65536:=Nat.mul_le_mul hk (by omega)
 refine bnd_eq (y:=((k*H:Nat):Int)) (wi_mul (by omega)) ?_
 have ed:=((e2.trans e3).trans e4).drew
 have lo:=((ha.here.ext e1).ext ed).cut (lo:=0) (hi:=H) (Nat.zero_le _) (by omega)
 rw [List.drop_zero] at lo
 refine cl0 (ih (zs.take H).length (by simp;omega) lo (Nat.le_refl _) (by simp;omega) hzt) ?_
 intro q qn w5 e5 hq
 have hq:Io w5 w4.w.heap.size q qn (pval (2^k:Nat) (zs.take H)):=hq
 have hhi:=pval_lt hp2 hzd
 have hlo:=pval_lt hp2 hzt
 have e35:=(e3.trans e4).drew.trans e5
 have hfull:(pval (2^k:Nat) (zs.drop H)).natAbs*2^(k*H)<(2^k)^zs.length:=by
  have:(2^k)^zs.length=(2^k)^(zs.drop H).length*2^(k*H):=by
   rw [Nat.pow_mul,←Nat.pow_add];congr 1;simp;omega
  rw [this]
  exact Nat.mul_lt_mul_of_pos_right hhi (Nat.two_pow_pos _)
 refine cl0 (zmul_shifted (hr.ext e35) (Nat.le_trans e2.size e35.size) (szb hz (by omega) hfull) (by omega)) ?_
 intro u un w6 e6 hu
 have hu:Io w6 w1.w.heap.size u un (pval (2^k:Nat) (zs.drop H)*(2^(k*H):Nat)):=hu
 refine cl0 (num_Add (hq.ext e6).iz hu.iz (szb hzt (by simp;omega) hlo) (by rw [Int.natAbs_mul,Int.natAbs_natCast];exact szb hz (by omega) hfull)) ?_
 intro v vn w7 e7 hv
 have hv:Io w7 w6.w.heap.size v vn (pval (2^k:Nat) (zs.take H)+pval (2^k:Nat) (zs.drop H)*(2^(k*H):Nat)):=hv
 intro w8 e8
 have eE:=(((e1.trans ed).trans e5).trans e6)
 refine ⟨(v,vn,()),rfl,(eE.trans e7).trans e8,?_⟩
 have hp:pval ((2^k:Nat):Int) zs=pval (2^k:Nat) (zs.take H)+pval (2^k:Nat) (zs.drop H)*(2^(k*H):Nat):=by
  conv=>lhs;rw [←List.take_append_drop H zs]
  rw [pval_append,List.length_take,Nat.min_eq_left (by omega),Int.mul_comm,←Int.natCast_pow,Nat.pow_mul]
 rw [hp]
 exact ((hv.ext e8).less eE.size).at
end Go.Proofs.YtjhfalgmgagdhaaGreatDoor.Zg
end

section
namespace Go.Proofs.YtjhfalgmgagdhaaGreatDoor.Zg
open Go.RowKit
inductive Un (M:Nat):Int→List Int→Prop
 | nil:Un M 0 []
 | cons {z:Int} {l:List Int} (h:z≠0) (t:Un M ((z-sgd (z%(M:Int)).toNat M)/(M:Int)) l):Un M z (sgd (z%(M:Int)).toNat M::l)
theorem Un.det {M:Nat} {z:Int} {l:List Int} (h:Un M z l):∀{l':List Int},Un M z l'→l=l':=by
 induction h with
 | nil=>
  intro l' h'
  cases h' with
  | nil=>rfl
  | cons h t=>exact absurd rfl h
 | cons h t ih=>
  intro l' h'
  cases h' with
  | nil=>exact absurd rfl h
  | cons h2 t2=>rw [ih t2]
theorem sgd_spec {z:Int} {M:Nat} (hM:0<M):∃q,z=M*q+sgd (z%(M:Int)).toNat M∧-(M:Int)<2*sgd (z%(M:Int)).toNat M∧2*sgd (z%(M:Int)).toNat M≤M:=by
 have h1:=Int.emod_add_mul_ediv z M
 have h2:=Int.emod_nonneg z (show (M:Int)≠0 by omega)
 have h3:=Int.emod_lt_of_pos z (show (0:Int)<M by omega)
 have h4:(z%(M:Int)).toNat%M=(z%(M:Int)).toNat:=Nat.mod_eq_of_lt (by omega)
 unfold sgd
 rw [h4]
 split
 ·exact ⟨z/M+1,by rw [Int.mul_add];omega,by omega,by omega⟩
 ·exact ⟨z/M,by omega,by omega,by omega⟩
theorem sgd_uniq {z q c:Int} {M:Nat} (hM:0<M) (h:z=M*q+c) (h1:-(M:Int)<2*c) (h2:2*c≤M):sgd (z%(M:Int)).toNat M=c∧(z-c)/(M:Int)=q:=by
 refine ⟨?_,by rw [h,Int.add_sub_cancel,Int.mul_ediv_cancel_left _ (by omega)]⟩
 have h3:z%(M:Int)=if c<0 then c+M else c:=by
  split
  ·refine (eu (q:=q-1) (by omega) ?_ (by omega) (by omega)).2
   rw [Int.mul_sub];omega
  ·exact (eu (q:=q) (by omega) (by omega) (by omega) (by omega)).2
 unfold sgd
 have h4:(z%(M:Int)).toNat<M:=by rw [h3];split<;>omega
 rw [Nat.mod_eq_of_lt h4,h3]
 split<;>split<;>omega
theorem un_step {M:Nat} (hM:4≤M) {z q c:Int} (h:z=M*q+c) (h1:-(M:Int)<2*c) (h2:2*c≤M):2*q.natAbs≤z.natAbs:=by
 rcases Int.lt_trichotomy q 0 with hq|hq|hq
 ·have:=Int.mul_nonneg (show (0:Int)≤(M:Int)-2 by omega) (show (0:Int)≤-q-1 by omega)
  have e:((M:Int)-2)*(-q-1)=-((M:Int)*q)-M+2*q+2:=by grind
  rw [e] at this
  omega
 ·omega
 ·have:=Int.mul_nonneg (show (0:Int)≤(M:Int)-2 by omega) (show (0:Int)≤q-1 by omega)
  have e:((M:Int)-2)*(q-1)=(M:Int)*q-M-2*q+2:=by grind
  rw [e] at this
  omega
theorem bl_step {x y:Nat} (h:2*y≤x) (hx:0<x):bl y+1≤bl x:=by
 rw [bl_half hx]
 have:bl y≤bl (x/2):=bl_pow (Nat.lt_of_le_of_lt (by omega) (bl_lt (x/2)))
 omega
theorem Un.zero {M:Nat} {z:Int} {l:List Int} (h:Un M z l) (hl:l=[]):z=0:=by
 cases h with
 | nil=>rfl
 | cons=>cases hl
theorem Un.last {M:Nat} {z:Int} {l:List Int} (hM:0<M) (h:Un M z l):∀c,l.getLast?=some c→c≠0:=by
 induction h with
 | nil=>intro c h;simp at h
 | cons h t ih=>
  rename_i z l
  intro c hc
  cases l with
  | nil=>
   simp at hc
   subst hc
   obtain ⟨q,hq,h1,h2⟩:=sgd_spec (z:=z) hM
   have h3:=(sgd_uniq hM hq h1 h2).2
   have h4:=t.zero rfl
   rw [h3] at h4
   subst h4
   rw [Int.mul_zero,Int.zero_add] at hq
   exact fun h'=>h (hq.trans h')
  | cons y l=>exact ih c (by simpa using hc)
theorem Un.trim {M:Nat} {z:Int} {l:List Int} (hM:0<M) (h:Un M z l):ptrim l=l:=ptrim_last (h.last hM)
end Go.Proofs.YtjhfalgmgagdhaaGreatDoor.Zg
end

section
namespace Go.Proofs.YtjhfalgmgagdhaaGreatDoor.Zg
open Go.RowKit
theorem lp5 {c1 c2 c3 c4 c5:CK} {body:Tel [c1,c2,c3,c4,c5] (TW→(Tel [c1,c2,c3,c4,c5] (TW→Prop))→Prop)} {x1:CV c1} {x2:CV c2} {x3:CV c3} {x4:CV c4} {x5:CV c5} {w:TW} (I:Nat→CV c1→CV c2→CV c3→CV c4→CV c5→TW→Prop) (m:Nat) (h0:I m x1 x2 x3 x4 x5 w)
  (hs:∀m x1 x2 x3 x4 x5 w,I m x1 x2 x3 x4 x5 w→body x1 x2 x3 x4 x5 w (fun y1 y2 y3 y4 y5 w'=>∃m',m'<m∧I m' y1 y2 y3 y4 y5 w')):Lp [c1,c2,c3,c4,c5] body x1 x2 x3 x4 x5 w:=⟨I,⟨m,h0⟩,hs⟩
theorem zmul_unpacked {w:TW} {B:Nat} {a:Sl} {neg:Bool} {z:Int} {k:Nat} (ha:Io w B a neg z) (h2:2≤k) (hk:k≤1048576) (hz:bl z.natAbs≤1073741824):Ct Pg F.zmul_unpacked [.agg #[a.v,.bool neg],.int .i64 k] w none_ [.one .slice] fun (s':Sl) w'=>∃l,Un (2^k) z l∧Rq (dg W64) w' s' l∧l.length≤bl z.natAbs∧∀i,bl (l.getD i 0).natAbs≤k:=by
 refine Ct.zmul_unpacked ?_
 unfold Sh.zmul_unpacked
 intro w1 e1
 have szk:sz (1*2^k)≤k/64+1:=by rw [Nat.one_mul];exact sz_pow (by rw [w_pow,←Nat.pow_mul];exact Nat.pow_lt_pow_right (by decide) (by omega))
 refine c1 (limb_One (y:=1) (by decide)) fun s w2 e2 g2=>?_
 have so:=sz_word (x:=1) (by decide)
 refine c1 (limb_Shl (n:=k) (On.nt g2) (by omega)) fun s1 w3 e3 g3=>?_
 rw [show min ((k:Int).toNat) 1048576=k by omega,Nat.one_mul] at g3
 refine c1 (limb_One (y:=1) (by decide)) fun s2 w4 e4 g4=>?_
 refine bnd_eq (y:=((k-1:Nat):Int)) ((wi_id (by omega) (by omega)).trans (by omega)) ?_
 refine c1 (limb_Shl (n:=((k-1:Nat):Int)) (On.nt g4) (by omega)) fun s3 w5 e5 g5=>?_
 rw [show min (((k-1:Nat):Int).toNat) 1048576=k-1 by omega,Nat.one_mul] at g5
 have e15:=((((e1.trans e2).trans e3).trans e4).trans e5)
 have hszz:sz z.natAbs≤16777217:=by have:=sz_bits (bl_lt z.natAbs);omega
 have hal:=ha.1.len
 refine c1 (api_Bits (On.nt (On.ext (w:=w.here) (Ow.here ha.1) e15)) (by omega)) ?_
 rintro r w6 e6 rfl
 refine bnd_wi (by omega) (by omega) (bnd_wi (by omega) (by omega) ?_)
 obtain ⟨n,hn⟩:∃n,n=(bl z.natAbs+k-1)/k:=⟨_,rfl⟩
 refine divNi (x:=bl z.natAbs+k-1) (y:=k) (by omega) rfl (by omega) (by omega) ?_
 rw [←hn]
 have e16:=e15.trans e6
 have gA:Nt w6 a z.natAbs:=On.nt (On.ext (w:=w.here) (Ow.here ha.1) e16)
 have gM:Nt w6 s1 (2^k):=(((On.nt g3).ext e4).ext e5).ext e6
 have gL:Nt w6 s3 (2^(k-1)):=(On.nt g5).ext e6
 have hneg:=ha.2
 have hM2:2^k=2*2^(k-1):=by rw [Nat.mul_comm,←Nat.pow_succ];congr 1;omega
 have hM4:4≤2^k:=Nat.le_trans (by decide:4≤2^2) (Nat.pow_le_pow_right (by decide) h2)
 obtain ⟨M,hMd⟩:∃M,2^k=M:=⟨_,rfl⟩
 obtain ⟨Lm,hLm⟩:∃Lm,2^(k-1)=Lm:=⟨_,rfl⟩
 have hMp:∀j,M^j=2^(j*k):=fun j=>by rw [←hMd,←Nat.pow_mul,Nat.mul_comm]
 have hszM:sz M≤16386:=by rw [←hMd];rw [Nat.one_mul] at szk;omega
 rw [hMd] at hM2 hM4 gM ⊢
 rw [hLm] at hM2 gL
 obtain ⟨N,hN⟩:∃N,z.natAbs=N:=⟨_,rfl⟩
 rw [hN] at gA hz hn hszz hal
 have hbn:∀j,j<n→N/M^j≠0:=fun j hj h0=>by
  have hp:0<M^j:=Nat.pow_pos (by omega)
  have h3:N<M^j:=(Nat.div_eq_zero_iff_lt hp).1 h0
  rw [hMp] at h3
  have h4:=bl_pow h3
  have h5:(j+1)*k≤n*k:=Nat.mul_le_mul_right k hj
  have h6:n*k≤bl N+k-1:=by rw [hn];exact Nat.div_mul_le_self _ _
  rw [Nat.add_mul] at h5
  omega
 have hbg:∀j,n≤j→N/M^j=0:=fun j hj=>by
  refine Nat.div_eq_of_lt ?_
  rw [hMp]
  refine Nat.lt_of_lt_of_le (bl_lt N) (Nat.pow_le_pow_right (by decide) ?_)
  have h5:n*k≤j*k:=Nat.mul_le_mul_right k hj
  have h6:=Nat.div_add_mod (bl N+k-1) k
  have h7:=Nat.mod_lt (bl N+k-1) (show 0<k by omega)
  rw [←hn,Nat.mul_comm] at h6
  omega
 have szN:sz N≤16777217:=hszz
 refine j1 (fun (out:Sl) w'=>∃l,Un M z l∧Rq (dg W64) w' out l∧l.length≤bl z.natAbs∧(∀i,bl (l.getD i 0).natAbs≤k)∧Ext none_ w.here w') ?_ ?_
 ·refine lp5 (fun m (out:Sl) (carry:Sl) (i:Int) (a2:Sl) (a3:Bool) w7=>a=a2∧neg=a3∧∃(j cv:Nat) (l:List Int) (z':Int),i=j∧m=bl z'.natAbs∧l.length+m≤bl N∧l.length=j∧Nt w7 carry cv∧cv≤1∧z'=(if z<0 then -((N/M^j+cv:Nat):Int) else (N/M^j+cv:Nat))∧(∀r,Un M z' r→Un M z (l++r))∧Oq (dg W64) w7 w6.w.heap.size T.api_Int out l∧(∀i,bl (l.getD i 0).natAbs≤k)∧Ext none_ w6 w7) (bl N) ⟨rfl,rfl,0,0,[],z,rfl,by rw [hN],by simp,rfl,Nt.nil _,by omega,?_,fun r h=>h,Oq.nil _ _ _ _,fun i=>by simp [bl_zero],Ext.refl _ _⟩ ?_
  ·simp only [Nat.pow_zero,Nat.div_one,Nat.add_zero]
   split<;>omega
  rintro m out carry i a2 a3 w7 ⟨rfl,rfl,j,cv,l,z',rfl,rfl,hml,hlj,hcv,hcv1,hz',hun,ho,hlk,e7⟩
  obtain ⟨Q,hQ⟩:∃Q,N/M^j=Q:=⟨_,rfl⟩
  have hbn':=hbn j
  have hbg':=hbg j
  rw [hQ] at hz' hbn' hbg'
  have hzq:z'≠0↔(j<n∨cv≠0):=by
   constructor
   ·intro h0
    rcases Nat.lt_or_ge j n with h|h
    ·exact .inl h
    ·right;intro hc
     rw [hbg' h,hc] at hz'
     apply h0;rw [hz'];split<;>rfl
   ·intro h0 hz0
    have:Q+cv=0:=by rw [hz0] at hz';split at hz'<;>omega
    rcases h0 with h|h
    ·exact hbn' h (by omega)
    ·omega
  refine j3 (fun (x:Bool) (b2:Sl) (b3:Bool) w9=>x=decide (z'≠0)∧a=b2∧neg=b3∧Ext none_ w7 w9) ?_ ?_
  ·refine cnd_d (fun h=>?_) (fun h=>?_)
   ·refine ⟨?_,rfl,rfl,Ext.refl _ _⟩
    symm;rw [decide_eq_true_iff]
    exact hzq.2 (.inl (by omega))
   ·refine c1 (api_Zero hcv) ?_
    rintro q w8 e8 rfl
    refine ⟨?_,rfl,rfl,e8⟩
    have:z'≠0↔cv≠0:=⟨fun h0=>(hzq.1 h0).elim (fun h'=>by omega) id,fun h0=>hzq.2 (.inr h0)⟩
    by_cases hc:cv=0
    ·have:¬z'≠0:=fun h'=>this.1 h' hc
     simp only [hc]
     symm;simpa using this
    ·have:=this.2 hc
     simp only [hc]
     symm;simpa using this
  rintro x b2 b3 w9 ⟨rfl,rfl,rfl,e9⟩
  refine cnd_d (fun h0=>?_) (fun h0=>?_)
  ·have hjb:j≤1073741824:=by omega
   have hjk:j*k≤1073741824*1048576:=Nat.mul_le_mul hjb hk
   refine bnd_eq (y:=((j*k:Nat):Int)) (wi_mul (by omega)) ?_
   have e69:=e7.trans e9
   have hal':a.n≤16777217:=by omega
   refine c1 (zmul_digits (f:=j*k) (n:=k) (gA.ext e69) hk (by omega) (by omega)) fun s4 w10 e10 g10=>?_
   rw [hMd,←hMp] at g10
   rw [hQ] at g10
   have hQd:=Nat.div_add_mod Q M
   have hQm:=Nat.mod_lt Q (show 0<M by omega)
   have hQn:N/M^(j+1)=Q/M:=by rw [Nat.pow_succ,←Nat.div_div_eq_div_mul,hQ]
   have sQ:sz (Q%M)≤16386:=Nat.le_trans (sz_mono (Nat.le_of_lt hQm)) hszM
   have scv:=sz_word (x:=cv) (by rw [w64];omega)
   have hcv:=(hcv.ext e9).ext e10
   refine c1 (limb_Add (On.nt g10) hcv (by omega) (by omega)) fun s5 w11 e11 g11=>?_
   obtain ⟨d,hd⟩:∃d,Q%M+cv=d:=⟨_,rfl⟩
   rw [hd] at g11
   have sd:sz d≤16387:=by have:=sz_add (Q%M) cv;rw [hd] at this;omega
   intro w12 e12 w13 e13
   have e6d:=((e69.trans e10).trans (e11.trans e12)).trans e13
   have g13:=On.ext (On.ext g11 e12) e13
   refine c1 (limb_Cmp (On.nt g13) (gL.ext e6d)) ?_
   rintro r w14 e14 rfl
   have cp:=@cmpN_pos d Lm
   have ce:=@cmpN_eq d Lm
   refine j5 (fun (x:Bool) (y2:Sl) (y3:Bool) (y4:Sl) (y5:Bool) w15=>x=decide (Lm<d∨(d=Lm∧neg=true))∧a=y2∧neg=y3∧s5=y4∧neg=y5∧w14=w15) ?_ ?_
   ·refine cnd_d (fun h=>⟨?_,rfl,rfl,rfl,rfl,rfl⟩) (fun h=>?_)
    ·symm;rw [decide_eq_true_iff];exact .inl (cp.1 h)
    ·refine cnd_i (fun h'=>⟨?_,rfl,rfl,rfl,rfl,rfl⟩) (fun h'=>⟨?_,rfl,rfl,rfl,rfl,rfl⟩)
     ·have:d=Lm:=ce.1 (by simpa using h')
      subst this
      cases neg<;>simp
     ·have:¬d=Lm:=fun h''=>by have:=ce.2 h'';rw [this] at h';simp at h'
      symm;rw [decide_eq_false_iff_not]
      rintro (h''|h'')
      ·exact h (cp.2 h'')
      ·exact this h''.1
   rintro x y2 y3 y4 y5 w15 ⟨rfl,rfl,rfl,rfl,rfl,rfl⟩
   have e6e:=e6d.trans e14
   have g15:=On.ext g13 e14
   refine j5 (fun (c':Sl) (y2':Sl) (y3':Bool) (y4':Sl) (y5':Bool) w19=>a=y2'∧neg=y3'∧Ext none_ w14 w19∧∃cv':Nat,∃c:Int,Nt w19 c' cv'∧(∀b,c'.blk=some b→w14.w.heap.size≤b)∧cv'≤1∧Iz w19 y4' y5' c∧2*c.natAbs≤M∧(cv'=if (Lm<d∨(d=Lm∧neg=true)) then 1 else 0)∧c=(if (Lm<d∨(d=Lm∧neg=true)) then (if neg then ((M-d:Nat):Int) else -((M-d:Nat):Int)) else (if neg then -(d:Int) else d))) ?_ ?_
   ·refine cnd_d (fun h=>?_) (fun h=>?_)
    ·refine c2 (limb_Sub (gM.ext e6e) (On.nt g15) (by omega)) ?_
     rintro s6 ok w16 e16 ⟨-,g16⟩
     intro w17 e17
     refine c1 (limb_One (y:=1) (by decide)) fun s7 w18 e18 g18=>⟨rfl,rfl,(e16.trans e17).trans e18,1,_,On.nt g18,fun b hb=>Nat.le_trans (e16.trans e17).size (Ow.blk_le g18 b hb),by omega,⟨M-d,((On.nt g16).ext e17).ext e18,rfl⟩,?_,by rw [if_pos h],?_⟩
     ·cases neg<;>simp<;>omega
     ·rw [if_pos h];cases neg<;>simp
    ·refine ⟨rfl,rfl,Ext.refl _ _,0,_,Nt.nil _,fun b hb=>by simp [Sl.nil,Sl.blk] at hb,by omega,⟨d,On.nt g15,rfl⟩,?_,by rw [if_neg h],?_⟩
     ·cases neg<;>simp<;>omega
     ·rw [if_neg h]
   rintro c' y2' y3' y4' y5' w19 ⟨rfl,rfl,e19,cv',c,hc',hcb',hcv',hIc,hc2,hcve,hce⟩
   have hbc:sz c.natAbs≤16386:=Nat.le_trans (sz_mono (by omega)) hszM
   refine cl0 (num_Norm hIc (by omega)) ?_
   intro r2 r3 w20 e20 hr
   have hr:Io w20 w19.w.heap.size r2 r3 c:=hr
   have e9e:=((((e10.trans e11).trans e12).trans e13).trans e14)
   have e920:=(e9.trans e9e).trans (e19.trans e20)
   have hneg':=hneg
   obtain ⟨q,hqd⟩:∃q:Int,q=(if z<0 then -((N/M^(j+1)+cv':Nat):Int) else (N/M^(j+1)+cv':Nat)):=⟨_,rfl⟩
   have hmq:(M:Int)*(Q/M:Nat)+(Q%M:Nat)=Q:=by rw [←Int.natCast_mul,←Int.natCast_add,hQd]
   have hkey:z'=(M:Int)*q+c∧-(M:Int)<2*c∧2*c≤M:=by
    have hm1:(M:Int)*((Q/M+1:Nat):Int)=(M:Int)*(Q/M:Nat)+M:=by rw [Int.natCast_add,Int.mul_add];simp
    rw [hQn] at hqd
    have hqn1:∀y:Int,(M:Int)*-y=-((M:Int)*y):=fun y=>Int.mul_neg _ _
    by_cases hC:Lm<d∨(d=Lm∧neg=true)
    ·rw [if_pos hC] at hcve hce
     subst hcve
     rw [hqd,hz',hce]
     by_cases hzn:z<0
     ·have h3:neg=true:=by rw [hneg'];simpa using hzn
      rw [if_pos hzn,if_pos hzn,if_pos h3,hqn1,hm1]
      omega
     ·have h3:¬neg=true:=by rw [hneg'];simpa using hzn
      rw [if_neg hzn,if_neg hzn,if_neg h3,hm1]
      have:Lm<d:=hC.elim id fun h=>absurd h.2 h3
      omega
    ·rw [if_neg hC] at hcve hce
     subst hcve
     rw [hqd,hz',hce,Nat.add_zero]
     by_cases hzn:z<0
     ·have h3:neg=true:=by rw [hneg'];simpa using hzn
      rw [if_pos hzn,if_pos hzn,if_pos h3,hqn1]
      have:¬(Lm<d∨d=Lm):=fun h=>hC (h.imp id fun h=>⟨h,h3⟩)
      omega
     ·have h3:¬neg=true:=by rw [hneg'];simpa using hzn
      rw [if_neg hzn,if_neg hzn,if_neg h3]
      omega
   obtain ⟨k1,k2,k3⟩:=hkey
   obtain ⟨u1,u2⟩:=sgd_uniq (by omega) k1 k2 k3
   have hq2:=un_step hM4 k1 k2 k3
   have hbs:=bl_step hq2 (by omega)
   refine (ho.ext e920).push (w0:=w6) (e7.trans e920) (by omega) hr.el (fun hne c1 hc1=>⟨fun hs=>?_,(Ow.from_ hr.1 c1 hc1).2⟩) fun s8 w21 h21 e21 x21=>bnd_wi (by omega) (by omega) ⟨bl q.natAbs,by omega,rfl,rfl,j+1,cv',l++[c],q,by omega,rfl,by simp;omega,by simp [hlj],?_,hcv',hqd,fun r hr'=>?_,h21,fun i=>?_,e21⟩
   ·have h1:=Ow.blk_le hr.1 c1 hc1
    have h2:=(ho.lt_blk c1 hs).2
    have:=(e9.trans e9e).size
    have:=e19.size
    omega
   ·refine (hc'.ext e20).extX x21 fun b hb h=>?_
    have h1:=hcb' b hb
    have h2:=(ho.lt_blk b h).2
    have:=(e9.trans e9e).size
    omega
   ·rw [List.append_assoc]
    refine hun _ ?_
    have:=Un.cons (M:=M) (z:=z') h0 (l:=r) (by rw [u1,u2];exact hr')
    rw [u1] at this
    exact this
   ·rcases Nat.lt_trichotomy i l.length with hi|hi|hi
    ·rw [show (l++[c]).getD i 0=l.getD i 0 by simp [List.getD_eq_getElem?_getD,List.getElem?_append_left hi]]
     exact hlk i
    ·subst hi
     rw [show (l++[c]).getD l.length 0=c by simp]
     refine bl_pow ?_
     rw [hMd];omega
    ·rw [List.getD_eq_getElem?_getD,List.getElem?_eq_none (by simp;omega)]
     simp [bl_zero]
  ·have hz0:z'=0:=by simpa using h0
   refine ⟨l,?_,ho.rq.ext e9,by rw [hN];omega,hlk,((e16.trans e7).trans e9)⟩
   have:=hun [] (by rw [hz0];exact Un.nil)
   simpa using this
 rintro out w7 ⟨l,hu,hr,hl,hlk,e7⟩
 have hM0:0<M:=by omega
 have hl2:=hl
 rw [hN] at hl2
 refine c1 (polyz_Norm hr.ri (by omega) fun i=>?_) fun s w8 e8 h8=>?_
 ·have:=sz_bits (bl_iff (hlk i));omega
 rw [hu.trim hM0] at h8
 exact rt1 (c:=.slice) _ (e7.trans e8) ⟨l,hu,h8.rq.at,hl,hlk⟩
end Go.Proofs.YtjhfalgmgagdhaaGreatDoor.Zg
end

section
namespace Go.Proofs.YtjhfalgmgagdhaaGreatDoor.Zg
open Go.RowKit
theorem bl_sz (x:Nat):bl x≤64*sz x:=bl_pow (by have:=lt_sz x;rwa [show W64^sz x=2^(64*sz x) by rw [Nat.pow_mul]] at this)
theorem zmul_Unpack {w:TW} {p:Option Addr} {a:Sl} {neg:Bool} {z:Int} {k:Int} (ha:Iz w a neg z) (hz:sz z.natAbs≤16777216):Ct Pg F.zmul_Engine_Unpack [.pointer p,.agg #[a.v,.bool neg],.int .i64 k] w none_ [.one .slice,.one (.int .i64)] fun (s:Sl) (err:Int) w'=>
  ((k<2∨1048576<k)→err=1∧s=Sl.nil)∧(¬(k<2∨1048576<k)→err=0∧∃l,Un (2^k.toNat) z l∧Rq (dg W64) w' s l∧l.length≤bl z.natAbs∧∀i,bl (l.getD i 0).natAbs≤k.toNat):=by
 refine Ct.zmul_Engine_Unpack ?_
 unfold Sh.zmul_Engine_Unpack
 intro w1 e1
 refine j3 (fun (x:Bool) (b:Sl) (bn:Bool) w2=>x=decide (k<2∨1048576<k)∧a=b∧neg=bn∧w1=w2) ?_ ?_
 ·refine cnd_d (fun h=>⟨by symm;rw [decide_eq_true_iff];exact .inl h,rfl,rfl,rfl⟩) (fun h=>⟨?_,rfl,rfl,rfl⟩)
  rw [decide_eq_decide];omega
 rintro x b bn w2 ⟨rfl,rfl,rfl,rfl⟩
 refine cnd_d (fun h=>?_) (fun h=>?_)
 ·exact rt2 (c:=.slice) (d:=.int .i64) Sl.nil 1 e1 ⟨fun _=>⟨rfl,rfl⟩,fun h'=>absurd h h'⟩
 obtain ⟨K,rfl⟩:∃K:Nat,k=K:=⟨k.toNat,by omega⟩
 refine cl0 (num_Norm (ha.here.ext e1) (by omega)) ?_
 intro r rn w3 e3 hr
 have hr:Io w3 w1.w.heap.size r rn z:=hr
 have hb:bl z.natAbs≤1073741824:=by have:=bl_sz z.natAbs;omega
 refine c1 (zmul_unpacked (k:=K) hr (by omega) (by omega) hb) ?_
 rintro s w4 e4 ⟨l,h1,h2,h3,h4⟩
 exact rt2 (c:=.slice) (d:=.int .i64) s 0 ((e1.trans e3).trans e4) ⟨fun h'=>absurd h' h,fun _=>⟨rfl,l,by rw [Int.toNat_natCast];exact h1,h2.at,h3,by rw [Int.toNat_natCast];exact h4⟩⟩
theorem un_pval {M:Nat} (hM:0<M):∀{l:List Int},(∀z∈l,-(M:Int)<2*z∧2*z≤M)→(∀z,l.getLast?=some z→z≠0)→Un M (pval (M:Int) l) l∧(pval (M:Int) l=0→l=[])
 | [],_,_=>⟨Un.nil,fun _=>rfl⟩
 | z::l,h,hl=>by
  have hz:=h z (List.mem_cons_self ..)
  have hl':∀y,l.getLast?=some y→y≠0:=fun y hy=>by
   refine hl y ?_
   cases l with
   | nil=>simp at hy
   | cons a l=>simpa using hy
  obtain ⟨h1,h2⟩:=un_pval hM (l:=l) (fun y hy=>h y (List.mem_cons_of_mem _ hy)) hl'
  have hp:pval (M:Int) (z::l)=(M:Int)*pval M l+z:=by show z+_=_;omega
  obtain ⟨u1,u2⟩:=sgd_uniq hM hp hz.1 hz.2
  have hne:pval (M:Int) (z::l)≠0:=fun h0=>by
   rw [h0] at u1 u2
   have hz0:z=0:=by rw [←u1];simp [sgd]
   have hp0:pval (M:Int) l=0:=by rw [←u2,hz0];simp
   have:=h2 hp0
   subst this
   exact hl z (by simp) hz0
  refine ⟨?_,fun h0=>absurd h0 hne⟩
  have:=Un.cons hne (l:=l) (by rw [u1,u2];exact h1)
  rwa [u1] at this
theorem nw_2 {w:TW} {e:TypeId} {ts:List (Sl × Bool)} {n:Nat} {K:Nat→TW→Prop} (hn:ts.length=n) (hn2:n≤1099511627776) (hK:∀b w',Rdv w' 2 ⟨some ⟨b,0,none⟩,n,n⟩ (ts.flatMap iv)→Ext none_ w w'→K b w'):nwb w (ts.flatMap iv) e K:=by
 intro b w' hw
 refine hK b w' ⟨by rw [iv_len];show _=n*2;omega,Nat.le_refl _,by show n≤9223372036854775807;omega,fun _=>⟨b,0,rfl,fun hV=>?_,fun j v hj=>?_⟩⟩ (hw.ext _)
 ·rw [hw.V] at hV
  have:=w.lt _ hV
  have:=hw.at_
  omega
 ·rw [cell_of_row w'.w b (0+j) _ e (0,0) hw.heap]
  simpa using hj
theorem law29_wakes {w:TW}:Ct Pg F.zigguratlaw29_wakes [] w none_ [.one .bool] fun (r:Bool) _=>r=true:=by
 refine Ct.zigguratlaw29_wakes ?_
 unfold Sh.zigguratlaw29_wakes
 refine c1 (zmul_NewE (t:=((0:Int),(0:Int),(0:Int),(0:Int),(0:Int),(0:Int),(0:Int),(0:Int),(0:Int),(0:Int),(0:Int),()))) ?_
 rintro p w1 e1 ⟨bs,b,tab,hc,hbs,-⟩
 refine cnd_f (by cases bs with|nil=>exact absurd rfl hbs|cons c bs=>obtain ⟨h,_⟩:=hc;rw [h];rfl) ?_
 refine cl0 (num_Of (n:=15) (by decide) (by decide)) ?_
 intro r rn w2 e2 hr
 have hr:Io w2 w1.w.heap.size r rn 15:=hr
 refine c2 (zmul_Unpack (k:=4) hr.iz (Nat.le_trans (sz_word (by decide)) (by decide))) ?_
 rintro s err w3 e3 ⟨-,h3⟩
 obtain ⟨rfl,l,hu,hs,-⟩:=h3 (by decide)
 have hl:l=[-1,1]:=hu.det (by have:=@Un.cons 16 15 _ (by decide) (@Un.cons 16 1 _ (by decide) Un.nil);exact this)
 subst hl
 refine j1 (fun (r:Bool) w'=>r=true∧Ext none_ w.here w') ?_ ?_
 ·refine cnd_t rfl ?_
  refine cl0 (ref17_Small (n:=-1) (by decide) (by decide)) ?_
  intro r3 r4 w4 e4 h4
  have h4:Zr w4 r3 r4 (-1):=h4.1
  refine cl0 (ref17_Small (n:=1) (by decide) (by decide)) ?_
  intro r5 r6 w5 e5 h5
  have h5:Zr w5 r5 r6 1:=h5.1
  refine nw_2 (ts:=[(r3,r4),(r5,r6)]) (n:=2) rfl (by decide) fun b w6 h6 e6=>?_
  have hq:Rq (dg B32) w6 ⟨some ⟨b,0,none⟩,2,2⟩ [-1,1]:=⟨_,h6,rfl,fun i hi=>by
   rcases i with _|_|i
   ·exact ((h4.ext e5).ext e6).el
   ·exact (h5.ext e6).el
   ·simp only [List.length_cons,List.length_nil] at hi;omega⟩
  refine c1 (ref28_Same (a:=⟨some ⟨b,0,none⟩,2,2⟩) hq (((hs.ext e4).ext e5).ext e6) (by decide) fun i=>?_) ?_
  ·have d1:=dz_of_sz (sz_word (x:=1) (by decide))
   have d0:=dz_of_sz (Nat.le_of_eq sz0)
   rcases i with _|_|i
   ·show dz 1≤_;omega
   ·show dz 1≤_;omega
   ·show dz 0≤_;omega
  rintro r w7 e7 rfl
  exact ⟨rfl,(((((e1.trans e2).trans e3).trans e4).trans e5).trans e6).trans e7⟩
 rintro r w' ⟨rfl,f⟩
 exact rt1 (c:=.bool) _ f rfl
theorem wk29 {w:TW} {K:Bool→TW→Prop} (hK:∀w',Ext none_ w w'→K true w'):cl Pg F.zigguratlaw29_wakes [] w [.one .bool] K:=by
 refine c1 law29_wakes ?_
 rintro r w' e rfl
 exact hK w' e
theorem law29_cut {w:TW} {a:Sl} {zs:List Int} {n k:Nat} (ha:Ri w a zs) (hn:n≤65536) (hk:k≤1048576):Ct Pg F.zigguratlaw29_cut [a.v,.int .i64 n,.int .i64 k] w none_ [.one .slice,.one .slice] fun (s t:Sl) w'=>∃zs',zs'.length≤n∧Rb w' s zs' k∧Rq (dg B32) w' t (ptrim zs'):=by
 refine Ct.zigguratlaw29_cut ?_
 unfold Sh.zigguratlaw29_cut
 refine c1 (keep_CutInts ha.here (by omega)) ?_
 rintro s w1 e1 ⟨zs',h1,h2⟩
 refine c1 (ref28_From h1 (by omega) (by omega)) fun t w2 e2 h3=>?_
 exact rt2 (c:=.slice) (d:=.slice) _ _ (e1.trans e2) ⟨zs',h2,(h1.ext e2).at,h3.rq.at⟩
end Go.Proofs.YtjhfalgmgagdhaaGreatDoor.Zg
end

section
namespace Go.Proofs.YtjhfalgmgagdhaaGreatDoor.Zg
open Go.ChangeShapes Go.WideShapes Go.ChangeAt Go.RowKit
def IsInts (w:World) (a:Option Addr) (len cap:Nat):Prop:=
 (a=none∧len=0∧cap=0)∨
 ∃(x:Addr) (A:Nat→Option Addr) (L C:Nat→Nat) (Z:Nat→List Int) (Bn:Nat→Bool),a=some x∧len≤cap∧cap≤maxLen∧
  ∀r,r<cap→w.cell? (x.add (r*2))=some (.slice (A r) (L r) (C r))∧w.cell? (x.add (r*2+1))=some (.bool (Bn r))∧IsRow .u64 w (A r) (L r) (C r) (Z r)
theorem row_of_trod {H:Type} {enc:TypeId × Value→H} {P:Program} {w:World} {base:Nat} {held:Bool} {q u:TypeId} {fuel:Nat} {v:Value} {x:DataW H × List MemPlace} (hq:P.underlying q=some (.slice u)) (hu:P.underlying u=some (.int .u64)) (cu:P.cellsOf u=1) (h:DataW.trod enc P w base (fun _=>true) held fuel q [v]=some x):
  ∃a len cap zs,v=.slice a len cap∧IsRow .u64 w a len cap zs:=by
 rcases open_ints hq hu cu h with ⟨hcs,_⟩|⟨a,l,c,zs,hcs,_,hl,hm,hz,_,hcell,hwz⟩
 ·simp at hcs
  exact ⟨none,0,0,[],hcs,.inl ⟨rfl,rfl,rfl,rfl⟩⟩
 ·simp at hcs
  exact ⟨some a,l,c,zs,hcs,.inr ⟨_,rfl,hl,hm,by simpa using hz,hcell,hwz⟩⟩
theorem open_pairs {H:Type} {enc:TypeId × Value→H} {P:Program} {w:World} {base:Nat} {held:Bool} {t e u:TypeId} {f0 f1:Field} {fuel:Nat} {a:Option Addr} {len cap:Nat} {x:DataW H × List MemPlace} (ht:P.underlying t=some (.slice e)) (he:P.underlying e=some (.struct #[f0,f1]))
  (ce:P.cellsOf e=2) (o0:f0.offset=0) (o1:f1.offset=1) (c0:P.cellsOf f0.type=1) (c1:P.cellsOf f1.type=1) (hq:P.underlying f0.type=some (.slice u)) (hu:P.underlying u=some (.int .u64)) (cu:P.cellsOf u=1) (hb:P.underlying f1.type=some .bool)
  (h:DataW.trod enc P w base (fun _=>true) held fuel t [.slice a len cap]=some x):IsInts w a len cap:=by
 rcases Go.Deep.open_slice_pairs ht he ce o0 o1 c0 c1 h with ⟨hcs,_⟩|⟨y,l,c,m,n,V0,V1,D0,D1,P0,P1,hcs,_,hl,hm,hmm,_,hr⟩
 ·simp at hcs
  obtain ⟨rfl,rfl,rfl⟩:=hcs
  exact .inl ⟨rfl,rfl,rfl⟩
 ·simp at hcs
  obtain ⟨rfl,rfl,rfl⟩:=hcs
  simp only [if_true] at hmm
  subst hmm
  have each:∀r,∃y:Option Addr × Nat × Nat × List Int × Bool,r<m→V0 r=.slice y.1 y.2.1 y.2.2.1∧V1 r=.bool y.2.2.2.2∧IsRow .u64 w y.1 y.2.1 y.2.2.1 y.2.2.2.1:=fun r=>by
   by_cases hrm:r<m
   ·obtain ⟨g0,g1,g2,g3⟩:=hr r hrm
    obtain ⟨a',l',c',zs,e1,e2⟩:=row_of_trod hq hu cu g2
    obtain ⟨b,e3,_⟩:=DataW.trod_bool hb g3
    exact ⟨(a',l',c',zs,b),fun _=>⟨e1,by simpa using e3,e2⟩⟩
   ·exact ⟨(none,0,0,[],false),fun h=>absurd h hrm⟩
  refine .inr ⟨y,fun r=>(Classical.choose (each r)).1,fun r=>(Classical.choose (each r)).2.1,fun r=>(Classical.choose (each r)).2.2.1,fun r=>(Classical.choose (each r)).2.2.2.1,fun r=>(Classical.choose (each r)).2.2.2.2,rfl,hl,hm,fun r hrm=>?_⟩
  obtain ⟨e1,e2,e3⟩:=Classical.choose_spec (each r) hrm
  obtain ⟨g0,g1,_⟩:=hr r hrm
  exact ⟨by rw [g0,e1],by rw [g1,e2],e3⟩
theorem argZ_of {W:World} {a:Option Addr} {len cap:Nat} {zs:List Int} {n:Bool} (h:IsRow .u64 W a len cap zs):∃z,Iz (TW.of W) ⟨a,len,cap⟩ n z:=by
 obtain ⟨l,hl⟩:=arg_of h
 exact ⟨_,vl W64 l,hl.nt,rfl⟩
theorem argI_of {W:World} {a:Option Addr} {len cap:Nat} (h:IsInts W a len cap):∃zs,Ri (TW.of W) ⟨a,len,cap⟩ zs:=by
 rcases h with ⟨rfl,rfl,rfl⟩|⟨x,A,L,C,Z,Bn,rfl,hl,hc,hr⟩
 ·exact ⟨[],[],⟨rfl,Nat.le_refl _,by decide,fun h=>absurd rfl h⟩,rfl,fun i h=>by simp at h⟩
 ·have hrow:∀r,∃z,r<len→Iz (TW.of W) ⟨A r,L r,C r⟩ (Bn r) z:=fun r=>by
   by_cases h:r<len
   ·obtain ⟨z,hz⟩:=argZ_of (n:=Bn r) (hr r (by omega)).2.2
    exact ⟨z,fun _=>hz⟩
   ·exact ⟨0,fun h'=>absurd h' h⟩
  obtain ⟨ts,hts⟩:∃ts:List (Sl × Bool),ts=(List.range len).map fun r=>(⟨A r,L r,C r⟩,Bn r):=⟨_,rfl⟩
  have htl:ts.length=len:=by rw [hts];simp
  refine ⟨(List.range len).map fun r=>Classical.choose (hrow r),ts,⟨by rw [iv_len,htl];show _=len*2;omega,hl,hc,fun hne=>?_⟩,by simp [htl],fun i hi=>?_⟩
  ·have hpos:0<len:=by
    rcases Nat.eq_zero_or_pos len with h|h
    ·exfalso;apply hne
     have:ts=[]:=List.length_eq_zero_iff.1 (by omega)
     rw [this];rfl
    ·exact h
   have h0:=(hr 0 (by omega)).1
   have hspot:=cell_spot h0
   obtain ⟨b,o,sp⟩:=x
   rw [show (Addr.add ⟨b,o,sp⟩ (0*2))=⟨b,o,sp⟩ by rfl] at hspot
   simp only at hspot
   subst hspot
   refine ⟨b,o,rfl,fun h=>h,fun j v hj=>?_⟩
   have hjl:j<2*len:=by
    have:=(List.getElem?_eq_some_iff.1 hj).1
    rw [iv_len,htl] at this
    exact this
   have hi2:j/2<ts.length:=by omega
   obtain ⟨k0,k1⟩:=iv_get hi2
   obtain ⟨c0,c1,_⟩:=hr (j/2) (by omega)
   rw [addp] at c0 c1
   have hel:ts[j/2]=(⟨A (j/2),L (j/2),C (j/2)⟩,Bn (j/2)):=by simp [hts]
   rw [hel] at k0 k1
   rcases Nat.mod_two_eq_zero_or_one j with hm|hm
   ·rw [show j=2*(j/2) by omega,k0] at hj
    cases hj
    rw [show o+j=o+j/2*2 by omega]
    exact c0
   ·rw [show j=2*(j/2)+1 by omega,k1] at hj
    cases hj
    rw [show o+j=o+(j/2*2+1) by omega]
    exact c1
  ·have:=Classical.choose_spec (hrow i) (by omega)
   have hel:ts[i]=(⟨A i,L i,C i⟩,Bn i):=by simp [hts]
   rw [hel]
   have hg:((List.range len).map fun r=>Classical.choose (hrow r)).getD i 0=Classical.choose (hrow i):=by
    rw [List.getD_eq_getElem?_getD,List.getElem?_map,List.getElem?_range (by omega)]
    rfl
   rw [hg]
   exact this
end Go.Proofs.YtjhfalgmgagdhaaGreatDoor.Zg
end
