/- A part of the proofs of this seat's laws. -/
import Derived.Test.YtpbimnlggalnfaaGreatDoorGMD
import Derived.Test.YtpbimnlggalnfaaGreatDoorGP3
import Derived.Test.YtpbimnlggalnfaaGreatDoorGP
import Derived.Test.YtpbimnlggalnfaaGreatDoorGIB
set_option linter.unusedVariables false
set_option linter.unusedSimpArgs false
set_option linter.unnecessarySimpa false
namespace Go.Proofs.YtpbimnlggalnfaaGreatDoor.Zg
open Go.RowKit
section
variable {x y:Nat}
theorem Eg.re{w w':TW}{p q:Option Addr}{bs bs':List Nat}{t:Nat}{now now':Int}{tab:List Int}(h:Eg w p bs t now tab)(e:Xt1 t w w')(h':Eg w' q bs' t now' tab):Eg w' p bs t now' tab:=by
 obtain⟨_,_,_,_,m,d,hT⟩:=h';exact h.set e hT
theorem xh:sz (x/y)≤sz x:=aR (Nat.div_le_self _ _)
theorem abq:sz (x-y)≤sz x:=aR (Nat.sub_le _ _)
theorem xf:sz (x%y)≤sz x:=aR (Nat.mod_le _ _)
section
variable {w:TW} {p:Option Addr} {rc c m d k e t:Nat} {now:Int} {tab:List Int}
end
end
section
section
variable {w:TW} {p:Option Addr} {dv rc c m d k e t:Nat} {now:Int} {tab:List Int}
theorem uT{a b:Sl}{x y:Nat}(hE:Eg w p [dv,rc,c,m,d,k,e] t now tab)(ha:Nt w a x)(hb:Nt w b y)(hs:sz x≤1048576∧(sz y≤3∨sz x≤sz y+2)):
  Ct Pg F.aP [.pointer p,a.v,b.v] w (λk=>k=t) [.one .slice,.one .slice,.one (.int .i64)] λ(q r:Sl)(err:Int) w'=>On w' w.w.heap.size q (x/y)∧On w' w.w.heap.size r (if y=0 then 0 else x%y)∧err=(if y=0 then 2 else 0:Nat)∧Eg w' p [dv,rc,c,m,d,k,e] t now tab:=by
 refine Ct.aP ?_;unfold Sh.aP;have hE:=hE.here;have ha:=ha.here;have hb:=hb.here;obtain⟨la,hla,rfl⟩:=ha;obtain⟨lb,hlb,rfl⟩:=hb;refine c1 (api_Nat_Len hla) ?_;rintro _ w1 e1 rfl;refine c1 (api_Nat_Len (hlb.ext e1)) ?_;rintro _ w2 e2 rfl;have e:=e1.trans e2;have ha:=(hla.ext e).nt;have hb:=(hlb.ext e).nt;have hE2:=hE.ext e;obtain⟨x,hxe⟩:∃x,vl W64 la=x:=⟨_,rfl⟩;obtain⟨y,hye⟩:∃y,vl W64 lb=y:=⟨_,rfl⟩;rw [hxe] at ha hs ⊢;rw [hye] at hb hs ⊢;refine aL (λh=>?_) (λh=>?_)
 ·simp only [beq_iff_eq] at h
  have hy:y=0:=by
   have:=jp y;rw [show sz y=0 by omega,Nat.pow_zero] at this;omega
  subst hy;exact rt3 (c:=.slice) (d:=.slice) (e:=.int .i64) Sl.nil Sl.nil 2 e.any ⟨by rw [Nat.div_zero];exact On.nil _ _,On.nil _ _,rfl,hE2.at⟩
 have hy0:y≠0:=λh'=>by subst h';simp [sz,bf] at h
 have hsy:1≤sz y:=by simp only [beq_eq_false_iff_ne,ne_eq] at h;omega
 rw [if_neg hy0,if_neg hy0]
 have tab7:∀{K:Int→Prop} {i:Nat},(∀v,(i=3→4≤v∧v≤1024)→True→K v)→(i=3)→nck p λa1=>
   ldc (.ptr) w2 a1 λ(v:Option Addr)=>
   nck v λa2=>
   ldc (.ptr) w2 a2 λ(v1:Option Addr)=>
   nck v1 λa3=>
   ldc (.ptr) w2 a3 λ(v2:Option Addr)=>
   nck v2 λa4=>
   ldc (.ptr) w2 a4 λ(v3:Option Addr)=>
   nck v3 λa5=>
   ldc (.ptr) w2 a5 λ(v4:Option Addr)=>
   nck v4 λa6=>
   ldc (.ptr) w2 a6 λ(v5:Option Addr)=>
   nck v5 λa7=>
   ldc (.ptr) w2 a7 λ(v6:Option Addr)=>
   nck v6 λa8=>
   ldc (.int .i64) w2 ((a8.add 3).add i) K:=by
  intro K i hK hi;refine hE2.down λq1 E1=>E1.down λq2 E2=>E2.down λq3 E3=>E3.down λq4 E4=>E4.down λq5 E5=>E5.down λq6 E6=>E6.down λq7 E7=>?_
  have hq:q7=some ⟨t,0,none⟩:=E7.1;subst hq;obtain⟨_,_,hTab,_,m6,d6,hT⟩:=E7;obtain⟨r0,r1,r2,r3,r4,r5,r6,r7,r8,r9,r10,rfl,k0,k1,k2,k3,k4,-⟩:=hTab;subst hi;exact ak (hT.tabAt (i:=3) rfl (hK _ (λ_=>k3) trivial))
 refine j1 (λ(z:Bool) w3=>w3=w2∧z=true) ?_ ?_
 ·refine ac (λh=>⟨rfl,rfl⟩) (λh=>?_);refine tab7 (i:=3) (λv hv _=>?_) rfl;have hv:=hv rfl;refine ac (λh=>⟨rfl,rfl⟩) (λh2=>?_);refine ab om om (ab om om ?_);exact tab7 (i:=3) (λv hv _=>⟨rfl,decide_eq_true (by have:=hv rfl;omega)⟩) rfl
 rintro z w2' ⟨rfl,rfl⟩;refine bg rfl ?_;refine hE2.down λq1 E1=>E1.down λq2 E2=>?_
 refine t3 E2.tz (yg E2 ha hb hs.1) ?_;rintro s s1 _ w3 x3 ⟨g1,g2,g3,g4⟩;rw [if_neg hy0] at g2 g3;exact rt3 (c:=.slice) (d:=.slice) (e:=.int .i64) _ _ _ (e.any.trans x3) ⟨(g1.less e.size).at,(g2.less e.size).at,g3,(hE2.re x3 g4).at⟩
end
def lK(Q:Nat→Nat→Prop):Prop:=∀{w:TW} {p:Option Addr} {dv rc c m d k e t:Nat} {now:Int} {tab:List Int} {a b:Sl} {x y:Nat},Eg w p [dv,rc,c,m,d,k,e] t now tab→Nt w a x→Nt w b y→Q x y→0≤now→now≤1000000000000000000→
 Ct Pg F.aP [.pointer p,a.v,b.v] w (λk=>k=t) [.one .slice,.one .slice,.one (.int .i64)] λ(q r:Sl)(err:Int) w'=>On w' w.w.heap.size q (x/y)∧On w' w.w.heap.size r (if y=0 then 0 else x%y)∧err=(if y=0 then 2 else 0:Nat)∧Eg w' p [dv,rc,c,m,d,k,e] t now tab
def l9(Q:Nat→Nat→Prop):Prop:=∀{w:TW} {p:Option Addr} {dv rc c m d k e t:Nat} {now:Int} {tab:List Int} {a b:Sl} {x y:Nat},Eg w p [dv,rc,c,m,d,k,e] t now tab→Nt w a x→Nt w b y→Q x y→0≤now→now≤1000000000000000000→
 Ct Pg F.dX [.pointer p,a.v,b.v] w (λk=>k=t) [.one .slice,.one (.int .i64)] λ(q:Sl)(err:Int) w'=>On w' w.w.heap.size q (if y=0∨x%y≠0 then 0 else x/y)∧err=(if y=0 then 2 else if x%y=0 then 0 else 5:Nat)∧Eg w' p [dv,rc,c,m,d,k,e] t now tab
theorem qc{Q:Nat→Nat→Prop}(hD:lK Q):l9 Q:=by
 intro w p dv rc c m d k e t now tab a b x y hE ha hb hq h0 h1;refine Ct.dX ?_;unfold Sh.dX;refine t3 hE.here.tz (hD hE.here ha.here hb.here hq h0 h1) ?_;rintro s s1 er w1 x1 ⟨g1,g2,g3,g4⟩;by_cases hy:y=0
 ·subst hy;subst g3;refine bg smp ?_;exact rt2 (c:=.slice) (d:=.int .i64) Sl.nil _ x1 ⟨by rw [if_pos (.inl rfl)];exact On.nil _ _,rfl,g4.at⟩
 ·rw [if_neg hy] at g2 g3;subst g3;refine aq smp ?_;refine c1 (eJ g2.nt) ?_;rintro _ w2 e2 rfl;by_cases hr:x%y=0
  ·refine aq (by simp [hr]) ?_;exact rt2 (c:=.slice) (d:=.int .i64) _ 0 (x1.trans e2.any) ⟨by rw [if_neg (by simp [hy,hr])];exact (On.ext g1 e2).at,by rw [if_neg hy,if_pos hr];rfl,(g4.ext e2).at⟩
  ·refine bg (by simp [hr]) ?_;exact rt2 (c:=.slice) (d:=.int .i64) Sl.nil 5 (x1.trans e2.any) ⟨by rw [if_pos (.inr hr)];exact On.nil _ _,by rw [if_neg hy,if_neg hr];rfl,(g4.ext e2).at⟩
abbrev wG(x y:Nat):Prop:=sz x≤1048576∧(sz y≤3∨sz x≤sz y+2)
theorem lV:lK wG:=λhE ha hb hs _ _=>uT hE ha hb hs
end
theorem aco(x:Nat):sz x≤bl x/64+1:=by
 refine iO (Nat.lt_of_lt_of_le (fj x) ?_);rw [show W64^(bl x/64+1)=2^(64*(bl x/64+1)) by rw [Nat.pow_mul]];exact Nat.pow_le_pow_right dcd om
end Go.Proofs.YtpbimnlggalnfaaGreatDoor.Zg
