/- A part of the proofs of this seat's laws. -/
import Derived.Test.YtpbimnlggalnfaaGreatDoorGNC
import Derived.Test.YtpbimnlggalnfaaGreatDoorGHD
import Derived.Test.YtpbimnlggalnfaaGreatDoorGZB
set_option linter.unusedVariables false
set_option linter.unusedSimpArgs false
set_option linter.unnecessarySimpa false
namespace Go.Proofs.YtpbimnlggalnfaaGreatDoor.Zg
open Go.RowKit
section
variable {w:TW} {s:Sl} {zss:List (List Int)} {i:Int} {j:Nat} {K:Nat→TW→Prop} {e:TypeId} {x:List Int}
def s1v(s:Sl):List Value:=[s.v]
theorem sZ(s:Sl):(s1v s).length=1:=rfl
theorem qq(l:List Sl):l.flatMap s1v=l.map Sl.v:=by
 induction l with
 | nil=>rfl
 | cons x l ih=>rw [List.flatMap_cons,ih];rfl
def Rz(w:TW)(s:Sl)(zss:List (List Int)):Prop:=∃ss:List Sl,Rdv w 1 s (ss.flatMap s1v)∧ss.length=zss.length∧∀i (h:i<ss.length),Ri w ss[i] (zss.getD i [])
theorem Rz.here(h:Rz w s zss):Rz w.here s zss:=by
 obtain⟨ss,h1,h2,h3⟩:=h;exact⟨ss,h1.here,h2,λi hi=>(h3 i hi).here⟩
theorem Rz.extT{w':TW}{t:Nat}(h:Rz w s zss)(hT:Tz w t)(e:Xt1 t w w'):Rz w' s zss:=by
 obtain⟨ss,h1,h2,h3⟩:=h;refine⟨ss,?_,h2,λi hi=>(h3 i hi).extT hT e⟩;rw [qq] at h1 ⊢;exact h1.extT (abO ss) hT e
theorem Rz.len(h:Rz w s zss):s.n=zss.length:=by
 obtain⟨ss,h1,h2,_⟩:=h;rw [h1.lenk sZ dcd,h2]
theorem Rz.ix(h:Rz w s zss)(hi:i=j)(hj:j<zss.length){K:Sl→Prop}(hK:∀u,Ri w u (zss.getD j [])→K u):ixa s i 1 λa=>ldc (.slice) w a λ(v:Sl)=>K v:=by
 obtain⟨ss,h1,h2,h3⟩:=h;have hj':j<ss.length:=om;refine h1.atk sZ dcd hi hj' λa ha=>?_
 have:=ha 0 dcd;have e:a.add 0=a:=if_pos rfl;exact⟨ss[j],(congrArg w.w.cell? e).symm.trans this,hK _ (h3 j hj')⟩
theorem Rz.ixb{w0:TW}(h:Rz w0 s zss)(e:Ext aa w0 w)(hi:i=j)(hj:j<zss.length){K:Sl→Prop}(hK:∀u,Ri w0 u (zss.getD j [])→K u):ixa s i 1 λa=>ldc (.slice) w a λ(v:Sl)=>K v:=by
 obtain⟨ss,h1,h2,h3⟩:=h;have hj':j<ss.length:=om;refine (h1.extN e).atk sZ dcd hi hj' λa ha=>?_
 have:=ha 0 dcd;have e:a.add 0=a:=if_pos rfl;exact⟨ss[j],(congrArg w.w.cell? e).symm.trans this,hK _ (h3 j hj')⟩
theorem abR{ss:List Sl}{n:Nat}(hn:ss.length=n)(hl:ss.length=zss.length)(hn2:n≤1099511627776)(h:∀i (h:i<ss.length),Ri w ss[i] (zss.getD i []))(hK:∀b w',Rz w' ⟨some ⟨b,0,none⟩,n,n⟩ zss→Ext aa w w'→K b w'):nwb w (ss.map Sl.v) e K:=by
 subst hn;intro b w' hw;refine hK b w' ⟨ss,⟨by rw [qq];simp,Nat.le_refl _,by simp only [maxLen];omega,λ_=>⟨b,0,rfl,λhV=>?_,λj v hj=>?_⟩⟩,hl,λi hi=>(h i hi).ext (hw.ext _)⟩ (hw.ext _)
 ·rw [hw.V] at hV;have:=w.lt _ hV;have:=hw.at_;omega
 ·rw [cell_of_row w'.w b (0+j) _ e (0,0) hw.heap];rw [qq] at hj;simpa using hj
theorem adf(hs:Ri w s x)(hK:∀b w',Rz w' ⟨some ⟨b,0,none⟩,1,1⟩ [x]→Ext aa w w'→K b w'):nwb w [s.v] e K:=
 abR (ss:=[s]) (n:=1) rfl rfl dcd (λi hi=>by
  match i,hi with
  | 0,_=>exact hs) hK
theorem zE{u:Sl}{y:List Int}(hs:Ri w s x)(hu:Ri w u y)(hK:∀b w',Rz w' ⟨some ⟨b,0,none⟩,2,2⟩ [x,y]→Ext aa w w'→K b w'):nwb w [s.v,u.v] e K:=
 abR (ss:=[s,u]) (n:=2) rfl rfl dcd (λi hi=>by
  match i,hi with
  | 0,_=>exact hs
  | 1,_=>exact hu) hK
end
section
variable {a:Sl} {zss:List (List Int)} {zs:List Int}
theorem yN:kH 17 F.jx:=fun {t w}=>Ct.jx (eZ (n:=16) (fun {t w}=>Ct.mj (eZ (n:=15) (fun {t w}=>Ct.lk (eZ tW)))))
theorem wT{x y n:Nat}(hx:sz x≤n)(hy:sz y≤n):sz (Nat.gcd x y)≤n:=by
 rcases Nat.eq_zero_or_pos x with h|h
 ·rw [h,Nat.gcd_zero_left];exact hy
 ·exact Nat.le_trans (aq (Nat.gcd_le_left _ h)) hx
def cts(zss:List (List Int)):Nat:=zss.foldl (λg a=>a.foldl (λg z=>Nat.gcd g z.natAbs) g) 0
theorem abA{a:List Int}{k g:Nat}(h:k<a.length):(a.take (k+1)).foldl (λg z=>Nat.gcd g z.natAbs) g=Nat.gcd ((a.take k).foldl (λg z=>Nat.gcd g z.natAbs) g) (a.getD k 0).natAbs:=by
 rw [dy a h,List.foldl_append];rfl
theorem abz{j:Nat}(h:j<zss.length):cts (zss.take (j+1))=(zss.getD j []).foldl (λg z=>Nat.gcd g z.natAbs) (cts (zss.take j)):=by
 unfold cts;rw [List.take_succ_eq_append_getElem h,List.foldl_append];simp [h]
theorem qh{n:Nat}:∀(a:List Int) (g:Nat),sz g≤n→(∀i,sz (a.getD i 0).natAbs≤n)→sz (a.foldl (λg z=>Nat.gcd g z.natAbs) g)≤n
 | [],g,h,_=>h
 | z::a,g,h,h2=>qh a _ (wT h (by simpa using h2 0)) λi=>by simpa using h2 (i+1)
section
variable {w:TW} {p:Option Addr} {zd zm pz mo hg g po nu ra ro dv rc c m d k e t:Nat} {now:Int} {tab:List Int}
theorem um{ZZ:Nat}(hG:yD ZZ){l:Sl}(hE:Eg w p [zd,zm,pz,mo,hg,g,po,nu,ra,ro,dv,rc,c,m,d,k,e] t now tab)(hl:Rz w l zss)(hn:zss.length≤65536)(hn2:∀j,(zss.getD j []).length≤65536)(hz:∀j i,sz ((zss.getD j []).getD i 0).natAbs≤ZZ)(h0:0≤now)(h1:now≤1000000000000000000):
  Ct Pg F.cx [.pointer p,l.v] w (λk=>k=t) [.one .slice] λ(s:Sl) w'=>On w' w.w.heap.size s (cts zss)∧Eg w' p [zd,zm,pz,mo,hg,g,po,nu,ra,ro,dv,rc,c,m,d,k,e] t now tab:=by
 refine Ct.cx ?_;unfold Sh.cx;have nl:=hl.len;have hE0:=hE.here;refine j1 (λ(g3:Sl) w8=>On w8 w.w.heap.size g3 (cts zss)∧Xt1 t w.here w8∧Eg w8 p [zd,zm,pz,mo,hg,g,po,nu,ra,ro,dv,rc,c,m,d,k,e] t now tab) ?_ ?_
 ·refine lp2 (λM (gs:Sl) (x:Int) w1=>∃j:Nat,x=j∧M=zss.length-j∧j≤zss.length∧On w1 w.w.heap.size gs (cts (zss.take j))∧sz (cts (zss.take j))≤ZZ∧Xt1 t w.here w1∧Eg w1 p [zd,zm,pz,mo,hg,g,po,nu,ra,ro,dv,rc,c,m,d,k,e] t now tab) zss.length ⟨0,rfl,om,om,by simpa [cts] using On.nil _ _,by simp [cts,sz,az],Ext.refl _ _,hE0⟩ ?_;rintro M gs x w1 ⟨j,rfl,rfl,hj,hg1,hgz,x1,hE1⟩;refine ac (λh=>?_) (λh=>?_)
  ·have hj':j<zss.length:=om;refine (hl.here.extT hE0.tz x1).ix (j:=j) rfl hj' λv hv=>?_
   have nv:=hv.len;have hnj:=hn2 j;have hzj:=hz j;have hsucc:=abz hj';obtain⟨Z,hZ⟩:∃Z,zss.getD j []=Z:=⟨_,rfl⟩;rw [hZ] at hv nv hnj hzj hsucc;obtain⟨G0,hG0⟩:∃G0,cts (zss.take j)=G0:=⟨_,rfl⟩;rw [hG0] at hg1 hgz hsucc;refine j1 (λ(g2:Sl) w7=>On w7 w.w.heap.size g2 (cts (zss.take (j+1)))∧Xt1 t w1 w7∧Eg w7 p [zd,zm,pz,mo,hg,g,po,nu,ra,ro,dv,rc,c,m,d,k,e] t now tab) ?_ ?_
   ·rw [hsucc];refine lp2 (λM (gs:Sl) (x:Int) w2=>∃i:Nat,x=i∧M=Z.length-i∧i≤Z.length∧On w2 w.w.heap.size gs ((Z.take i).foldl (λg z=>Nat.gcd g z.natAbs) G0)∧Xt1 t w1 w2∧Eg w2 p [zd,zm,pz,mo,hg,g,po,nu,ra,ro,dv,rc,c,m,d,k,e] t now tab) Z.length ⟨0,rfl,om,om,hg1,Ext.refl _ _,hE1⟩ ?_;rintro M gs x w2 ⟨i,rfl,rfl,hi,hg2,x2,hE2⟩;refine ac (λh=>?_) (λh=>?_)
    ·refine (hv.extT hE1.tz x2).ix (j:=i) rfl om λa1 tt hzt _ q0 q1=>ldp q0 q1 ?_
     intro w3 e3 w4 e4;have ed:=(e3.trans e4).drew;have hE4:=hE2.ext ed;refine hE4.down5 λ_ _ _ _ _ _ _ _ _ _ E5 H5=>?_
     refine nw2 (On.ext hg2 ed).nt (hzt.ext ed).abs λb w5 h5 e5=>?_
     refine aN (H5.ext e5) ?_;have hE5:=hE4.ext e5
     have hsz:sz ((Z.take i).foldl (λg z=>Nat.gcd g z.natAbs) G0)≤ZZ:=qh _ _ hgz λq=>by
      rw [show (Z.take i).getD q 0=if q<i then Z.getD q 0 else 0 from ?_]
      ·split
       ·exact hzj q
       ·simp [sz,az]
      ·simp only [List.getD_eq_getElem?_getD,List.getElem?_take];split<;>rfl
     refine t1 hE5.tz (hG (l:=⟨some ⟨b,0,none⟩,2,2⟩) (E5.ext e5) h5 (ym hsz (hzj i)) smp h0 h1) ?_;rintro s w6 x6 ⟨h6,E6⟩;refine aN ((H5.ext e5).extT x6).tail ?_;have y6:Xt1 t w2 w6:=(ed.trans e5).any.trans x6;have e0:w.w.heap.size≤w5.w.heap.size:=Nat.le_trans x1.size (Nat.le_trans x2.size (ed.trans e5).size);refine ab om om ⟨Z.length-(i+1),om,i+1,om,rfl,om,?_,x2.trans y6,hE5.re x6 E6⟩;rw [abA om];have h6:=h6.less e0;simpa [tn] using h6
    ·rw [List.take_of_length_le om] at hg2;exact⟨hg2,x2,hE2⟩
   rintro g2 w7 ⟨hg7,x7,hE7⟩;refine ab om om ⟨zss.length-(j+1),om,j+1,om,rfl,om,hg7,?_,x1.trans x7,hE7⟩;rw [hsucc];exact qh _ _ hgz hzj
  ·rw [List.take_of_length_le om] at hg1;exact⟨hg1,x1,hE1⟩
 rintro g3 w8 ⟨h8,x8,hE8⟩;exact rt1 (c:=.slice) _ x8 ⟨h8.at,hE8.at⟩
theorem zdiv_lead(ha:Rq (dg W64) w a zs)(hne:zs≠[])(hl:zs.length≤65536):Ct Pg F.cW [a.v] w aa [.agg [.slice,.bool]] λ(s:Sl)(n:Bool) w'=>El (dg W64) w' (s,n) (ldz zs):=by
 refine Ct.cW ?_;unfold Sh.cW;have na:=ha.len;have hpos:0<zs.length:=List.length_pos_iff.2 hne;intro w1 e1;refine ag (y:=((zs.length-1:Nat):Int)) ((ar om om).trans om) ?_;refine (ha.here.ext e1).ix (j:=zs.length-1) rfl om λa1 tt hel _ q0 q1=>ldp q0 q1 ?_
 intro w2 e2;exact⟨(_,_,()),rfl,e1.trans e2,⟨Rd.at_ (hel.ext e2).1,hel.2⟩⟩
theorem nY{ZZ:Nat}{QQ:Nat→Nat→Prop}(hG:yD ZZ)(hEx:ng QQ)(hQ:∀x y,sz x≤ZZ→sz y≤ZZ→QQ x y)(hZZ:ZZ≤8192)(hE:Eg w p [zd,zm,pz,mo,hg,g,po,nu,ra,ro,dv,rc,c,m,d,k,e] t now tab)(ha:Ri w a zs)(hl:zs.length≤65536)(hz:∀i,sz (zs.getD i 0).natAbs≤ZZ)(h0:0≤now)(h1:now≤1000000000000000000):
  Ct Pg F.aK [.pointer p,a.v] w (λk=>k=t) [.agg [.slice,.bool],.one .slice] λ(cs:Sl)(cn:Bool)(s:Sl) w'=>On w' w.w.heap.size cs (ctn (ae zs))∧cn=decide (ldz (ae zs)<0)∧Rq (dg W64) w' s (ppz (ae zs))∧Eg w' p [zd,zm,pz,mo,hg,g,po,nu,ra,ro,dv,rc,c,m,d,k,e] t now tab:=by
 refine Ct.aK ?_;unfold Sh.aK;intro w1 e1;have hE1:=hE.here.ext e1;refine c1 (polyz_Norm (ha.here.ext e1) om λi=>Nat.le_trans (hz i) om) λs w2 e2 h2=>?_
 have hE2:=hE1.ext e2;have e12:=e1.trans e2;have n2:=h2.len;have hX:Nm (ae zs):=Nm.trim zs;have hXl:=ao zs;have hXz:∀i,sz ((ae zs).getD i 0).natAbs≤ZZ:=λi=>by rw [aT];exact hz i
 obtain⟨X,hXd⟩:∃X,ae zs=X:=⟨_,rfl⟩;rw [hXd] at h2 n2 hX hXl hXz ⊢;by_cases hne:X=[]
 ·subst hne;refine aQ (by rw [n2];rfl) ?_;intro w3 e3;exact⟨(Sl.nil,false,Sl.nil,()),rfl,(e12.trans e3).any,On.nil _ _,by simp [ldz],(Oq.nil _ _ 0 T.af).rq,(hE2.ext e3).at⟩
 ·have hpos:0<X.length:=List.length_pos_iff.2 hne;refine ap (by rw [n2];simp;exact hne) ?_;refine adf h2.rq.ri λb w4 h4 e4=>?_
  have hE4:=hE2.ext e4;refine t1 hE4.tz (um hG (l:=⟨some ⟨b,0,none⟩,1,1⟩) hE4 h4 smp (λj=>?_) (λj i=>?_) h0 h1) ?_
  ·match j with
   | 0=>exact Nat.le_trans hXl hl
   | j+1=>simp
  ·match j with
   | 0=>exact hXz i
   | j+1=>simp [sz,az]
  rintro s1 w5 x5 ⟨h5,hE5⟩;have h5:On w5 w4.w.heap.size s1 (ctn X):=h5;have hs5:=(h2.rq.ext e4).extT hE4.tz x5;refine cl0 (zdiv_lead hs5 hne om) ?_;intro r r1 w6 e6 hr;have hr:El (dg W64) w6 (r,r1) (ldz X):=hr;intro w7 e7 w8 e8;have ed:=(e7.trans e8).drew;have e68:=e6.trans ed;have hE8:=hE5.ext e68;have hcp:=oP hX hne;have hr1:r1=decide (ldz X<0):=hr.2;refine hE8.downC λq1 E1 k1 t1'=>E1.downC λq2 E2 _ _=>?_
  have hcz:cpz X≠0:=λe=>by have:=kC X;rw [e] at this;simp at this;omega
  have hIz:Iz w8.drew s1 r1 (cpz X):=⟨ctn X,(On.ext h5 e68).nt,by unfold cpz;rw [hr1];by_cases h':ldz X<0<;>simp [h']⟩
  have hcn:r1=decide (cpz X<0):=by
   rw [hr1,decide_eq_decide];unfold cpz;split<;>omega
  have hsc:sz (ctn X)≤ZZ:=qh X 0 (by simp [sz,az]) hXz;refine tM hE8.tz (qP hEx E2 (hs5.ext e68) hX hIz hcn hcz om (λi=>Nat.le_trans (hXz i) om) (by rw [kC];omega) (λi=>hQ _ _ (hXz i) (by rw [kC];exact hsc)) h0 h1) ?_;rintro s2 er w9 x9 ⟨hov,-,E2'⟩;obtain⟨-,h9⟩:=hov λi=>xF X i
  have hE9:=hE8.re x9 E2';refine kG (k1.extT x9 t1').1 ?_;intro w10 e10;refine⟨(_,_,_,()),rfl,(((e12.trans e4).any.trans x5).trans e68.any).trans (x9.trans e10.any),?_,hr1,(h9.ext e10).at,(hE9.ext e10).at⟩;exact ((On.ext (On.extT (On.ext h5 e68) hE8.tz x9) e10).less (e12.trans e4).size).at
theorem l9(hE:Eg w p [zd,zm,pz,mo,hg,g,po,nu,ra,ro,dv,rc,c,m,d,k,e] t now tab)(ha:Ri w a zs)(hl:zs.length≤65536)(hz:∀i,sz (zs.getD i 0).natAbs≤8192)(h0:0≤now)(h1:now≤1000000000000000000):
  Ct Pg F.aK [.pointer p,a.v] w (λk=>k=t) [.agg [.slice,.bool],.one .slice] λ(cs:Sl)(cn:Bool)(s:Sl) w'=>On w' w.w.heap.size cs (ctn (ae zs))∧cn=decide (ldz (ae zs)<0)∧Rq (dg W64) w' s (ppz (ae zs))∧Eg w' p [zd,zm,pz,mo,hg,g,po,nu,ra,ro,dv,rc,c,m,d,k,e] t now tab:=
 nY (aab yQ) (pw aam) (λx y h1 h2=>⟨om,.inr h2⟩) (Nat.le_refl _) hE ha hl hz h0 h1
end
end
section
variable {zss:List (List Int)}
def j8(zss:List (List Int))(i:Nat):Int:=(zss.map λl=>l.getD i 0).sum
theorem tL{j:Nat}(h:j<zss.length)(i:Nat):j8 (zss.take (j+1)) i=j8 (zss.take j) i+(zss.getD j []).getD i 0:=by
 unfold j8;rw [List.take_succ_eq_append_getElem h,List.map_append,List.sum_append,List.map_singleton,List.sum_singleton,List.getD_eq_getElem?_getD (l:=zss),List.getElem?_eq_getElem h];rfl
theorem uZ{zss:List (List Int)}{M:Nat}(hM:∀j i,((zss.getD j []).getD i 0).natAbs≤M)(i:Nat):∀j,j≤zss.length→(j8 (zss.take j) i).natAbs≤j*M
 | 0,_=>by simp [j8]
 | j+1,h=>by
  have ih:=uZ hM i j om;have h1:=hM j i;rw [tL om,Nat.add_mul,Nat.one_mul];omega
theorem zj(l:List Int)(z:Int)(i:Nat):(l++[z]).getD i 0=if i=l.length then z else l.getD i 0:=by
 simp only [List.getD_eq_getElem?_getD];rcases Nat.lt_trichotomy i l.length with h|h|h
 ·rw [List.getElem?_append_left h,if_neg om]
 ·subst h;simp
 ·rw [if_neg om,List.getElem?_eq_none (by simp;omega),List.getElem?_eq_none om]
theorem polyz_Plus{w:TW}{l:Sl}{M:Nat}(hl:Rz w l zss)(hn:zss.length≤16)(hn2:∀j,(zss.getD j []).length≤65536)(hM:∀j i,((zss.getD j []).getD i 0).natAbs≤M)(hMz:sz (16*M)≤1048576):
  Ct Pg F.fF [l.v] w aa [.one .slice] λ(s:Sl) w'=>∃r,Oq (dg W64) w' w.w.heap.size T.af s r∧Nm r∧∀i,r.getD i 0=j8 zss i:=by
 refine Ct.fF ?_;unfold Sh.fF;have nl:=hl.len;have szp:∀j i,j≤zss.length→sz (j8 (zss.take j) i).natAbs≤1048576:=λj i hj=>Nat.le_trans (aq (Nat.le_trans (uZ hM i j hj) (Nat.mul_le_mul_right _ om))) hMz
 refine j1 (λ(out:Sl) w12=>(∃r,Oq (dg W64) w12 w.w.heap.size T.af out r∧r.length≤65536∧∀i,r.getD i 0=j8 zss i)∧Ext aa w.here w12) ?_ ?_
 ·refine lp2 (λQ (out:Sl) (x:Int) w1=>∃(j:Nat) (r:List Int),x=j∧Q=zss.length-j∧j≤zss.length∧Oq (dg W64) w1 w.w.heap.size T.af out r∧r.length≤65536∧(∀i,r.getD i 0=j8 (zss.take j) i)∧Ext aa w.here w1) zss.length ⟨0,[],rfl,om,om,Oq.nil _ _ _ _,smp,λi=>by simp [j8],Ext.refl _ _⟩ ?_;rintro Q out x w1 ⟨j,r,rfl,rfl,hj,ho,hr,gl,e1⟩;refine ac (λh=>?_) (λh=>?_)
  ·have hj':j<zss.length:=om;refine hl.here.ixb e1 (j:=j) rfl hj' λv hv=>?_
   have nv:=hv.len;have hnj:=hn2 j;have hMj:=hM j;have hps:=tL hj';have szj:=λi=>szp j i om
   have szj1:=λi=>szp (j+1) i om
   obtain⟨Z,hZ⟩:∃Z,zss.getD j []=Z:=⟨_,rfl⟩;rw [hZ] at hv nv hnj hMj hps;obtain⟨ts,r1,r2',r3⟩:=hv;have szZ:∀i,sz (Z.getD i 0).natAbs≤1048576:=λi=>Nat.le_trans (aq (Nat.le_trans (hMj i) om)) hMz
   refine j1 (λ(out3:Sl) w11=>(∃r,Oq (dg W64) w11 w.w.heap.size T.af out3 r∧r.length≤65536∧∀i,r.getD i 0=j8 (zss.take (j+1)) i)∧Ext aa w.here w11) ?_ ?_
   ·refine lp2 (λQ (out1:Sl) (x:Int) w2=>∃(k:Nat) (r:List Int),x=k∧Q=Z.length-k∧k≤Z.length∧Oq (dg W64) w2 w.w.heap.size T.af out1 r∧k≤r.length∧r.length≤65536∧(∀i,r.getD i 0=if i<k then j8 (zss.take (j+1)) i else j8 (zss.take j) i)∧Ext aa w.here w2) Z.length ⟨0,r,rfl,om,om,ho,om,hr,λi=>by rw [gl i,if_neg om],e1⟩ ?_;rintro Q out1 x w2 ⟨k,r2,rfl,rfl,hk,ho2,hkr,hr2,g2,e2⟩;have non:=ho2.len;refine ac (λh=>?_) (λh=>?_)
    ·have hk':k<Z.length:=om;have hzt:=r3 k om;refine (r1.extN e2).at2 (j:=k) rfl om λa1 _ q0 q1=>ldp q0 q1 ?_
     intro w3 e3 w4 e4;have e34:=e3.trans e4;have ho4:=ho2.ext e34;refine j3 (λ(out2:Sl)(c:Sl)(c1:Bool) w7=>c=ts[k].1∧c1=ts[k].2∧(∃r,Oq (dg W64) w7 w.w.heap.size T.af out2 r∧k<r.length∧r.length≤65536∧∀i,r.getD i 0=if i<k then j8 (zss.take (j+1)) i else j8 (zss.take j) i)∧Ext aa w.here w7) ?_ ?_
     ·refine aG (λh'=>?_) (λh'=>?_)
      ·have hkl:k=r2.length:=by simp at h';omega
       have hel:El (dg W64) w4 (Sl.nil,false) 0:=⟨by show Rd w4 Sl.nil (dg W64 0);rw [az];exact Rd.nil _,rfl⟩;refine ho4.pushB (e2.trans e34).size om hel (λhne=>absurd (az _) hne) λs' w6 h6 x6 _=>?_
       have hX:∀b,out1.blk=some b→w.here.w.heap.size≤b:=λb hb=>(ho4.lt_blk b hb).1
       have e6:=(e2.trans e34).own x6 hX;refine⟨rfl,rfl,⟨_,h6,by simp;omega,by simp;omega,λi=>?_⟩,e6⟩;rw [zj,g2 i];by_cases hi:i=r2.length
       ·rw [if_pos hi,if_neg om];have:=g2 i;rw [if_neg om,fU om] at this;exact this
       ·rw [if_neg hi]
      ·have hkl:k<r2.length:=by
        have:k≠r2.length:=λe=>by rw [non,e] at h';simp at h'
        omega
       exact⟨rfl,rfl,⟨r2,ho4,hkl,hr2,g2⟩,e2.trans e34⟩
     rintro out2 c c1 w7 ⟨rfl,rfl,⟨r5,ho7,hk5,hr5,g5⟩,e7⟩;have ed:=e7.drew;have e77:Ext aa w7 w7.drew:=(Ext.refl _ _).drew;refine (ho7.ext e77).rq.ix (j:=k) rfl hk5 λa2 t2 hel _ q0 q1=>ldp q0 q1 ?_
     have hk0:=g5 k;rw [if_neg om] at hk0;refine cl0 (num_Add hel.iz (hzt.ext ed) (by rw [hk0];exact Nat.le_trans (szj k) dcd) (Nat.le_trans (szZ k) dcd)) ?_;intro r r1' w8 e8 hr8;have hr8:Io w8 w7.drew.w.heap.size r r1' (r5.getD k 0+Z.getD k 0):=hr8;have e78:=e77.trans e8;have ho8:=ho7.ext e78;refine ho8.set (z:=r5.getD k 0+Z.getD k 0) rfl hk5 hr8.el (λ_ b hb=>⟨λh'=>?_,(Ow.from_ hr8.1 b hb).2⟩) λw10 h10 e10=>?_
     ·have q1:=Ow.blk_le hr8.1 b hb;have q2:=(ho7.lt_blk b h').2;have q3:=e77.size;omega
     refine ab om om ⟨Z.length-(k+1),om,k+1,_,om,rfl,om,h10,by simp;omega,by simp;omega,λi=>?_,(e7.trans e78).own e10 λb hb=>(ho8.lt_blk b hb).1⟩;rw [kS hk5];by_cases hi:i=k
     ·rw [if_pos hi,if_pos om,hk0,hi,hps]
     ·rw [if_neg hi,g5 i];by_cases h2:i<k
      ·rw [if_pos h2,if_pos om]
      ·rw [if_neg h2,if_neg om]
    ·have hke:k=Z.length:=om;refine⟨⟨r2,ho2,hr2,λi=>?_⟩,e2⟩;rw [g2 i];split
     ·rfl
     ·rw [hps i,fU (l:=Z) om,Int.add_zero]
   rintro out3 w11 ⟨⟨r3,h3,hr3,g3⟩,e11⟩;exact ab om om ⟨zss.length-(j+1),om,j+1,r3,om,rfl,om,h3,hr3,g3,e11⟩
  ·refine⟨⟨r,ho,hr,λi=>?_⟩,e1⟩;rw [gl i,List.take_of_length_le om]
 rintro out w12 ⟨⟨r,ho,hr,gl⟩,e12⟩;refine c1 (polyz_trim ho.rq.ri om) ?_;rintro _ w13 e13 rfl;have hcut:=(ho.cut (ao r)).ext e13;rw [iD] at hcut;exact rt1 (c:=.slice) _ (e12.trans e13) ⟨_,hcut.at,Nm.trim _,λi=>by rw [aT,gl]⟩
end
end Go.Proofs.YtpbimnlggalnfaaGreatDoor.Zg
