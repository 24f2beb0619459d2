/- A part of the proofs of this seat's laws. -/
import Derived.Test.YtpbimnlggalnfaaGreatDoorGZG
set_option linter.unusedVariables false
set_option linter.unusedSimpArgs false
set_option linter.unnecessarySimpa false
namespace Go.Proofs.YtpbimnlggalnfaaGreatDoor.Zg
open Go.RowKit
theorem wP{xs ys:List Int}{m n:Nat}(h1:xs.length≤m)(h2:ys.length≤n):(pmt xs ys).length≤m+n-1:=by
 by_cases ha:xs=[]
 ·subst ha;rw [nz (.inl rfl)];simp
 by_cases hb:ys=[]
 ·subst hb;rw [nz (.inr rfl)];simp
 refine Nat.le_trans (au _) ?_;rw [sN hb ha];omega
theorem xH{w:TW}{t:HL I11}{a b c0:Sl}{zs ys us:List Int}(hG:Gl w)(ha:Ri w a zs)(hb:Ri w b ys)(hc:Ri w c0 us):Ct Pg F.bN [.agg (aX I11 t).toArray,a.v,b.v,c0.v] w aa [.one .bool] λ(r:Bool) _=>r=true:=by
 refine Ct.bN ?_;unfold Sh.bN;intro w1 e1;refine c2 (kI (n:=4) (k:=2) (ha.here.ext e1) dcd dcd) ?_;rintro s s1 w2 e2 ⟨X,lx,hs,hs1⟩;refine c2 (kI (n:=4) (k:=2) ((hb.here.ext e1).ext e2) dcd dcd) ?_;rintro s2 s3 w3 e3 ⟨Y,ly,ht,ht1⟩;refine c2 (kI (n:=3) (k:=1) (((hc.here.ext e1).ext e2).ext e3) dcd dcd) ?_;rintro s4 s5 w4 e4 ⟨Z,lz,hu,hu1⟩;have hX:hgt X≤128:=bW hs.hg;have hY:hgt Y≤128:=bW ht.hg;have hZ:hgt Z≤64:=bW hu.hg;have lX:=au X;have lY:=au Y;have lZ:=au Z;have bz:∀q,bl (min q Z.length)≤2:=λq=>dp om
 refine c1 (ob (hs1.ext (e3.trans e4)) hu1 ⟨om,om,by rw [gw,gw];omega⟩) λs6 w5 e5 h5=>?_
 refine c1 (ob (ht1.ext (e4.trans e5)) (hu1.ext e5) ⟨om,om,by rw [gw,gw];omega⟩) λs7 w6 e6 h6=>?_
 rw [sJ] at h5 h6;have e16:=(((((e1.trans e2).trans e3).trans e4).trans e5).trans e6);have l1:(pmt X Z).length≤6:=wP lx lz;have l2:(pmt Y Z).length≤6:=wP ly lz;have g1:hgt (pmt X Z)≤194:=by have:=uX X Z;have:=bz X.length;omega
 have g2:hgt (pmt Y Z)≤194:=by have:=uX Y Z;have:=bz Y.length;omega
 have n1:Nm (pmt X Z):=lJ _ _;have n2:Nm (pmt Y Z):=lJ _ _;have t1':ag (pmt X Z)=pmt X Z:=jf n1;have t2':ag (pmt Y Z)=pmt Y Z:=jf n2;generalize pmt X Z=P at*;generalize pmt Y Z=Q at*;refine oO (t:=t) (hG.here.ext e16) λp w7 zd zm pz mo hg g po nu ra ro dv rc c m d k e tt tab e7 hE htt hp=>aw (by rw [hp]) ?_
 have h57:=h5.ext (e6.trans e7);have h67:=h6.ext e7;refine c1 (nn h57 om λi=>Nat.le_trans (jz g1 i) dcd) λs8 w8 e8 h8=>?_
 refine c1 (nn (h67.ext e8) om λi=>Nat.le_trans (jz g2 i) dcd) λs9 w9 e9 h9=>?_
 have e79:=e8.trans e9;have hE9:=hE.ext e79;refine t1 hE9.tz (uk hE9 (h8.rq.ri.ext e9) h9.rq.ri l1 l2 g1 g2 dcd dcd) ?_;rintro s10 w10 x10 ⟨h10,hE10⟩;rw [t1',t2'] at h10;have h510:=(h57.ext e79).extT hE9.tz x10;have h610:=(h67.ext e79).extT hE9.tz x10;refine j1 (λ(x:Bool) w14=>x=true∧Ext aa w10 w14) ?_ ?_
 ·refine c1 (sk h510 h610 n1 n2 l1 l2 g1 g2) ?_;rintro s11 w11 e11 ⟨h11,gC,lC⟩
  have bg:bl (Nat.gcd (ctn P) (ctn Q))≤194:=by
   rcases Nat.eq_zero_or_pos (ctn P) with h|h
   ·rw [h,Nat.gcd_zero_left];exact me g2
   ·exact Nat.le_trans (pi (Nat.gcd_le_left _ h)) (me g1)
  refine sg h11 (h10.rq.ext e11) (Nat.le_trans (iN _ _) om) (Nat.le_trans (iK gC (n:=194) (by rw [Int.natAbs_natCast];exact bg)) dcd) λw12 e12=>aZ rfl ?_
  exact xI (hE10.gl.ext (e11.trans e12)) λw13 e13=>⟨rfl,(e11.trans e12).trans e13⟩
 rintro x w14 ⟨rfl,e14⟩;refine rt1 (c:=.bool) true ?_ rfl;exact (e16.trans (e7.trans e79)).own (x10.trans e14.any) λc hc=>by subst hc;exact Nat.le_trans e16.size htt
end Go.Proofs.YtpbimnlggalnfaaGreatDoor.Zg
