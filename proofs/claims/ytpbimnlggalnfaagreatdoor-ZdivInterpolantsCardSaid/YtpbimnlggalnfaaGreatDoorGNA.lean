/- A part of the proofs of this seat's laws. -/
import Derived.Test.YtpbimnlggalnfaaGreatDoorGIA
import Derived.Test.YtpbimnlggalnfaaGreatDoorGMA
import Derived.Test.YtpbimnlggalnfaaGreatDoorGA
import Derived.Test.YtpbimnlggalnfaaGreatDoorGKA
import Derived.Test.YtpbimnlggalnfaaGreatDoorGKC
import Derived.Test.YtpbimnlggalnfaaGreatDoorGB
import Derived.Test.YtpbimnlggalnfaaGreatDoorGK
import Derived.Test.YtpbimnlggalnfaaGreatDoorGQ
import Derived.Test.YtpbimnlggalnfaaGreatDoorGP
import Derived.Test.YtpbimnlggalnfaaGreatDoorGP1
import Derived.Test.YtpbimnlggalnfaaGreatDoorGP2
import Derived.Test.YtpbimnlggalnfaaGreatDoorGP3
import Derived.Test.YtpbimnlggalnfaaGreatDoorGP4
import Derived.Test.YtpbimnlggalnfaaGreatDoorGP5
import Derived.Test.YtpbimnlggalnfaaGreatDoorGP6
import Derived.Test.YtpbimnlggalnfaaGreatDoorGS
import Derived.Test.YtpbimnlggalnfaaGreatDoorGC
import Derived.Test.YtpbimnlggalnfaaGreatDoorGIB
set_option linter.unusedVariables false
set_option linter.unusedSimpArgs false
set_option linter.unnecessarySimpa false
namespace Go.Proofs.YtpbimnlggalnfaaGreatDoor.Zg
open Go.RowKit
section
set_option maxRecDepth 100000
def fR:List Int→List Int→List Int
 | [],b=>b
 | a,[]=>a
 | x::a,y::b=>(x+y)::fR a b
def pm:List Int→List Int→List Int
 | [],_=>[]
 | x::a,b=>fR (b.map (x*·)) (0::pm a b)
theorem fV:∀(a b:List Int) (i:Nat),(fR a b).getD i 0=a.getD i 0+b.getD i 0
 | [],b,i=>by simp [fR]
 | x::a,[],i=>by simp [fR]
 | x::a,y::b,0=>by simp [fR]
 | x::a,y::b,i+1=>by simpa [fR] using fV a b i
theorem ml(B:Int):∀(a b:List Int),eR B (fR a b)=eR B a+eR B b
 | [],b=>by simp [fR,eR]
 | x::a,[]=>by simp [fR,eR]
 | x::a,y::b=>by simp only [fR,eR,ml B a b];grind
theorem lc(B c:Int):∀(b:List Int),eR B (b.map (c*·))=c*eR B b
 | []=>by simp [eR]
 | y::b=>by simp only [List.map_cons,eR,lc B c b];grind
theorem jo(B:Int)(b:List Int):∀(a:List Int),eR B (pm a b)=eR B a*eR B b
 | []=>by simp [pm,eR]
 | x::a=>by simp only [pm,ml,lc,eR,jo B b a];grind
theorem mM:∀(a b:List Int),(∀B:Int,0<B→eR B a=eR B b)→∀i,a.getD i 0=b.getD i 0:=by
 have hz:∀(b:List Int),(∀B:Int,0<B→eR B b=0)→∀i,b.getD i 0=0:=by
  intro b;induction b with
  | nil=>intro _ i;simp
  | cons y b ih=>
   intro h
   have hy:y=0:=by
    have:=h (y.natAbs+1) om;simp only [eR] at this;have hd:((y.natAbs:Int)+1) ∣ y:=⟨-eR (y.natAbs+1) b,by grind⟩;exact Int.eq_zero_of_dvd_of_natAbs_lt_natAbs hd om
   subst hy
   have hb:∀B:Int,0<B→eR B b=0:=λB hB=>by
    have:=h B hB;simp only [eR,Int.zero_add] at this;rcases Int.mul_eq_zero.1 this with h|h
    ·omega
    ·exact h
   intro i;cases i with
   | zero=>rfl
   | succ i=>simpa using ih hb i
 intro a b h i;have:=hz (fR a (b.map ((-1)*·))) (λB hB=>by rw [ml,lc,h B hB];grind) i;rw [fV] at this
 have e:(b.map ((-1:Int)*·)).getD i 0=-(b.getD i 0):=by
  simp only [List.getD_eq_getElem?_getD,List.getElem?_map];cases b[i]?<;>simp
 rw [e] at this;omega
theorem Sg.shift(f:Nat→Int):∀n,Sg (n+1) f=f 0+Sg n λk=>f (k+1)
 | 0=>by simp [Sg]
 | n+1=>by rw [Sg,Sg.shift f n,Sg];grind
theorem ou(b:List Int):∀(a:List Int) (i:Nat),(pm a b).getD i 0=Sg (i+1) λu=>a.getD u 0*b.getD (i-u) 0
 | [],i=>by
  rw [Sg.congr (g:=λ_=>0) λk _=>by simp,Sg.zero];simp [pm]
 | x::a,i=>by
  have hm:(b.map (x*·)).getD i 0=x*b.getD i 0:=by
   simp only [List.getD_eq_getElem?_getD,List.getElem?_map];cases b[i]?<;>simp
  rw [pm,fV,hm,Sg.shift];cases i with
  | zero=>simp [Sg]
  | succ i=>
   have:=ou b a i;simp only [List.getD_cons_succ,List.getD_cons_zero,Nat.sub_zero,this];rw [Sg.congr (f:=λk=>a.getD k 0*b.getD (i+1-(k+1)) 0) (g:=λu=>a.getD u 0*b.getD (i-u) 0) λk _=>by rw [Nat.add_sub_add_right]]
theorem uZ(a b:List Int)(i:Nat):(pm a b).getD i 0=(pm b a).getD i 0:=mM _ _ (λB _=>by rw [jo,jo,Int.mul_comm]) i
theorem ze{A B:Nat}{b:List Int}(hb:∀i,(b.getD i 0).natAbs≤B):∀{a:List Int},(∀i,(a.getD i 0).natAbs≤A)→∀i,((pm a b).getD i 0).natAbs≤a.length*(A*B)
 | [],_,i=>by simp [pm]
 | x::a,ha,i=>by
  have hm:(b.map (x*·)).getD i 0=x*b.getD i 0:=by
   simp only [List.getD_eq_getElem?_getD,List.getElem?_map];cases b[i]?<;>simp
  have h1:(x*b.getD i 0).natAbs≤A*B:=by
   rw [Int.natAbs_mul];exact Nat.mul_le_mul (ha 0) (hb i)
  have h2:((0::pm a b).getD i 0).natAbs≤a.length*(A*B):=by
   cases i with
   | zero=>simp
   | succ i=>simpa using ze hb (λj=>by simpa using ha (j+1)) i
  rw [pm,fV,hm,List.length_cons,Nat.add_mul,Nat.one_mul];generalize a.length*(A*B)=z at*;generalize A*B=y at*;omega
theorem jX:∀(a b:List Int),(fR a b).length=max a.length b.length
 | [],b=>by simp [fR]
 | x::a,[]=>by simp [fR]
 | x::a,y::b=>by simp [fR,jX a b]
theorem sN{b:List Int}(hb:b≠[]):∀{a:List Int},a≠[]→(pm a b).length=a.length+b.length-1
 | [x],_=>by
  have:=List.length_pos_iff.2 hb;simp [pm,jX];omega
 | x::y::a,_=>by
  have:=List.length_pos_iff.2 hb;rw [pm,jX,List.length_cons,sN hb (a:=y::a) smp];simp;omega
end
section
set_option maxRecDepth 100000
variable {a b:List Int}
theorem cC(l:List Int)(i:Nat):(ag l).getD i 0=l.getD i 0:=by
 obtain⟨k,hk⟩:=mK l;conv=>rhs;rw [hk]
 by_cases h:i<(ag l).length
 ·simp only [List.getD_eq_getElem?_getD];rw [List.getElem?_append_left h]
 ·simp only [List.getD_eq_getElem?_getD];rw [List.getElem?_append_right om,List.getElem?_eq_none om,List.getElem?_replicate];split<;>rfl
def Nm(l:List Int):Prop:=∀z,l.getLast?=some z→z≠0
theorem Nm.trim(l:List Int):Nm (ag l):=by
 intro z hz;unfold ag at hz;rw [List.getLast?_reverse] at hz;intro h0;subst h0;have:=List.head?_dropWhile_not (λx:Int=>x == 0) l.reverse;rw [hz] at this;simp at this
theorem Nm.get{l:List Int}(h:Nm l)(h0:l≠[]):l.getD (l.length-1) 0≠0:=by
 have hl:=List.length_pos_iff.2 h0;refine h _ ?_;rw [List.getLast?_eq_getElem?,List.getD_eq_getElem?_getD,List.getElem?_eq_getElem om];rfl
theorem Nm.ext(ha:Nm a)(hb:Nm b)(h:∀i,a.getD i 0=b.getD i 0):a=b:=by
 have key:∀{a b:List Int},Nm b→(∀i,a.getD i 0=b.getD i 0)→b.length≤a.length:=fun {a b} hb h=>by
  rcases Nat.lt_or_ge a.length b.length with hl|hl
  ·exfalso;have h0:b≠[]:=λh=>by simp [h] at hl
   refine hb.get h0 ?_;rw [←h,List.getD_eq_getElem?_getD,List.getElem?_eq_none om];rfl
  ·exact hl
 have e:a.length=b.length:=Nat.le_antisymm (key ha λi=>(h i).symm) (key hb h);refine List.ext_getElem e λi h1 h2=>?_
 have:=h i;simpa [List.getD_eq_getElem?_getD,List.getElem?_eq_getElem h1,List.getElem?_eq_getElem h2] using this
def pmt(a b:List Int):List Int:=ag (pm a b)
theorem jr(a b:List Int)(i:Nat):(pmt a b).getD i 0=(pm a b).getD i 0:=cC _ _
theorem lJ(a b:List Int):Nm (pmt a b):=Nm.trim _
theorem xU(a b:List Int):pmt a b=pmt b a:=(lJ _ _).ext (lJ _ _) λi=>by rw [jr,jr,uZ]
theorem kv{a' b':List Int}(ha:∀i,a.getD i 0=a'.getD i 0)(hb:∀i,b.getD i 0=b'.getD i 0)(i:Nat):(pm a b).getD i 0=(pm a' b').getD i 0:=by
 rw [ou,ou];exact Sg.congr λk _=>by rw [ha,hb]
theorem sJ(a b:List Int):pmt (ag a) (ag b)=pmt a b:=(lJ _ _).ext (lJ _ _) λi=>by
 rw [jr,jr,kv (cC a) (cC b)]
theorem qt(l:List Int)(i:Nat):(l.getD i 0).natAbs≤2^hgt l-1:=by
 have h1:=iE (l.getD i 0).natAbs;have h2:=Nat.pow_le_pow_right (show 0<2 by omega) (qu (l:=l) i);omega
theorem sP(a b:List Int)(i:Nat):bl ((pm a b).getD i 0).natAbs≤hgt a+hgt b+bl (min a.length b.length):=by
 have key:∀a b:List Int,bl ((pm a b).getD i 0).natAbs≤hgt a+hgt b+bl a.length:=λa b=>by
  refine dp ?_;refine Nat.lt_of_le_of_lt (ze (qt b) (qt a) i) ?_;have h1:=iE a.length;have h2:=Nat.two_pow_pos (hgt a);have h3:=Nat.two_pow_pos (hgt b)
  calc a.length*((2^hgt a-1)*(2^hgt b-1))≤a.length*(2^hgt a*2^hgt b):=Nat.mul_le_mul_left _ (Nat.mul_le_mul om om)
   _<2^bl a.length*(2^hgt a*2^hgt b):=Nat.mul_lt_mul_of_pos_right h1 (Nat.mul_pos h2 h3)
   _=2^(hgt a+hgt b+bl a.length):=by rw [Nat.pow_add,Nat.pow_add];grind
 rcases Nat.le_total a.length b.length with h|h
 ·rw [Nat.min_eq_left h];exact key a b
 ·rw [Nat.min_eq_right h,uZ,Nat.add_comm (hgt a)];exact key b a
end
section
set_option maxRecDepth 100000
theorem sv(B:Int)(r:List Int):∀l:List Int,eR B (l++r)=eR B l+B^l.length*eR B r
 | []=>by simp [eR]
 | z::l=>by simp only [List.cons_append,eR,sv B r l,List.length_cons,Int.pow_succ];grind
def shz(h:Nat)(l:List Int):List Int:=List.replicate h 0++l
theorem uL(B:Int)(h:Nat)(l:List Int):eR B (shz h l)=B^h*eR B l:=by
 have:eR B (List.replicate h 0)=0:=by
  induction h with
  | zero=>rfl
  | succ h ih=>rw [List.replicate_succ,eR,ih];simp
 rw [shz,sv,this,List.length_replicate,Int.zero_add]
def ngz(l:List Int):List Int:=l.map ((-1)*·)
theorem ve(B:Int)(l:List Int):eR B (ngz l)=-eR B l:=by rw [ngz,lc];grind
theorem jI(h:Nat)(l:List Int)(i:Nat):(shz h l).getD i 0=if i<h then 0 else l.getD (i-h) 0:=by
 unfold shz;simp only [List.getD_eq_getElem?_getD];split
 ·rename_i hi;rw [List.getElem?_append_left (by simpa using hi),List.getElem?_replicate,if_pos hi];rfl
 ·rename_i hi;rw [List.getElem?_append_right (by simp;omega),List.length_replicate]
theorem o9(l:List Int)(i:Nat):(ngz l).getD i 0=-(l.getD i 0):=by
 simp only [ngz,List.getD_eq_getElem?_getD,List.getElem?_map];cases l[i]?<;>simp
end
end Go.Proofs.YtpbimnlggalnfaaGreatDoor.Zg
