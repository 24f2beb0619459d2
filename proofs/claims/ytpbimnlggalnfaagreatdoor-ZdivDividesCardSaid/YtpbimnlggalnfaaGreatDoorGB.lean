/- A part of the proofs of this seat's laws. -/
import Derived.Test.YtpbimnlggalnfaaGreatDoorGA
set_option linter.unusedVariables false
set_option linter.unusedSimpArgs false
set_option linter.unnecessarySimpa false
namespace Go.Proofs.YtpbimnlggalnfaaGreatDoor.Zg
open Go.RowKit
section
variable {β:Nat→Option Nat} {e:Env} {a:Act} {w:TW} {w':World} {K:Option SV→Env→TW→Prop} {h:Nat} {vs:List Value} {v:Value} {o:Oper} {next:Act→World→Prop} {Q:Exit→Act→World→Prop} {f:FuncId}
section
variable {P:Program} {D:Dc}
theorem New.keep{w':TW}(hA:aW D β e a w){b:Nat}{cs:List Value}{T:TypeId}(h:New w b cs T w'):∀k c,β k=some c→w'.w.heap[c]?=w.w.heap[c]?:=
 λ_ c hk=>by rw [h.is];exact Below.heap_alloc w.w _ c (hA.lt hk)
theorem fW.newv(hA:aW D β e a w)(hV:Vok D){d:Tmp}{T:TypeId}(hm:nat? D.vb h=some vs.length)(hK:nwv w (K (some (.p h 0)) (iY h vs (clr h e))))(hd:nat? D.va d=some h)(hv:v=.pointer (some ⟨w.w.heap.size,0,none⟩)):fW D β e a w (some d) K (a.put (some d) v) (w.w.alloc (.cells vs.toArray T)):=by
 subst hv
 have hlt:∀b,(w.V b∨b=w.w.heap.size)→b<(w.w.alloc (.cells vs.toArray T)).heap.size:=by
  intro b h;rcases h with h|h
  ·have:=w.lt b h;simp;omega
  ·subst h;simp
 let w':TW:={ w:=w.w.alloc (.cells vs.toArray T),V:=λb=>w.V b∨b=w.w.heap.size,B:=w.B,lt:=hlt };have hE:Ext aa w w':=⟨rfl,rfl,rfl,by simp [w'],rfl,λ_ h=>.inl h,λb h=>h.imp id (λh=>om),λk hk _ _=>Below.heap_alloc w.w _ k hk,λk hk=>oz _ _ _ hk⟩;have hAn:=hA.newv (w':=w') (T:=T) hV hm rfl (heap_alloc_new w.w _) (λk hk=>Below.heap_alloc w.w _ k hk) hE.size (λ_ h=>.inl h) (.inr rfl) rfl;refine⟨_,_,_,_,w',rfl,rfl,hK w' hE,hAn,⟨w.w.heap.size,smp,rfl⟩,?_,λk hk=>if_neg (λe':k=h=>hk d rfl (by rw [e'];exact hd))⟩;intro h' off b u hb ho hk hc;obtain⟨l,h1,h2,h3⟩:=pe vs h (clr h e)
 have hne:h'≠h:=by
  intro e';subst e';rw [hm] at ho;simp only [Option.getD_some] at ho;rw [h1,List.length_append,mR,Nat.add_sub_cancel,List.take_left] at hk;rw [nE.2 (h3 (h'+off) om om)] at hk;cases hk
 exact⟨by simp [hne,hb],(World.cell?_of_block (a:=⟨b,off,none⟩) (Below.heap_alloc w.w _ b (hA.lt hb))).trans hc⟩
theorem abD{w:World}{args:Array Value}(hr:(execOp a.eval o).run P w=.ok (.enter f args) w){K:Value→World→Prop}(hc:Calls P f args w (λe w'=>∃v,e=.returned v∧K v w'))(hn:∀v w',K v w'→next (a.put o.dst v) w'):o.wp P a w next Q:=by
 unfold Oper.wp;rw [hr,Oper.upon_enter];refine hc.mono ?_;rintro e w' ⟨v,rfl,hK⟩;exact hn v w' hK
theorem vT(hA:aW D β e a w){rt:List VT}(hr:(execOp a.eval o).run P w.w=.ok (.enter f vs.toArray) w.w)(h:cl P f vs w rt (lam (fl rt) λx w'=>K (some (.v (qW rt x))) e w')):o.wp P a w.w (fW D β e a w o.dst K) Q:=by
 obtain⟨X,hX,hc⟩:=h;refine abD hr (K:=λv w'=>∃(x:HL (fl rt)) (T':TW),T'.w=w'∧v=qW rt x∧Ext X w.here T'∧K (some (.v (qW rt x))) e (T'.at w.B)) (Calls.mono hc ?_) ?_
 ·rintro e' w' ⟨x,T',rfl,rfl,hx,hK⟩;rw [nc] at hK;exact⟨_,rfl,x,T',rfl,rfl,hx,hK⟩
 ·rintro v w' ⟨x,T',rfl,rfl,hx,hK⟩;refine fW.far (w':=T'.at w.B) hA hK (λk b hk=>?_) hx.size hx.sub rfl rfl;obtain⟨n,cs,T,_,h2,h3,_⟩:=hA.cell k b hk;exact hx.block b (hA.lt hk) (λhXb=>hX b hXb h3.1) (.inl (hA.lt hk))
theorem fS{w:World}(hr:(execOp a.eval o).run P w=.ok (.value v) w')(hn:next (a.put o.dst v) w'):o.wp P a w next Q:=by
 unfold Oper.wp;rw [hr,Oper.upon_value];exact hn
theorem rI{w:World}(hr:(execOp a.eval o).run P w=.ok .skip w')(hn:next (a.put o.dst undef) w'):o.wp P a w next Q:=by
 unfold Oper.wp;rw [hr,Oper.upon_skip];exact hn
theorem vD{n:Nat}(hi:isB D h n=true):nat? D.vb h=some n:=by
 unfold isB at hi;split at hi
 ·rename_i m hm;rw [hm,Nat.eq_of_beq_eq_true hi]
 ·cases hi
theorem tB(hA:aW D β e a w)(hV:Vok D)(hE:mN P D.ext)(h:wop P D o e w K):o.wp P a w.w (fW D β e a w o.dst K) Q:=by
 obtain⟨dst,op,type,pos,after,guard⟩:=o;cases op
 case alloc el=>
  simp only [wop] at h;split at h
  ·rename_i z d hz;obtain⟨zv,hzr,hzc⟩:=tA hz
   have hr:∀d',(execOp a.eval { dst:=d',op:=.alloc el,type,pos,after,guard }).run P w.w=.ok (.value (.pointer (some ⟨w.w.heap.size,0,none⟩))) (w.w.alloc (.cells z.toArray el)):=λd'=>by
    have:zv.cells=z.toArray:=by rw [←hzc]
    simp [execOp,Instr.alloc,hzr,newVar,newRow,this]
   split at h
   ·exact fS (hr _) (fW.ext (w':=w.alloc (.cells z.toArray el)) hA (h _ _ (New.mk' w z el)) ((New.mk' w z el).ext _) ((New.mk' w z el).keep hA) rfl)
   ·rename_i hh hd;split at h
    ·rename_i hb;exact fS (hr _) (fW.newv hA hV (vD hb) h hd rfl)
    ·exact h.elim
  ·exact h.elim
 case box el x=>
  simp only [wop] at h;split at h
  ·rename_i v d hv
   have hr:∀d',(execOp a.eval { dst:=d',op:=.box el x,type,pos,after,guard }).run P w.w=.ok (.value (.pointer (some ⟨w.w.heap.size,0,none⟩))) (w.w.alloc (.cells v.cells.toList.toArray el)):=λd'=>by
    simp [execOp,Instr.box,am hA hv,newVar,newRow]
   split at h
   ·exact fS (hr _) (fW.ext (w':=w.alloc (.cells v.cells.toList.toArray el)) hA (h _ _ (New.mk' w v.cells.toList el)) ((New.mk' w v.cells.toList el).ext _) ((New.mk' w v.cells.toList el).keep hA) rfl)
   ·rename_i hh hd;split at h
    ·rename_i hb;exact fS (hr _) (fW.newv hA hV (vD hb) h hd rfl)
    ·exact h.elim
  ·exact h.elim
 case buildSlice t len parts=>
  simp only [wop] at h;split at h
  ·rename_i el ps ht hps;split at h
   ·rename_i sz z hsz hz;split at h
    ·rename_i cs hcs;split at h
     ·rename_i hb;simp only [Bool.and_eq_true] at hb;obtain⟨b,w',hn,hr⟩:=acd ht hsz hz (Nat.eq_of_beq_eq_true hb.2) hcs (Nat.le_of_ble_eq_true hb.1) (w:=w);have h1:parts.map (λx=>(x.1,a.eval x.2))=ps.toArray:=by rw [←mM hA hps,←Array.toList_map]
      exact fS (v:=.slice (some ⟨b,0,none⟩) len len) (by simp [execOp,h1,hr]) (fW.ext hA (h _ _ hn) (hn.ext _) (hn.keep hA) rfl)
     ·exact h.elim
    ·exact h.elim
   ·exact h.elim
  ·exact h.elim
 case makeSlice t l c=>
  simp only [wop] at h;split at h
  ·rename_i el k l' k' c' ht hl hc;split at h
   ·rename_i i z hi hz;split at h
    ·rename_i hb;obtain⟨h0,h1,h2,h3,hK⟩:=h;obtain⟨b,w',hn,hr⟩:=acb ht hi hz (Nat.eq_of_beq_eq_true hb) k k' h0 h1 h2 h3 (w:=w);exact fS (v:=.slice (some ⟨b,0,none⟩) l'.toNat c'.toNat) (by simp [execOp,am hA hl,am hA hc,hr]) (fW.ext hA (hK _ _ hn) (hn.ext _) (hn.keep hA) rfl)
    ·exact h.elim
   ·exact h.elim
  ·exact h.elim
 case store t x y=>
  simp only [wop] at h;split at h
  ·rename_i ad v n hx hy hn;split at h
   ·rename_i hb;have hb:=Nat.eq_of_beq_eq_true hb;have hxv:=dh hA hx;simp only [SVR] at hxv;obtain⟨w',hr,hK,h1,h2,h3,hk⟩:=rQ (P:=P) h;have hsz:v.cells.size=n:=by simpa using hb
    refine rI (w':=w'.w) ?_ (fW.far hA hK (λk b hkb=>?_) om (λb hb=>by rw [h1];exact hb) h2 rfl)
    ·simp [execOp,Instr.storeAt,hxv,am hA hy,Instr.sureAddr,storeVar,bI hn,hsz,hr]
    ·obtain⟨n',cs,T,_,_,h3,_⟩:=hA.cell k b hkb;exact hk b h3.1
   ·exact h.elim
  ·rename_i hh off v n hx hy hn;split at h
   ·rename_i hb;simp only [Bool.and_eq_true] at hb;obtain⟨⟨hb1,hb2⟩,hb3⟩:=hb;have hb1:=Nat.eq_of_beq_eq_true hb1;obtain⟨b,hβ,hxv⟩:=dh hA hx;obtain⟨m,hm,hle⟩:=rx hb3;obtain⟨m',cs,T,h1,h2,h3,h4,h5⟩:=hA.cell hh b hβ;rw [hm] at h1;injection h1 with h1;subst h1;have hsz:v.cells.size=n:=by simpa using hb1
    have hr:=run_storeCells_at P b off T v.cells.toList 0 cs w.w h2 (by simp;omega) (tS hb2);simp only [Nat.add_zero] at hr;have hle':off+v.cells.toList.length≤m:=by rw [hb1];exact hle
    have hset:=setRow_heap w.w b cs (cs.toList.take off++v.cells.toList++cs.toList.drop (off+v.cells.toList.length)).toArray T _ h2
    have hsize:(cs.toList.take off++v.cells.toList++cs.toList.drop (off+v.cells.toList.length)).toArray.size=cs.size:=by
     simp only [List.size_toArray,List.length_append,List.length_take,List.length_drop,Array.length_toList,h4];omega
    have hE:=oV h2 _ hsize
    have hE':Ext aa w (w.row b (cs.toList.take off++v.cells.toList++cs.toList.drop (off+v.cells.toList.length)).toArray):=
     ⟨hE.os,hE.tape,hE.output,hE.size,hE.floor,hE.sub,hE.new,λk hk _ hkv=>setRow_other w.w b k _ (λe=>by
      rw [e] at hkv;have:=h3.2;exact hkv.elim (λh=>om) (λh=>h h3.1)),hE.shape⟩
    refine rI (w':=(w.row b (cs.toList.take off++v.cells.toList++cs.toList.drop (off+v.cells.toList.length)).toArray).w) ?_ ?_
    ·simp only [execOp,Instr.storeAt,hxv,am hA hy,Instr.sureAddr,storeVar,bI hn,hsz,Sem.run_bind,Sem.run_pure,Result.andThen_ok,ne_eq,not_true_eq_false,if_false];rw [hr];rfl
    ·refine⟨none,undef,β,iY (hh+off) v.cells.toList e,_,rfl,rfl,h _ hE',hA.store hV hβ hm hle' h2 hset (λk hk=>setRow_other w.w b k _ hk) (by simp [TW.row,World.setRow]) rfl rfl,rfl,?_,λ_ _=>rfl⟩;intro h' off' b' u hb' ho' hk' hc';refine⟨hb',?_⟩;by_cases hbb:b'=b
     ·subst hbb;have e1:h'=hh:=hA.inj _ _ _ hb' hβ;subst e1;obtain⟨l,q1,q2,q3⟩:=pe v.cells.toList (h'+off) e;rw [q1,List.length_append,Nat.add_sub_cancel,List.take_left] at hk'
      have hnr:¬(h'+off≤h'+off'∧h'+off'<h'+off+v.cells.toList.length):=λ⟨r1,r2⟩=>by
       rw [nE.2 (q3 (h'+off') r1 r2)] at hk';cases hk'
      have hg:=cell_of_row (w.row b' (cs.toList.take off++v.cells.toList++cs.toList.drop (off+v.cells.toList.length)).toArray).w b' off' _ T (0,0) hset;rw [hg];rw [cell_of_row w.w b' off' cs T (0,0) h2] at hc';have hcl:cs.toList.length=m:=by simpa using h4
      simp only [List.getElem?_toArray];rcases Nat.lt_or_ge off' off with hi'|hi'
      ·rw [List.append_assoc,List.getElem?_append_left (by simp [hcl];omega),List.getElem?_take,if_pos hi'];simpa using hc'
      ·rw [List.getElem?_append_right (by simp [hcl];omega)];simp only [List.length_append,List.length_take,hcl,List.getElem?_drop];rw [show off+v.cells.toList.length+(off'-(min off m+v.cells.toList.length))=off' by omega];simpa using hc'
     ·exact (World.cell?_of_block (a:=⟨b',off',none⟩) (setRow_other w.w b b' _ hbb)).trans hc'
   ·exact h.elim
  ·exact h.elim
 case call c=>
  obtain⟨callee,args,argTypes⟩:=c;cases callee
  case builtin b=>
   simp only [wop] at h;split at h
   ·-- append
    rename_i x y t u hargs htys;obtain rfl:args=#[x,y]:=by simpa using congrArg List.toArray hargs
    obtain rfl:argTypes=#[t,u]:=by simpa using congrArg List.toArray htys
    split at h
    ·rename_i el p n c p' n' c' htu ht hx hy;obtain rfl:=Nat.eq_of_beq_eq_true htu;split at h
     ·rename_i i z hi hz;split at h
      ·rename_i hb;simp only [Bool.and_eq_true] at hb;obtain⟨hb1,hb2⟩:=hb;have hb1:=Nat.eq_of_beq_eq_true hb1;obtain⟨B,ls,lx,hown,hrd,hB,h1,h63,hby,hK⟩:=h;unfold kO at hz;rw [hi] at hz;simp only at hz;split at hz
       ·rename_i zv hzv;injection hz with hz;subst hz;obtain⟨s',w',hr,hown',hsn,hx',hloc,hkk⟩:=ace (P:=P) (ty:=type) ht hi hzv (by simpa using hb1) (by simpa [Nat.blt_eq] using hb2) hown hrd hB h1 h63 hby
        refine fS (v:=s'.v) (w':=w'.w) ?_ (fW.far hA (hK s' w' hown' hsn hx' hloc) (λk b hkb=>?_) hx'.size hx'.sub hx'.floor rfl)
        ·simp only [Sl.v] at hr;simp [execOp,resolve,invoke,builtin,am hA hx,am hA hy,hr]
        ·obtain⟨n',cs,T,_,_,h3,_⟩:=hA.cell k b hkb;exact hkk b (hA.lt hkb) (λhb'=>hown.2 b hb' h3.1)
       ·cases hz
      ·exact h.elim
     ·exact h.elim
    ·exact h.elim
   ·-- copy
    rename_i x y t u hargs htys;obtain rfl:args=#[x,y]:=by simpa using congrArg List.toArray hargs
    obtain rfl:argTypes=#[t,u]:=by simpa using congrArg List.toArray htys
    split at h
    ·rename_i el p n c p' n' c' ht hx hy;split at h
     ·rename_i hsz
      have hs1:(P.info? el).map (·.size)=some 1:=by
       unfold iC at hsz;split at hsz
       ·rename_i i hi;rw [hi];exact hsz
       ·cases hsz
      rcases h with ⟨h0,hK⟩|⟨lx,b,o,cur,hrd,h1,hp,hnV,hg,hfit,hK⟩
      ·have hr:=run_copy_none (P:=P) w.w t u type el p p' n c n' c' ht hs1 (by simpa [Nat.min_def] using h0);exact fS (v:=goInt 0) (w':=w.w) (by simp [execOp,resolve,invoke,builtin,am hA hx,am hA hy,hr]) (fW.ext (w':=w) hA hK (Ext.refl _ _) (λ_ _ _=>rfl) rfl)
      ·simp only at hp hfit hK;subst hp;obtain⟨hl,hnc,hcm,hcell⟩:=hrd;simp only [Nat.mul_one] at hl hnc hcm hcell;have hlen:(lx.take (min n' n)).length=min n' n:=by rw [List.length_take,hl];omega
       have hsize:(cur.toList.take o++lx.take (min n' n)++cur.toList.drop (o+(lx.take (min n' n)).length)).toArray.size=cur.size:=by
        rw [hlen];simp only [List.size_toArray,List.length_append,List.length_take,List.length_drop,Array.length_toList,hl];omega
       have hset:=setRow_heap w.w b cur (cur.toList.take o++lx.take (min n' n)++cur.toList.drop (o+(lx.take (min n' n)).length)).toArray _ _ hg;have hE:=oV hg (cur.toList.take o++lx.take (min n' n)++cur.toList.drop (o+(lx.take (min n' n)).length)).toArray hsize;have hK':=hK (w.row b (cur.toList.take o++lx.take (min n' n)++cur.toList.drop (o+(lx.take (min n' n)).length)).toArray) (by simp only [TW.row];rw [hset];simp [splice]) hE
       have hkeep:∀k c',β k=some c'→(w.row b (cur.toList.take o++lx.take (min n' n)++cur.toList.drop (o+(lx.take (min n' n)).length)).toArray).w.heap[c']?=w.w.heap[c']?:=λk c' hkc=>by
        obtain⟨_,_,_,_,_,h3,_⟩:=hA.cell k c' hkc;exact setRow_other w.w b c' _ (λe=>hnV (e▸h3.1))
       by_cases hlx:lx=[]
       ·subst hlx;have hm0:min n' n=0:=by simp at hl;omega
        have hr:=run_copy_none (P:=P) w.w t u type el (some ⟨b,o,none⟩) p' n c n' c' ht hs1 (by simpa [Nat.min_def] using hm0)
        have hrow:w.w.setRow b (cur.toList.take o++([]:List Value).take (min n' n)++cur.toList.drop (o+(([]:List Value).take (min n' n)).length)).toArray=w.w:=by
         have:=setRow_self w.w b cur el (0,0) hg;simpa using this
        refine fS (v:=goInt (min n' n:Nat)) (w':=(w.row b (cur.toList.take o++([]:List Value).take (min n' n)++cur.toList.drop (o+(([]:List Value).take (min n' n)).length)).toArray).w) ?_ (fW.far hA hK' hkeep hE.size hE.sub hE.floor rfl);simp only [execOp,resolve,invoke,builtin,List.map_toArray,List.map_cons,List.map_nil,am hA hx,am hA hy,Sem.run_bind,Sem.run_pure,Result.andThen_ok];rw [hr];simp only [TW.row];rw [hrow,hm0];simp
       ·obtain⟨b2,o2,hp2,_,hc2⟩:=hcell hlx;subst hp2
        have hr:=run_copy_row (P:=P) w.w t u type el b o n c ⟨b2,o2,none⟩ n' c' cur el (lx.take (min n' n)) ht hs1 hg (by rw [hlen]) (λj v hj=>by
         rw [Addr.add_mk];refine hc2 j v ?_;rw [List.getElem?_take] at hj;split at hj
         ·exact hj
         ·cases hj) (by rw [hlen];exact hfit) (λv hv=>h1 v (List.mem_of_mem_take hv))
        rw [hlen] at hr;refine fS (v:=goInt (min n' n:Nat)) (w':=(w.row b (cur.toList.take o++lx.take (min n' n)++cur.toList.drop (o+(lx.take (min n' n)).length)).toArray).w) ?_ (fW.far hA hK' hkeep hE.size hE.sub hE.floor rfl);simp only [execOp,resolve,invoke,builtin,List.map_toArray,List.map_cons,List.map_nil,am hA hx,am hA hy,Sem.run_bind,Sem.run_pure,Result.andThen_ok];rw [hr];simp [hlen,TW.row]
     ·exact h.elim
    ·exact h.elim
   ·exact h.elim
  case value g=>
   cases g
   case func f=>
    simp only [wop] at h;split at h
    ·-- Add64
     rename_i hf;obtain⟨fn,h1,h2,h3,h4,h5⟩:=hE.add f hf;split at h
     ·rename_i kx x ky y kc c hvs;obtain⟨p,q,r,rfl,rfl,rfl,hr1,hK⟩:=h;have hargs:=iG hA hvs
      have e:args.map a.eval=#[.int kx p,.int ky q,.int kc r]:=by
       have:=congrArg List.toArray hargs;rw [←Array.toList_map] at this;exact this
      refine fS (w':=w.w) (v:=.tuple #[.int .u64 ((p+q+r)%18446744073709551616:Nat),.int .u64 ((p+q+r)/18446744073709551616:Nat)]) ?_ (fW.ext (w':=w) hA hK (Ext.refl _ _) (λ_ _ _=>rfl) rfl);have hx:=run_callFunc_extern (P:=P) h1 h2 h3 h4 h5 #[.int kx p,.int ky q,.int kc r] w.w
      have hrow:(add64Entry #[.int kx (p:Int),.int ky (q:Int),.int kc (r:Int)]).run P w.w=.ok (.tuple #[.int .u64 ((p+q+r)%18446744073709551616:Nat),.int .u64 ((p+q+r)/18446744073709551616:Nat)]) w.w:=by
       have:r=0∨r=1:=om;rcases this with rfl|rfl<;>rfl
      rw [hrow] at hx;simp [execOp,resolve,Act.eval,Deferred.ofValue,invoke,e,hx]
     ·exact h.elim
    ·-- Sub64
     rename_i hf;obtain⟨fn,h1,h2,h3,h4,h5⟩:=hE.sub f hf;split at h
     ·rename_i kx x ky y kc c hvs;obtain⟨p,q,r,rfl,rfl,rfl,hr1,hK⟩:=h;have hargs:=iG hA hvs
      have e:args.map a.eval=#[.int kx p,.int ky q,.int kc r]:=by
       have:=congrArg List.toArray hargs;rw [←Array.toList_map] at this;exact this
      refine fS (w':=w.w) (v:=.tuple #[.int .u64 ((p+18446744073709551616-q-r)%18446744073709551616:Nat),.int .u64 (if p<q+r then 1 else 0:Nat)]) ?_ (fW.ext (w':=w) hA hK (Ext.refl _ _) (λ_ _ _=>rfl) rfl);have hx:=run_callFunc_extern (P:=P) h1 h2 h3 h4 h5 #[.int kx p,.int ky q,.int kc r] w.w
      have hrow:(oU #[.int kx (p:Int),.int ky (q:Int),.int kc (r:Int)]).run P w.w=.ok (.tuple #[.int .u64 ((p+18446744073709551616-q-r)%18446744073709551616:Nat),.int .u64 (if p<q+r then 1 else 0:Nat)]) w.w:=by
       have:r=0∨r=1:=om;rcases this with rfl|rfl<;>rfl
      rw [hrow] at hx;simp [execOp,resolve,Act.eval,Deferred.ofValue,invoke,e,hx]
     ·exact h.elim
    ·rename_i hf;split at h
     ·rename_i vs rt hvs hrt;refine vT hA ?_ h;have hargs:=iG hA hvs;have e:args.map a.eval=vs.toArray:=by rw [←hargs,←Array.toList_map]
      simp [execOp,resolve,Act.eval,Deferred.ofValue,invoke,e,pH (hE.body f hf)]
     ·exact h.elim
    ·exact h.elim
   case tmp t=>
    simp only [wop] at h;split at h
    ·rename_i fv vs rt hfv hvs hrt;obtain⟨f,first,captured,rfl,hok,hc⟩:=h;refine vT hA ?_ hc;have hargs:=iG hA hvs;have hv:=dh hA hfv;simp only [SVR] at hv;have e:args.map a.eval=vs.toArray:=by rw [←hargs,←Array.toList_map]
     simp [execOp,resolve,hv,Deferred.ofValue,invoke,e,pH hok]
    ·exact h.elim
   all_goals exact h.elim
  all_goals exact h.elim
 all_goals exact h.elim
end
end
section
variable {β β' β'':Nat→Option Nat} {e:Env} {a a':Act} {w:TW} {d:Option Tmp} {v:Value} {o:Oper} {ws:List Nat}
section
variable {P:Program} {D:Dc}
theorem iH(hA:aW D β e a w)(hV:Vok D){s:SV}(hs:SVR β s v){K:Env→Prop}(h:nI D d s e K):∃e',aW D β e' (a.put d v) w∧K e':=by
 unfold nI at h;split at h
 ·exact⟨e,hA,h⟩
 ·split at h
  ·rename_i hb;exact⟨_,hA.put (by simpa [Nat.blt_eq] using hb) hV.lo hs,h⟩
  ·exact h.elim
theorem rA(hA:aW D β e a w){ops:Array Oper}{A B:Env→Prop}(h:gd D ops.toList o e A B):
  ∃e',aW D β e' a w∧((Region.wanted o (yielded ops a.tmps)=true∧A e')∨(Region.wanted o (yielded ops a.tmps)=false∧B e')):=by
 unfold gd at h;split at h
 ·rename_i hg;exact⟨e,hA,.inl ⟨by simp [Region.wanted,hg],h⟩⟩
 ·rename_i g want hg;split at h
  ·rename_i og hog;split at h
   ·rename_i t ht;have hog':ops[g]?=some og:=by simpa using hog
    have hN:∀{s},ev D e (.tmp t)=some s→t<D.N∧e.get t=some s:=fun {s} hs=>by
     simp only [ev] at hs;cases hb:Nat.blt t D.N with
     | false=>rw [hb] at hs;cases hs
     | true=>rw [hb] at hs;exact⟨by simpa [Nat.blt_eq] using hb,hs⟩
    split at h
    ·rename_i b hb;obtain⟨hl,hget⟩:=hN hb;have hv:=hA.val t _ hl hget;have hw:Region.wanted o (yielded ops a.tmps)=(some b == some want):=by simp [Region.wanted,hg,yielded,hog',ht,hv]
     have hA':=hA.know hget;cases b with
     | true=>
      simp only [cond_true] at h;cases want with
      | true=>exact⟨_,hA',.inl ⟨by rw [hw];rfl,h⟩⟩
      | false=>exact⟨_,hA',.inr ⟨by rw [hw];rfl,h⟩⟩
     | false=>
      simp only [cond_false] at h;cases want with
      | true=>exact⟨_,hA',.inr ⟨by rw [hw];rfl,h⟩⟩
      | false=>exact⟨_,hA',.inl ⟨by rw [hw];rfl,h⟩⟩
    ·rename_i vs hb;obtain⟨hl,hget⟩:=hN hb;have hv:=hA.val t _ hl hget;exact⟨e,hA,.inr ⟨by simp [Region.wanted,hg,yielded,hog',ht,hv],h⟩⟩
    ·exact h.elim
   ·exact h.elim
  ·exact h.elim
structure Kp (D:Dc) (ws:List Nat) (β β':Nat→Option Nat) (a a':Act):Prop where
 tmps:∀t,t ∉ ws→a'.tmps[t]?=a.tmps[t]?
 beta:∀h,lG D.va ws h=false→β' h=β h
theorem Kp.refl(ws:List Nat)(β:Nat→Option Nat)(a:Act):Kp D ws β β a a:=⟨λ_ _=>rfl,λ_ _=>rfl⟩
theorem Kp.trans{a'':Act}(h:Kp D ws β β' a a')(k:Kp D ws β' β'' a' a''):Kp D ws β β'' a a'':=
 ⟨λt ht=>(k.tmps t ht).trans (h.tmps t ht),λx hx=>(k.beta x hx).trans (h.beta x hx)⟩
theorem mO{ws:List Nat}{h:Nat}:∀{va:List (Nat × Nat)},lG va ws h=true↔∃d,(d,h)∈va∧d∈ws
 | []=>by simp [lG]
 | (d,k)::va=>by
  have ih:=mO (ws:=ws) (h:=h) (va:=va);unfold lG;split
  ·rename_i hb;simp only [Bool.and_eq_true] at hb;have:=Nat.eq_of_beq_eq_true hb.1;subst this;simp only [true_iff];exact⟨d,.head _,nE.1 hb.2⟩
  ·rename_i hb;rw [ih];constructor
   ·rintro⟨x,h1,h2⟩;exact⟨x,.tail _ h1,h2⟩
   ·rintro⟨x,h1,h2⟩;rcases List.mem_cons.1 h1 with h1|h1
    ·injection h1 with e1 e2;subst e1;subst e2;simp [nE.2 h2] at hb
    ·exact⟨x,h1,h2⟩
theorem Kp.mono{ws':List Nat}(hs:∀t∈ws,t∈ws')(h:Kp D ws β β' a a'):Kp D ws' β β' a a':=
 ⟨λt ht=>h.tmps t (λhm=>ht (hs t hm)),λx hx=>h.beta x (by
  cases hr:lG D.va ws x with
  | false=>rfl
  | true=>
   obtain⟨d,h1,h2⟩:=mO.1 hr;rw [mO.2 ⟨d,h1,hs d h2⟩] at hx;cases hx)⟩
theorem Kp.put(h:Kp D ws β β' a a')(hd:∀i,d=some i→i∈ws)(v:Value):Kp D ws β β' a (a'.put d v):=
 ⟨λt ht=>by
  rw [←h.tmps t ht];cases d with
  | none=>rfl
  | some i=>exact Array.getElem?_setIfInBounds_ne (λe:i=t=>ht (by rw [←e];exact hd i rfl)),h.beta⟩
theorem Kp.step(h:Kp D ws β β' a a')(hd:∀i,d=some i→i∈ws)(hb:∀k,(∀i,d=some i→nat? D.va i≠some k)→β'' k=β' k):Kp D ws β β'' a a':=
 ⟨h.tmps,λx hx=>(hb x (λi hi hn=>by
  rw [mO.2 ⟨i,nat?_mem hn,hd i hi⟩] at hx;cases hx)).trans (h.beta x hx)⟩
def Nx(D:Dc)(ws:List Nat)(β:Nat→Option Nat)(a:Act)(K:Env→TW→Prop)(a':Act)(v:World):Prop:=∃β' e w,w.w=v∧aW D β' e a' w∧K e w∧Kp D ws β β' a a'
theorem aai{β0:Nat→Option Nat}{a0:Act}(hA:aW D β e a w)(hk:Kp D ws β0 β a0 a)(hV:Vok D)(hE:mN P D.ext)(ho:∀i,o.dst=some i→i∈ws){K:Env→TW→Prop}{Q:Exit→Act→World→Prop}(h:dop P D o e w K):o.wp P a w.w (Nx D ws β0 a0 K) Q:=by
 unfold dop at h;split at h
 ·obtain⟨s,v,hK,hs,hy⟩:=tN hA h;obtain⟨e',hA',hK⟩:=iH hA hV hs hK;exact fS (hy _) ⟨β,e',w,rfl,hA',hK,hk.put ho v⟩
 ·obtain⟨s,v,cs,ks,hK,hs,hcs,hks,_,hy⟩:=qb hA h;obtain⟨e',hA',hK⟩:=iH hA hV hs hK;exact fS (hy _ hcs hks) ⟨β,e',w,rfl,hA',hK,hk.put ho v⟩
 ·refine Oper.wp_mono ?_ (tB hA hV hE h);rintro a' v' ⟨s,v,β',e',w',rfl,rfl,hK,hA',hs,_,hb⟩;cases s with
  | none=>
   simp only [SRo] at hs;exact⟨β',e',w',rfl,by rw [hs];exact hA',hK,(hk.step ho hb).put ho v⟩
  | some x=>
   obtain⟨e'',hA'',hK⟩:=iH hA' hV hs hK;exact⟨β',e'',w',rfl,hA'',hK,(hk.step ho hb).put ho v⟩
theorem pA(hV:Vok D)(hE:mN P D.ext){ops:Array Oper}{K:Env→TW→Prop}{Q:Exit→Act→World→Prop}{ws:List Nat}{β0:Nat→Option Nat}{a0:Act}(hQ:∀a v,Nx D ws β0 a0 K a v→Q .normal a v):
  ∀{os:List Oper} {β:Nat→Option Nat} {e:Env} {a:Act} {w:TW},(∀o∈os,∀i,o.dst=some i→i∈ws)→aW D β e a w→Kp D ws β0 β a0 a→vP P D ops.toList os e w K→wpList P ops Q os a w.w
 | [],β,e,a,w,_,hA,hk,h=>hQ _ _ ⟨β,e,w,rfl,hA,h,hk⟩
 | o::os,β,e,a,w,ho,hA,hk,h=>by
  unfold vP at h;obtain⟨e',hA',⟨hw,h⟩|⟨hw,h⟩⟩:=rA hA h
  ·unfold wpList;rw [if_pos hw];refine .inl (Oper.wp_mono ?_ (aai hA' hk hV hE (ho o (.head _)) h));rintro a' v' ⟨β',e'',w',rfl,hA'',hK,hk'⟩;exact pA hV hE hQ (λo' ho'=>ho o' (.tail _ ho')) hA'' hk' hK
  ·unfold wpList;rw [if_neg (by rw [hw];simp)];obtain⟨e'',hA'',h⟩:=iH (s:=.v undef) (v:=undef) hA' hV rfl h;exact pA hV hE hQ (λo' ho'=>ho o' (.tail _ ho')) hA'' (hk.put (ho o (.head _)) undef) h
theorem ru{ws:List Nat}:∀{e:Env} {t:Nat} {s:SV},(keep D ws e).get t=some s→s=.q∨(e.get t=some s∧t<D.N∧t ∉ ws∧∀h off,s=.p h off→lG D.va ws h=false)
 | [],t,s,h=>by simp [keep,Env.get] at h
 | (k,x)::e,t,s,h=>by
  unfold keep at h;split at h
  ·rename_i hb;rw [Env.get_cons] at h;by_cases hkt:k=t
   ·subst hkt;simp at h;subst h;unfold abU at hb;split at hb
    ·rename_i hb2;simp only [Bool.and_eq_true,Bool.not_eq_true'] at hb2;refine .inr ⟨by rw [Env.get_cons];simp,by simpa [Nat.blt_eq] using hb2.1,λhm=>?_,λh' off e'=>?_⟩
     ·rw [nE.2 hm] at hb2;simp at hb2
     ·subst e';simpa using hb
    ·cases hb
   ·rw [if_neg hkt] at h;rcases ru h with h|h
    ·exact .inl h
    ·refine .inr ?_;rw [Env.get_cons,if_neg hkt];exact h
  ·rw [Env.get_cons] at h;by_cases hkt:k=t
   ·rw [if_pos hkt] at h;injection h with h;exact .inl h.symm
   ·rw [if_neg hkt] at h;rcases ru h with h|h
    ·exact .inl h
    ·refine .inr ?_;rw [Env.get_cons,if_neg hkt];exact h
theorem uf:∀{ts:List (Nat × VT)} {vs:List Value} {e:Env} {t:Nat} {s:SV},(enter ts vs e).get t=some s→(∃v,s=.v v∧∃(i:Nat) (T:VT),ts[i]?=some (t,T)∧vs[i]?=some v)∨((∀(i:Nat) (T:VT),ts[i]?=some (t,T)→vs[i]?=none)∧e.get t=some s)
 | [],vs,e,t,s,h=>by simp [enter] at h;exact .inr ⟨smp,h⟩
 | (k,T)::ts,[],e,t,s,h=>by simp [enter] at h;exact .inr ⟨smp,h⟩
 | (k,T)::ts,v::vs,e,t,s,h=>by
  simp only [enter] at h;rw [Env.get_cons] at h;by_cases hkt:k=t
  ·subst hkt;simp at h;exact .inl ⟨v,h.symm,0,T,rfl,rfl⟩
  ·rw [if_neg hkt] at h;rcases uf h with ⟨u,h1,i,T',h2,h3⟩|⟨h1,h2⟩
   ·exact .inl ⟨u,h1,i+1,T',by simpa using h2,by simpa using h3⟩
   ·refine .inr ⟨λi T' hi=>?_,h2⟩;cases i with
    | zero=>simp at hi;exact absurd hi.1 hkt
    | succ i=>simpa using h1 i T' (by simpa using hi)
theorem tE{e:Env}:∀{ts:List (Nat × VT)} {vs:List Value},pM e ts=some vs→vs.length=ts.length∧∀(i k:Nat) (T:VT),ts[i]?=some (k,T)→∃v,vs[i]?=some v∧e.get k=some (.v v)
 | [],vs,h=>by simp [pM] at h;subst h;simp
 | (k,T)::ts,vs,h=>by
  unfold pM at h;split at h
  ·rename_i v us hv hus;injection h with h;subst h;obtain⟨h1,h2⟩:=tE hus;refine⟨by simp [h1],λi k' T' hi=>?_⟩;cases i with
   | zero=>simp at hi;obtain⟨rfl,rfl⟩:=hi;exact⟨v,rfl,hv⟩
   | succ i=>exact h2 i k' T' (by simpa using hi)
  ·cases h
theorem acL{c:CK}{x:CV c}(h:CV.dec c v=some x):CV.enc c x=v:=by
 cases c<;>cases v<;>simp [CV.dec] at h<;>simp [CV.enc]<;>first|exact h.symm|(obtain⟨rfl,rfl⟩:=h;exact⟨rfl,rfl⟩)|(subst h;simp)|(simp [←h])
theorem ui:∀{cs:List CK} {vs:List Value} {x:HL cs},rB cs vs=some x→aM cs x=vs
 | [],[],x,h=>rfl
 | [],v::vs,x,h=>by simp [rB] at h
 | c::cs,[],x,h=>by simp [rB] at h
 | c::cs,v::vs,x,h=>by
  unfold rB at h;split at h
  ·rename_i y z hy hz;injection h with h;subst h;simp [aM,acL hy,ui hz]
  ·cases h
theorem mK:∀{ts:List VT} {vs l:List Value},jB ts vs=some l→oc ts l=vs
 | [],[],l,h=>rfl
 | [],v::vs,l,h=>by simp [jB] at h
 | .one c::ts,[],l,h=>by simp [jB] at h
 | .agg cs::ts,[],l,h=>by simp [jB] at h
 | .one c::ts,v::vs,l,h=>by
  unfold jB at h;split at h
  ·rename_i l' hl;injection h with h;subst h;simp [oc,mK hl]
  ·cases h
 | .agg cs::ts,v::vs,l,h=>by
  cases v
  case agg a=>
   simp only [jB] at h;split at h
   ·rename_i l' hb hl;injection h with h;subst h;have hb:=Nat.eq_of_beq_eq_true hb;simp only [oc];rw [List.take_left' hb,List.drop_left' hb,mK hl]
   ·cases h
  all_goals simp [jB] at h
theorem pr(hV:Vok D){e':Env}{w w':TW}(hA:aW D β e a w)(hA':aW D β' e' a' w')(hk:Kp D ws β β' a a'){ts:List (Nat × VT)}{vs:List Value}(hv:pM e' ts=some vs):
  aW D β' (enter ts vs (keep D ws e)) a' w':=by
 obtain⟨hl,hv⟩:=tE hv
 have key:∀{t s},(enter ts vs (keep D ws e)).get t=some s→(∃v,s=.v v∧e'.get t=some (.v v))∨s=.q∨(e.get t=some s∧t<D.N∧t ∉ ws∧∀h off,s=.p h off→lG D.va ws h=false):=by
  intro t s h;rcases uf h with ⟨v,h1,i,T,h2,h3⟩|⟨_,h2⟩
  ·obtain⟨v',h4,h5⟩:=hv i t T h2;rw [h3] at h4;injection h4 with h4;subst h4;exact .inl ⟨v,h1,h5⟩
  ·exact .inr (ru h2)
 refine⟨hA'.defers,hA'.size,hA'.le,?_,?_,?_,hA'.inj⟩
 ·intro t v ht hg;rcases key hg with ⟨u,h1,h2⟩|h1|⟨h1,h2,h3,_⟩
  ·injection h1 with h1;subst h1;exact hA'.val t v ht h2
  ·cases h1
  ·rw [hk.tmps t h3];exact hA.val t v h2 h1
 ·intro t h off hg;rcases key hg with ⟨u,h1,h2⟩|h1|⟨h1,h2,h3,h4⟩
  ·cases h1
  ·cases h1
  ·obtain⟨b,hb,hp⟩:=hA.ptr t h off h1;exact⟨b,(hk.beta h (h4 h off rfl)).trans hb,λht=>(hk.tmps t h3).trans (hp ht)⟩
 ·intro h b hb;obtain⟨n,cs,T,h1,h2,h3,h4,h5⟩:=hA'.cell h b hb;refine⟨n,cs,T,h1,h2,h3,h4,λi v hi hg=>?_⟩;rcases key hg with ⟨u,q1,q2⟩|q1|⟨_,q2,_,_⟩
  ·injection q1 with q1;subst q1;exact h5 i v hi q2
  ·cases q1
  ·have:=hV.lo h n h1;omega
end
end
section
section
variable {P:Program} {D:Dc} {ops:Array Oper} {Q:Exit→Act→World→Prop}
def lW(w:World)(rc:List (Addr × Value)):Prop:=∀x∈rc,w.cell? x.1=some x.2
abbrev Lk:=List (Nat × List (Addr × Value))
def later(ops:Array Oper)(j:Nat)(L:Lk):Lk:=L.filter λx=>!oT ops.toList j x.1
def iy(P:Program)(ops:Array Oper)(Q:Exit→Act→World→Prop):Nat→Lk→Array Bool→Act→World→Prop
 | 0,_,listed,a,w=>Region.ready .any ops listed=[]∧Q .normal a w
 | fuel+1,L,listed,a,w=>
  (Region.ready .any ops listed=[]→Q .normal a w)∧
  ∀j∈Region.ready .any ops listed,wpOp P ops Q j (λa' w'=>(∀x∈later ops j L,lW w' x.2)∧iy P ops Q fuel (later ops j L) (listed.setIfInBounds j true) a' w') a w
theorem rJ:∀(fuel:Nat) (L:Lk) (listed:Array Bool) (a:Act) (w:World),iy P ops Q fuel L listed a w→wpAny P .any ops Q fuel listed a w
 | 0,_,_,_,_,h=>h
 | fuel+1,_,_,_,_,h=>⟨h.1,λj hj=>wpOp_mono (λa' w' h'=>rJ fuel _ _ a' w' h'.2) (h.2 j hj)⟩
theorem ox:∀(fuel:Nat) (x:Nat × List (Addr × Value)) (L:Lk) (listed:Array Bool) (a:Act) (w:World),iy P ops Q fuel (x::L) listed a w→iy P ops Q fuel L listed a w
 | 0,_,_,_,_,_,h=>h
 | fuel+1,x,L,listed,a,w,h=>⟨h.1,λj hj=>wpOp_mono (λa' w' h'=>by
   by_cases hx:oT ops.toList j x.1=true
   ·have e:later ops j (x::L)=later ops j L:=by simp [later,hx]
    rw [e] at h';exact h'
   ·have e:later ops j (x::L)=x::later ops j L:=by simp [later,hx]
    rw [e] at h';exact⟨λy hy=>h'.1 y (.tail _ hy),ox fuel x _ _ _ _ h'.2⟩) (h.2 j hj)⟩
theorem nh{i:Nat}{oi:Oper}{v:Value}{rc:List (Addr × Value)}(hi:ops[i]?=some oi)(hsel:∀(j:Nat) (o:Oper) cs b,ops[j]?=some o→o.op≠.select cs b)(hQ:∀c a w,Q (.panic c) a w→False):
  ∀(fuel:Nat) (L:Lk) (listed:Array Bool) (a:Act) (w:World),
   (∀j oj,ops[j]?=some oj→j≠i→listed.getD j true=false→(∀e∈oj.after,Region.binds .any e=true→e.on≠i)→oi.apart ops oj=true)→
   i∈Region.ready .any ops listed→YieldsIf P ops (λw=>lW w rc) oi v a→lW w rc→(∀x∈L,lW w x.2)→
   iy P ops Q fuel ((i,rc)::L) (listed.setIfInBounds i true) (a.put oi.dst v) w→iy P ops Q (fuel+1) L listed a w:=by
 intro fuel;induction fuel with
 | zero=>
  intro L listed a w _ hr hy hS hL H;refine⟨λh=>(by rw [h] at hr;cases hr),λj hj=>?_⟩;by_cases hji:j=i
  ·subst hji;exact hy.wpOp hi hS ⟨λx hx=>hL x ((List.mem_filter.1 hx).1),H⟩
  ·have:=ready_mono hj hji;rw [H.1] at this;cases this
 | succ fuel ih=>
  intro L listed a w hfree hr hy hS hL H;refine⟨λh=>(by rw [h] at hr;cases hr),λj hj=>?_⟩;by_cases hji:j=i
  ·subst hji;refine hy.wpOp hi hS ⟨λx hx=>hL x ((List.mem_filter.1 hx).1),?_⟩
   have h1:∀(f:Nat) (K L:Lk) (l:Array Bool) (a:Act) (w:World),iy P ops Q f (K++L) l a w→iy P ops Q f L l a w:=by
    intro f K;induction K with
    | nil=>exact λ_ _ _ _ h=>h
    | cons x K ihK=>exact λL l a w h=>ihK L l a w (ox f x _ l a w h)
   have h2:∀(f:Nat) (L:Lk) (p:Nat × List (Addr × Value)→Bool) (l:Array Bool) (a:Act) (w:World),iy P ops Q f L l a w→iy P ops Q f (L.filter p) l a w:=by
    intro f;induction f with
    | zero=>exact λ_ _ _ _ _ h=>h
    | succ f ihf=>
     intro L p l a w h;refine⟨h.1,λj hj=>wpOp_mono (λa' w' h'=>?_) (h.2 j hj)⟩;have e:later ops j (L.filter p)=(later ops j L).filter p:=by simp [later,List.filter_filter,Bool.and_comm]
     rw [e];exact⟨λx hx=>h'.1 x ((List.mem_filter.1 hx).1),ihf _ p _ _ _ h'.2⟩
   exact h2 _ _ _ _ _ _ (ox _ _ _ _ _ _ H)
  ·have h1:=H.2 j (ready_mono hj hji);obtain⟨hjun,oj,hoj,hall⟩:=mem_ready.1 hj
   have hnot:∀e∈oj.after,Region.binds .any e=true→e.on≠i:=λe he hb heq=>by
    have h1:=hall e he hb;have h0:=(mem_ready.1 hr).1;rw [heq] at h1;rcases Nat.lt_or_ge i listed.size with h'|h'
    ·simp [h'] at h0 h1;rw [h0] at h1;cases h1
    ·simp [Array.getElem?_eq_none h'] at h1
   have hwt:oT ops.toList j i=false:=by
    have hoj':ops.toList[j]?=some oj:=by simpa using hoj
    simp only [oT,hoj'];rw [List.any_eq_false];intro d hd;cases hb:Region.binds .any d with
    | false=>simp
    | true=>simpa using hnot d (by simpa using hd) hb
   have e:later ops j ((i,rc)::L)=(i,rc)::later ops j L:=by simp [later,hwt]
   rw [e] at h1;have h2:=wpOp_putIf hoj (hfree j oj hoj hji hjun hnot) (λcs b=>hsel i oi cs b hi) (λcs b=>hsel j oj cs b hoj) (λc a w h=>(hQ c _ w h).elim) hy h1
   have hfree':∀k ok,ops[k]?=some ok→k≠i→(listed.setIfInBounds j true).getD k true=false→
     (∀e∈ok.after,Region.binds .any e=true→e.on≠i)→oi.apart ops ok=true:=λk ok hk hki hun hno=>by
    refine hfree k ok hk hki ?_ hno;by_cases hjk:j=k
    ·subst hjk;exact hjun
    ·rw [getD_set_ne true hjk] at hun;exact hun
   refine wpOp_mono (λa' w' h3=>⟨λx hx=>h3.2.1 x (.tail _ hx),ih (later ops j L) (listed.setIfInBounds j true) a' w' hfree' (ready_mono hr (Ne.symm hji)) h3.1 (h3.2.1 (i,rc) (.head _)) (λx hx=>h3.2.1 x (.tail _ hx)) ?_⟩) h2;rw [Array.setIfInBounds_comm _ _ hji];exact h3.2.2
end
end
section
variable {β:Nat→Option Nat} {w:World} {L:Lk} {o:Oper}
section
variable {P:Program} {D:Dc} {ops:Array Oper} {Q:Exit→Act→World→Prop}
structure adO (D:Dc) (β:Nat→Option Nat) (w:World) (t:Tk) (x:Nat × List (Addr × Value)):Prop where
 i:x.1=t.i
 cells:x.2=t.cells++t.keys.map λk=>(⟨(β k.1).getD 0,k.2.1,none⟩,k.2.2)
 keys:∀k∈t.keys,(∃b,β k.1=some b)∧k.2.1<(nat? D.vb k.1).getD 0
 holds:lW w x.2
inductive kR (D:Dc) (β:Nat→Option Nat) (w:World):List Tk→Lk→Prop
 | nil:kR D β w [] []
 | cons {t:Tk} {x:Nat × List (Addr × Value)} {T:List Tk} {L:Lk}:adO D β w t x→kR D β w T L→kR D β w (t::T) (x::L)
theorem kR.holds{T:List Tk}(h:kR D β w T L):∀x∈L,lW w x.2:=by
 induction h with
 | nil=>simp
 | cons h _ ih=>intro x hx;rcases List.mem_cons.1 hx with rfl|hx;exact h.holds;exact ih x hx
theorem kR.later{T:List Tk}(h:kR D β w T L)(j:Nat):kR D β w (oh ops.toList j T) (Zg.later ops j L):=by
 induction h with
 | nil=>exact .nil
 | @cons t x T L h hs ih=>
  unfold oh;cases hw:oT ops.toList j t.i with
  | true=>simpa [Zg.later,h.i,hw] using ih
  | false=>
   have:Zg.later ops j (x::L)=x::Zg.later ops j L:=by simp [Zg.later,h.i,hw]
   rw [this];exact .cons h ih
theorem kR.step{β':Nat→Option Nat}{w':World}{T:List Tk}(h:kR D β w T L)(hc:∀x∈vW T,w'.cell? x.1=some x.2)(hk:∀k∈yi T,∀b,β k.1=some b→k.2.1<(nat? D.vb k.1).getD 0→w.cell? ⟨b,k.2.1,none⟩=some k.2.2→β' k.1=some b∧w'.cell? ⟨b,k.2.1,none⟩=some k.2.2):kR D β' w' T L:=by
 induction h with
 | nil=>exact .nil
 | @cons t x T L h hs ih=>
  refine .cons ?_ (ih (λx hx=>hc x (List.mem_append_right _ hx)) (λk hx=>hk k (List.mem_append_right _ hx)));have hold:=h.holds
  have hkey:∀k∈t.keys,∃b,β k.1=some b∧β' k.1=some b∧w'.cell? ⟨b,k.2.1,none⟩=some k.2.2:=λk hkm=>by
   obtain⟨⟨b,hb⟩,ho⟩:=h.keys k hkm
   have hcell:w.cell? ⟨b,k.2.1,none⟩=some k.2.2:=by
    have:=hold (⟨(β k.1).getD 0,k.2.1,none⟩,k.2.2) (by rw [h.cells];exact List.mem_append_right _ (List.mem_map.2 ⟨k,hkm,rfl⟩));simpa [hb] using this
   have:=hk k (List.mem_append_left _ hkm) b hb ho hcell;exact⟨b,hb,this⟩
  refine⟨h.i,?_,λk hkm=>?_,?_⟩
  ·rw [h.cells];congr 1;refine List.map_congr_left λk hkm=>?_
   obtain⟨b,h1,h2,_⟩:=hkey k hkm;simp [h1,h2]
  ·obtain⟨b,h1,h2,_⟩:=hkey k hkm;exact⟨⟨b,h2⟩,(h.keys k hkm).2⟩
  ·intro y hy;rw [h.cells] at hy;rcases List.mem_append.1 hy with hy|hy
   ·exact hc y (List.mem_append_left _ hy)
   ·obtain⟨k,hkm,rfl⟩:=List.mem_map.1 hy;obtain⟨b,h1,h2,h3⟩:=hkey k hkm;simpa [h1] using h3
theorem abf{w:TW}{l:List (Addr × Value)}{K:Prop}(h:hld w l K):(∀x∈l,w.w.cell? x.1=some x.2)∧K:=by
 cases l with
 | nil=>exact⟨smp,h⟩
 | cons x xs=>exact h
theorem uv{e e':Env}{ks:List (Nat × Nat × Value)}(h:rl e e' ks=true):∀k∈ks,pq ((e'.take (e'.length-e.length)).map (·.1)) (k.1+k.2.1)=false:=by
 unfold rl at h;rw [List.all_eq_true] at h;intro k hk;simpa using h k hk
theorem sN:∀{l:List Nat} {K:Nat→Prop},yA l K→∀i∈l,K i
 | [],_,_=>by simp
 | [i],K,h=>by intro j hj;rw [List.mem_singleton] at hj;subst hj;exact h
 | i::j::is,K,h=>by
  intro k hk;rcases List.mem_cons.1 hk with rfl|hk
  ·exact h.1
  ·exact sN h.2 k hk
theorem mg:∀{l:List Nat} {i:Nat} {o:Oper},lf ops.toList l=some (i,o)→i∈l∧ops[i]?=some o∧kd o≠.loud
 | [],i,o,h=>by simp [lf] at h
 | k::l,i,o,h=>by
  unfold lf at h;split at h
  ·rename_i o' ho;split at h
   ·obtain⟨h1,h2⟩:=mg h;exact⟨.tail _ h1,h2⟩
   ·rename_i hk;simp only [Option.some.injEq,Prod.mk.injEq] at h;obtain⟨rfl,rfl⟩:=h;exact⟨.head _,by simpa using ho,hk⟩
  ·obtain⟨h1,h2⟩:=mg h;exact⟨.tail _ h1,h2⟩
theorem ov:∀(fuel i:Nat) (L:Lk) (listed:Array Bool) (a:Act) (w:World),iy P ops Q fuel L listed a w→iy P ops Q fuel ((i,[])::L) listed a w
 | 0,_,_,_,_,_,h=>h
 | fuel+1,i,L,listed,a,w,h=>⟨h.1,λj hj=>wpOp_mono (λa' w' h'=>by
   by_cases hx:oT ops.toList j i=true
   ·have e:later ops j ((i,[])::L)=later ops j L:=by simp [later,hx]
    rw [e];exact h'
   ·have e:later ops j ((i,[])::L)=(i,[])::later ops j L:=by simp [later,hx]
    rw [e];refine⟨λy hy=>?_,ov fuel i _ _ _ _ h'.2⟩;rcases List.mem_cons.1 hy with rfl|hy
    ·simp [lW]
    ·exact h'.1 y hy) (h.2 j hj)⟩
theorem uo:∀(f:Nat) (L:Lk) (p:Nat × List (Addr × Value)→Bool) (l:Array Bool) (a:Act) (w:World),iy P ops Q f L l a w→iy P ops Q f (L.filter p) l a w:=by
 intro f;induction f with
 | zero=>exact λ_ _ _ _ _ h=>h
 | succ f ihf=>
  intro L p l a w h;refine⟨h.1,λj hj=>wpOp_mono (λa' w' h'=>?_) (h.2 j hj)⟩;have e:later ops j (L.filter p)=(later ops j L).filter p:=by simp [later,List.filter_filter,Bool.and_comm]
  rw [e];exact⟨λx hx=>h'.1 x (List.mem_filter.1 hx).1,ihf _ p _ _ _ h'.2⟩
theorem vy{d:Nat}:∀{l:List Operand},vz d l=false→∀x∈l,x≠.tmp d
 | y::l,h,x,hx=>by
  unfold vz at h;rcases List.mem_cons.1 hx with rfl|hx
  ·rintro rfl;simp at h
  ·refine vy (l:=l) ?_ x hx;split at h
   ·split at h
    ·cases h
    ·exact h
   ·exact h
theorem mP{d:Nat}(h:qc ops o d=false):(o.looksAt ops).contains d=false:=by
 unfold qc at h;split at h
 ·cases h
 rename_i hm;rw [Bool.eq_false_iff,ne_eq,List.contains_iff_mem];unfold Oper.looksAt;intro hd;rcases List.mem_append.1 hd with hd|hd
 ·obtain⟨x,hx,hy⟩:=List.mem_filterMap.1 hd;split at hy
  ·simp only [Option.some.injEq] at hy;subst hy;exact vy hm _ hx rfl
  ·cases hy
 ·cases hg:o.guard with
  | none=>rw [hg] at hd;simp at hd
  | some p=>
   obtain⟨g,b⟩:=p;rw [hg] at hd h;simp only at hd h;cases ho:ops[g]? with
   | none=>rw [ho] at hd;simp at hd
   | some og=>
    rw [ho] at hd h;simp only at h;cases ht:og.dst with
    | none=>simp [ht] at hd
    | some t=>
     rw [ht] at h;simp [ht] at hd;subst hd;simp at h
theorem wa{x y:Oper}(h:wb ops x y=true):x.apart ops y=true:=by
 unfold wb at h;unfold Oper.apart;cases hx:x.dst with
 | none=>
  rw [hx] at h;cases hy:y.dst with
  | none=>rfl
  | some d'=>
   rw [hy] at h;simp only [Bool.not_eq_true'] at h;simp only [mP h,Bool.not_false,Bool.and_true]
 | some d=>
  rw [hx] at h;simp only at h;split at h
  ·cases h
  rename_i hl;cases hy:y.dst with
  | none=>
   simp only [mP hl,Bool.not_false,Bool.true_and,Bool.and_true];rfl
  | some d'=>
   rw [hy] at h;simp only at h;split at h
   ·cases h
   rename_i hb;simp only [Bool.not_eq_true'] at h;have hne:d'≠d:=λe=>by subst e;simp at hb
   have h1:=mP hl;have h2:=mP h;show (!(Oper.looksAt ops y).contains d&&some d' != some d&&!(Oper.looksAt ops x).contains d')=true;rw [h1,h2];simp [hne]
theorem sw{ops:Array Oper}{x:Oper}{i:Nat}:∀{l:List Oper} {bl:List Bool},pu ops x i l bl=true→∀j y,l[j]?=some y→bl.getD j true=true∨okF ops x i y=true
 | [],_,_,j,y,hj=>by simp at hj
 | _::_,[],h,_,_,_=>by simp [pu] at h
 | z::l,b::bl,h,j,y,hj=>by
  have h':(b=true∨okF ops x i z=true)∧pu ops x i l bl=true:=by
   unfold pu at h;split at h
   ·exact⟨.inl rfl,h⟩
   ·split at h
    ·rename_i hk;exact⟨.inr hk,h⟩
    ·cases h
  cases j with
  | zero=>simp at hj;subst hj;simpa using h'.1
  | succ j=>simpa using sw h'.2 j y (by simpa using hj)
theorem sG{ops:Array Oper}{x:Oper}{i:Nat}:∀{k:Nat} {l:List Oper} {bl:List Bool},mQ ops x i k l bl=true→∀j y,l[j]?=some y→j≠k→bl.getD j true=true∨okF ops x i y=true
 | _,[],_,_,j,y,hj,_=>by simp at hj
 | _,_::_,[],h,_,_,_,_=>by simp [mQ] at h
 | 0,z::l,b::bl,h,j,y,hj,hk=>by
  unfold mQ at h;cases j with
  | zero=>exact absurd rfl hk
  | succ j=>simpa using sw h j y (by simpa using hj)
 | k+1,z::l,b::bl,h,j,y,hj,hk=>by
  have h':(b=true∨okF ops x i z=true)∧mQ ops x i k l bl=true:=by
   unfold mQ at h;split at h
   ·exact⟨.inl rfl,h⟩
   ·split at h
    ·rename_i hk;exact⟨.inr hk,h⟩
    ·cases h
  cases j with
  | zero=>simp at hj;subst hj;simpa using h'.1
  | succ j=>simpa using sG h'.2 j y (by simpa using hj) om
theorem yp{listed:Array Bool}{i:Nat}(hi:ops[i]?=some o)(h:mQ ops o i i ops.toList listed.toList=true):Region.free .any ops listed i=true:=by
 unfold Region.free;rw [hi];simp only [List.all_eq_true,List.mem_range];intro j hj;by_cases hji:j=i
 ·simp [hji]
 cases ho:ops[j]? with
 | none=>simp
 | some oj=>
  rcases sG h j oj (by rw [Array.getElem?_toList];exact ho) hji with h'|h'
  ·have:listed.getD j true=true:=by
    refine Eq.trans ?_ h';rw [Array.getD_eq_getD_getElem?,List.getD_eq_getElem?_getD,Array.getElem?_toList]
   simp [this]
  ·unfold okF at h';split at h'
   ·rename_i ha;simp [wa ha]
   ·have:(oj.after.any λe=>Region.binds .any e&&e.on == i)=true:=by
     refine Eq.trans ?_ h';simp
    simp [this]
theorem yw(hV:Vok D)(hE:mN P D.ext)(hs:Region.noSelect ops=true){K:Env→TW→Prop}{ws:List Nat}{β0:Nat→Option Nat}{a0:Act}(hQ:∀a v,Nx D ws β0 a0 K a v→Q .normal a v)(ho:∀(i:Nat) (o:Oper),ops[i]?=some o→∀d,o.dst=some d→d∈ws)(hP:∀c a w,Q (.panic c) a w→False):
  ∀(fuel:Nat) (listed:Array Bool) (T:List Tk) (L:Lk) (β:Nat→Option Nat) (e:Env) (a:Act) (w:TW),aW D β e a w→Kp D ws β0 β a0 a→kR D β w.w T L→nK P D ops fuel listed T e w K→iy P ops Q fuel L listed a w.w:=by
 intro fuel;induction fuel with
 | zero=>
  intro listed T L β e a w hA hkp hT h;unfold nK at h;rw [qx,show (⟨listed.toList⟩:Array Bool)=listed from rfl] at h;split at h
  ·rename_i hr;exact⟨hr,hQ _ _ ⟨β,e,w,rfl,hA,h,hkp⟩⟩
  ·exact h.elim
 | succ fuel ih=>
  intro listed T L β e a w hA hkp hT h;unfold nK at h;rw [qx,show (⟨listed.toList⟩:Array Bool)=listed from rfl] at h;split at h
  ·rename_i hr;exact⟨λ_=>hQ _ _ ⟨β,e,w,rfl,hA,h,hkp⟩,by rw [hr];simp⟩
  ·rename_i i0 is hr;split at h
   ·rename_i i o hfp;obtain⟨him,hio,hkd⟩:=mg hfp;split at h
    ·exact h.elim
    ·rename_i hfree;have hfree:=yp hio hfree;have hready:i∈Region.ready .any ops listed:=by rw [hr];exact him
     obtain⟨e',hA',⟨hw,h⟩|⟨hw,h⟩⟩:=rA hA h
     ·split at h
      ·obtain⟨s,v,cs,ks,hK,hsv,hcs,hks,hoff,hy⟩:=qb hA' h;obtain⟨e'',hA'',hK⟩:=iH hA' hV hsv hK
       have htk:adO D β w.w ⟨i,cs,ks⟩ (i,cs++ks.map λk=>(⟨(β k.1).getD 0,k.2.1,none⟩,k.2.2)):=by
        refine⟨rfl,rfl,λk hk=>?_,?_⟩
        ·obtain⟨b,hb,_⟩:=hks k hk;exact⟨⟨b,hb⟩,hoff k hk⟩
        ·intro x hx;rcases List.mem_append.1 hx with hx|hx
         ·exact hcs x hx
         ·obtain⟨k,hk,rfl⟩:=List.mem_map.1 hx;obtain⟨b,hb,hc⟩:=hks k hk;simpa [hb] using hc
       refine nh hio (Region.noSelect_spec hs) hP fuel L listed a w.w (Region.free_spec hio hfree) hready (v:=v) (.inl ⟨hw,λw' hw'=>hy w' (λx hx=>hw' x (List.mem_append_left _ hx)) (λk hk=>?_)⟩) htk.holds hT.holds (ih _ _ _ β e'' _ w hA'' (hkp.put (ho i o hio) v) (.cons htk hT) hK);obtain⟨b,hb,hc⟩:=hks k hk;have:=hw' (⟨(β k.1).getD 0,k.2.1,none⟩,k.2.2) (List.mem_append_right _ (List.mem_map.2 ⟨k,hk,rfl⟩));exact⟨b,hb,by simpa [hb] using this⟩
      ·obtain⟨s,v,hK,hsv,hy⟩:=tN hA' h;obtain⟨e'',hA'',hK⟩:=iH hA' hV hsv hK;refine nh (rc:=[]) hio (Region.noSelect_spec hs) hP fuel L listed a w.w (Region.free_spec hio hfree) hready (v:=v) (.inl ⟨hw,λw' _=>hy w'⟩) (by simp [lW]) hT.holds ?_;exact ov _ _ _ _ _ _ (ih _ T L β e'' _ w hA'' (hkp.put (ho i o hio) v) hT hK)
     ·obtain⟨e'',hA'',hK⟩:=iH (s:=.v undef) (v:=undef) hA' hV rfl h;refine nh (rc:=[]) hio (Region.noSelect_spec hs) hP fuel L listed a w.w (Region.free_spec hio hfree) hready (v:=undef) (.inr ⟨hw,rfl⟩) (by simp [lW]) hT.holds ?_;exact ov _ _ _ _ _ _ (ih _ T L β e'' _ w hA'' (hkp.put (ho i o hio) undef) hT hK)
   ·rename_i hfp;refine⟨λh0=>(by rw [hr] at h0;cases h0),λj hj=>?_⟩;rw [hr] at hj;have hj':=sN h j hj;split at hj'
    ·exact hj'.elim
    ·rename_i o hjo;unfold wpOp;rw [hjo];simp only;obtain⟨e',hA',⟨hw,h⟩|⟨hw,h⟩⟩:=rA hA hj'
     ·rw [if_pos hw];refine .inl (Oper.wp_mono ?_ (tB hA' hV hE h));rintro a' v' ⟨s,v,β',e'',w',rfl,rfl,hK,hA'',hsv,hkeep,hbe⟩;split at hK
      ·rename_i hkk;obtain⟨hc,hK⟩:=abf hK;have hT':=(hT.later (ops:=ops) j).step (β':=β') (w':=w'.w) hc (λk hk b hb ho hcell=>hkeep k.1 k.2.1 b k.2.2 hb ho (uv hkk k hk) hcell);refine⟨hT'.holds,?_⟩;cases s with
       | none=>
        simp only [SRo] at hsv;have hkp':=(hkp.step (ho j o hjo) hbe).put (ho j o hjo) v;rw [hsv] at hkp' ⊢;exact ih _ _ _ β' e'' _ w' hA'' hkp' hT' hK
       | some x=>
        obtain⟨e3,hA3,hK⟩:=iH hA'' hV hsv hK;exact ih _ _ _ β' e3 _ w' hA3 ((hkp.step (ho j o hjo) hbe).put (ho j o hjo) v) hT' hK
      ·exact hK.elim
     ·rw [if_neg (by rw [hw];simp)];obtain⟨e'',hA'',hK⟩:=iH (s:=.v undef) (v:=undef) hA' hV rfl h;exact⟨(hT.later (ops:=ops) j).holds,uo _ _ _ _ _ _ (ih _ T L β e'' _ w hA'' (hkp.put (ho j o hjo) undef) hT hK)⟩
end
end
section
variable {ws ws':List Nat} {β β':Nat→Option Nat} {a a' a'':Act} {K K' R:Env→TW→Prop} {v:World} {X:Nat→Env→TW→Prop} {ex:Exit} {e:Env} {w:TW} {fn:Func}
section
variable {P:Program} {D:Dc}
def Qd(D:Dc)(ws:List Nat)(β:Nat→Option Nat)(a:Act)(K:Env→TW→Prop)(X:Nat→Env→TW→Prop)(R:Env→TW→Prop):Exit→Act→World→Prop
 | .normal,a',v=>Nx D ws β a K a' v
 | .exit i,a',v=>Nx D ws β a (X i) a' v
 | .ret,a',v=>Nx D ws β a R a' v
 | _,_,_=>False
theorem Nx.mono(hs:∀t∈ws,t∈ws')(hK:∀e w,K e w→K' e w)(h:Nx D ws β a K a' v):Nx D ws' β a K' a' v:=
 let ⟨β',e,w,h1,h2,h3,h4⟩:=h;⟨β',e,w,h1,h2,hK _ _ h3,h4.mono hs⟩
theorem Nx.trans(hk:Kp D ws β β' a a')(h:Nx D ws β' a' K a'' v):Nx D ws β a K a'' v:=
 let ⟨β'',e,w,h1,h2,h3,h4⟩:=h;⟨β'',e,w,h1,h2,h3,hk.trans h4⟩
theorem Qd.mono(hs:∀t∈ws,t∈ws')(h:Qd D ws β a K X R ex a' v):Qd D ws' β a K X R ex a' v:=by
 cases ex<;>first|exact Nx.mono hs (λ_ _ h=>h) h|exact h.elim
theorem Qd.trans(hk:Kp D ws β β' a a')(h:Qd D ws β' a' K X R ex a'' v):Qd D ws β a K X R ex a'' v:=by
 cases ex<;>first|exact Nx.trans hk h|exact h.elim
theorem qf{ts:List (Nat × VT)}{J:Tel (fl (tys ts)) (TW→Prop)}(h:vE noW ts e J w):∃vs x,pM e ts=some vs∧oc (tys ts) (aM (fl (tys ts)) x)=vs∧app (fl (tys ts)) J x w:=by
 unfold vE at h;cases hv:pM e ts with
 | none=>rw [hv] at h;exact h.elim
 | some vs=>
  rw [hv] at h;simp only at h;cases hu:jB (tys ts) vs with
  | none=>rw [hu] at h;exact h.elim
  | some l=>
   rw [hu] at h;simp only at h;cases hd:rB (fl (tys ts)) l with
   | none=>rw [hd] at h;exact h.elim
   | some x=>
    rw [hd] at h;exact⟨vs,x,rfl,by rw [ui hd,mK hu],h⟩
theorem lO(hV:Vok D){t:Option (List (Nat × VT))}{A:(Env→TW→Prop)→Prop}{w:TW}(hA:aW D β e a w)(h:oI D t ws e A K):
  ∃K',A K'∧∀a' v,Nx D ws β a K' a' v→Nx D ws β a K a' v:=by
 unfold oI at h;split at h
 ·exact⟨K,h,λ_ _ h=>h⟩
 ·rename_i ts;obtain⟨J,hJ,hrest⟩:=h;rw [mh] at hrest;refine⟨_,hJ,?_⟩;rintro a' v ⟨β',e',w',rfl,hA',hK,hk⟩;obtain⟨vs,x,h1,h2,h3⟩:=qf hK;have hr:=hrest x w' h3;rw [nc] at hr;refine⟨β',px D ts x ws e,w',rfl,?_,hr,hk⟩;have:=pr hV hA hA' hk h1;unfold px;rw [h2];exact this
theorem ql:∀{os:List Oper} {o:Oper} {i:Nat},o∈os→o.dst=some i→i∈wrO os
 | [],_,_,ho,_=>by cases ho
 | o'::os,o,i,ho,hi=>by
  unfold wrO;rcases List.mem_cons.1 ho with rfl|ho
  ·rw [hi];exact .head _
  ·split
   ·exact .tail _ (ql ho hi)
   ·exact ql ho hi
def kQ:Code→Bool
 | .region _ ops _=>Region.noSelect ops
 | .seq a b=>kQ a&&kQ b
 | .cond _ a b=>kQ a&&kQ b
 | .block _ c=>kQ c
 | .loop c=>kQ c
 | _=>true
theorem wG(hV:Vok D)(hE:mN P D.ext){ops:Array Oper}(hs:Region.noSelect ops=true){Q:Exit→Act→World→Prop}(hQ:∀a' v,Nx D (wrO ops.toList) β a K' a' v→Q .normal a' v)(hP:∀c a w,Q (.panic c) a w→False)(hA:aW D β e a w)(h:nK P D ops ops.size (Array.replicate ops.size false) [] e w.drew K'):
  iy P ops Q ops.size [] (Array.replicate ops.size false) a { w.w with drawn:=w.w.drawn+1 }:=by
 have hA':aW D β e a w.drew:=hA.world (w':=w.drew) (λ_ _ _=>rfl) (Nat.le_refl _) (λ_ h=>h) rfl;exact yw hV hE hs hQ (λi o hi d hd=>ql (Array.mem_toList_iff.2 (Array.mem_of_getElem? hi)) hd) hP _ _ [] [] β e a w.drew hA' (Kp.refl _ _ _) .nil h
theorem nG{p:Nat→Prop}(h:∃m,p m):∃m,p m∧∀k,p k→m≤k:=by
 obtain⟨m,hm⟩:=h;induction m using Nat.strongRecOn with
 | _ m ih=>
  by_cases hk:∃k,k<m∧p k
  ·obtain⟨k,h1,h2⟩:=hk;exact ih k h1 h2
  ·exact⟨m,hm,λk hp=>Nat.le_of_not_lt λhlt=>hk ⟨k,hlt,hp⟩⟩
open Classical in
theorem kf(hV:Vok D)(hE:mN P D.ext)(hm:P.follows .mixedOrders=true):∀(c:Code),kQ c=true→∀(β:Nat→Option Nat) (e:Env) (a:Act) (w:TW) (K:Env→TW→Prop) (X:Nat→Env→TW→Prop) (R:Env→TW→Prop),
  aW D β e a w→den P D c e w K X R→c.wp P (Qd D (wr c) β a K X R) a w.w
 | .skip,_,β,e,a,w,K,X,R,hA,h=>wp_skip ⟨β,e,w,rfl,hA,h,Kp.refl _ _ _⟩
 | .region i ops false,_,β,e,a,w,K,X,R,hA,h=>by
  simp only [den] at h;obtain⟨K',hK',hj⟩:=lO hV hA h;exact wp_region_list (pA hV hE (λa' v hn=>hj a' v hn) (λo ho i hi=>ql ho hi) hA (Kp.refl _ _ _) hK')
 | .region i ops true,hs,β,e,a,w,K,X,R,hA,h=>by
  simp only [den] at h;obtain⟨K',hK',hj⟩:=lO hV hA h;refine wp_region_any hm (rJ _ [] _ _ _ ?_);have hs':Region.noSelect ops=true:=hs;exact wG hV hE hs' (λa' v hn=>hj a' v hn) (λc a w h=>h) hA hK'
 | .seq c d,hs,β,e,a,w,K,X,R,hA,h=>by
  simp only [den] at h;simp only [kQ,Bool.and_eq_true] at hs;refine wp_seq (wp_mono (kf hV hE hm c hs.1 β e a w _ X R hA h) ?_);intro ex a' v hq;cases ex with
  | normal=>
   obtain⟨β',e',w',rfl,hA',hK,hk⟩:=hq;refine wp_mono (kf hV hE hm d hs.2 β' e' a' w' K X R hA' hK) ?_;intro ex a'' v hq;exact (hq.mono (ws':=wr (.seq c d)) (λt ht=>List.mem_append_right _ ht)).trans (hk.mono (λt ht=>List.mem_append_left _ ht))
  | exit i=>exact Qd.mono (ex:=.exit i) (λt ht=>List.mem_append_left _ ht) hq
  | ret=>exact Qd.mono (ex:=.ret) (λt ht=>List.mem_append_left _ ht) hq
  | _=>exact hq.elim
 | .cond c t f,hs,β,e,a,w,K,X,R,hA,h=>by
  simp only [den] at h;simp only [kQ,Bool.and_eq_true] at hs;split at h
  ·rename_i x hx;obtain⟨K',hK',hj⟩:=lO hV hA h
   have fin:∀(d:Code),(∀i∈wr d,i∈wr (.cond c t f))→d.wp P (Qd D (wr d) β a K' X R) a w.w→d.wp P (Qd D (wr (.cond c t f)) β a K X R) a w.w:=λd hd hw=>wp_mono hw (λex a' v hq=>by
    have hq:=Qd.mono hd hq;cases ex with
    | normal=>exact hj a' v hq
    | _=>exact hq)
   cases x with
   | true=>exact wp_cond_true (am hA hx) (fin t (λi hi=>List.mem_append_left _ hi) (kf hV hE hm t hs.1 β e a w K' X R hA hK'))
   | false=>exact wp_cond_false (am hA hx) (fin f (λi hi=>List.mem_append_right _ hi) (kf hV hE hm f hs.2 β e a w K' X R hA hK'))
  ·exact h.elim
 | .block i c,hs,β,e,a,w,K,X,R,hA,h=>by
  simp only [den] at h;obtain⟨K',hK',hj⟩:=lO hV hA h;refine wp_block (wp_mono (kf hV hE hm c hs β e a w K' _ R hA hK') ?_);intro ex a' v hq;cases ex with
  | normal=>exact hj a' v hq
  | exit j=>
   simp only [Exit.inBlock];obtain⟨β',e',w',rfl,hA',hX,hk⟩:=hq;cases hb:Nat.beq j i with
   | true=>
    have:=Nat.eq_of_beq_eq_true hb;subst this;rw [hb] at hX;rw [if_pos rfl];exact hj a' _ ⟨β',e',w',rfl,hA',hX,hk⟩
   | false=>
    rw [hb] at hX;rw [if_neg (qj hb)];exact⟨β',e',w',rfl,hA',hX,hk⟩
  | ret=>exact hq
  | _=>exact hq.elim
 | .loop c,hs,β,e,a,w,K,X,R,hA,h=>by
  simp only [den] at h;split at h
  ·exact h.elim
  ·rename_i ts hts;obtain⟨vs,x,h1,h2,h3⟩:=qf h;unfold Lp at h3;rw [nc] at h3;obtain⟨I,⟨m,hI⟩,hstep⟩:=h3;let G:Nat→Act→World→Prop:=λm a' v=>∃β' w' x,w'.w=v∧aW D β' (px D ts x (wr c) e) a' w'∧app (fl (tys ts)) (I m) x w'∧Kp D (wr c) β β' a a'
   let μ:Act→World→Nat:=λa' v=>if h:∃m,G m a' v then Classical.choose (nG h) else 0
   have hμ:∀m a' v,G m a' v→μ a' v≤m:=λm a' v hg=>by
    have:∃m,G m a' v:=⟨m,hg⟩;simp only [μ,dif_pos this];exact (Classical.choose_spec (nG this)).2 m hg
   refine wp_loop (λa' v=>∃m,G m a' v) μ ⟨m,β,w,x,rfl,?_,hI,Kp.refl _ _ _⟩ ?_
   ·have:=pr hV hA hA (Kp.refl (wr c) β a) h1;unfold px;rw [h2];exact this
   ·intro a' v hg
    have hgm:G (μ a' v) a' v:=by
     simp only [μ,dif_pos hg];exact (Classical.choose_spec (nG hg)).1
    obtain⟨β',w',x',rfl,hA',hI',hk⟩:=hgm;have hst:=(mh _ _).1 (hstep (μ a' w'.w)) x' w' hI';rw [nc] at hst;refine wp_mono (kf hV hE hm c hs β' _ a' w' _ X R hA' hst) ?_;intro ex a'' v hq;cases ex with
    | normal=>
     obtain⟨β'',e'',w'',rfl,hA'',hC,hk'⟩:=hq;obtain⟨vs',y,q1,q2,q3⟩:=qf hC;rw [nc] at q3;obtain⟨m',hm',hI''⟩:=q3
     have hg':G m' a'' w''.w:=by
      refine⟨β'',w'',y,rfl,?_,hI'',hk.trans hk'⟩;have:=pr hV hA hA'' (hk.trans hk') q1;unfold px;rw [q2];exact this
     exact⟨⟨m',hg'⟩,Nat.lt_of_le_of_lt (hμ _ _ _ hg') hm'⟩
    | exit i=>exact Qd.trans (ex:=.exit i) hk hq
    | ret=>exact Qd.trans (ex:=.ret) hk hq
    | _=>exact hq.elim
 | .exit i,_,β,e,a,w,K,X,R,hA,h=>wp_exit ⟨β,e,w,rfl,hA,h,Kp.refl _ _ _⟩
 | .ret,_,β,e,a,w,K,X,R,hA,h=>wp_ret ⟨β,e,w,rfl,hA,h,Kp.refl _ _ _⟩
 | .rangeFunc ..,_,_,_,_,_,_,_,_,_,h=>h.elim
 | .scope _,_,_,_,_,_,_,_,_,_,h=>h.elim
 | .label _,_,_,_,_,_,_,_,_,_,h=>h.elim
 | .goto _,_,_,_,_,_,_,_,_,_,h=>h.elim
 | .refuse _,_,_,_,_,_,_,_,_,_,h=>h.elim
theorem wz{ty:TypeId}{x u:Value}{w:World}(h:((do pure (.value (←Instr.loadAt ty x)):Sem Next)).run P w=.ok (.value u) w):((do loadVar ty (←asAddr x):Sem Value)).run P w=.ok u w:=by
 cases x
 case pointer p=>
  cases p with
  | none=>simp [Instr.loadAt,Instr.sureAddr,stuck] at h
  | some ad=>
   simp only [Instr.loadAt,Instr.sureAddr,asAddr,Sem.run_bind,Sem.run_pure,Result.andThen_ok] at h ⊢;cases hq:(loadVar ty ad).run P w with
   | ok y w'=>rw [hq] at h;simp only [Result.andThen_ok,Result.ok.injEq,Next.value.injEq] at h;rw [h.1,h.2]
   | halt y w'=>rw [hq] at h;simp [Result.andThen] at h
 all_goals simp [Instr.loadAt,Instr.sureAddr,stuck] at h
theorem pQ{β:Nat→Option Nat}{e:Env}{a:Act}{w:TW}(hA:aW D β e a w):∀{rs:List ResultVar} {K:List Value→Prop},rvs P D e w rs K→∃vs,K vs∧vs.length=rs.length∧
  (rs.mapM (fun|.tmp t=>pure (a.tmps.getD t undef)|.cell t ty=>do loadVar ty (←asAddr (a.tmps.getD t undef)):ResultVar→Sem Value)).run P w.w=.ok vs w.w
 | [],K,h=>⟨[],h,rfl,rfl⟩
 | .tmp t::rs,K,h=>by
  simp only [rvs] at h;split at h
  ·rename_i v hv;obtain⟨vs,hK,hl,hr⟩:=pQ hA h;have hx:=dh hA hv;simp only [SVR,Act.eval] at hx;refine⟨v::vs,hK,by simp [hl],?_⟩;simp only [List.mapM_cons,Sem.run_bind,Sem.run_pure,Result.andThen_ok,hx];rw [hr];rfl
  ·exact h.elim
 | .cell t ty::rs,K,h=>by
  simp only [rvs] at h;obtain⟨s,v,cs,ks,hK,hs,hcs,hks,_,hy⟩:=qb hA h;have hrun:=hy w.w hcs hks;cases s with
  | v u=>
   simp only [SVR] at hs;subst hs;simp only at hK;obtain⟨vs,hK,hl,hr⟩:=pQ hA hK;refine⟨v::vs,hK,by simp [hl],?_⟩;have h3:=wz (P:=P) (x:=a.tmps.getD t undef) (ty:=ty) (u:=v) (w:=w.w) hrun;simp only [List.mapM_cons,Sem.run_bind,Sem.run_pure,Result.andThen_ok] at h3 ⊢;rw [h3];simp only [Result.andThen_ok];rw [hr];rfl
  | p h off=>exact hK.elim
  | q=>exact hK.elim
theorem wo(hA:aW D β e a w){R:Value→TW→Prop}(h:rvs P D e w fn.results.toList λvs=>R (ret vs) w):∃v,(results fn a.tmps).run P w.w=.ok v w.w∧R v w:=by
 obtain⟨vs,hR,hl,hr⟩:=pQ hA h;refine⟨ret vs,?_,hR⟩;unfold results;simp only [Sem.run_bind]
 have hm:(fn.results.mapM (fun|.tmp t=>pure (a.tmps.getD t undef)|.cell t ty=>do loadVar ty (←asAddr (a.tmps.getD t undef)):ResultVar→Sem Value)).run P w.w=.ok vs.toArray w.w:=by
  rw [Array.mapM_eq_mapM_toList];simp only [Sem.run_map];rw [hr];rfl
 refine Eq.trans (congrArg (λr:Result (Array Value)=>r.andThen λvs w'=>Sem.run P (pure (if h:vs.size=1 then vs[0] else .tuple vs)) w') hm) ?_;simp only [Result.andThen_ok,Sem.run_pure];cases vs with
 | nil=>rfl
 | cons x xs=>cases xs with
  | nil=>rfl
  | cons y ys=>rfl
theorem vY{f:FuncId}{c:Code}{as:List Value}{R:Value→TW→Prop}(hV:nT D.N D.vb=true)(hE:mN P D.ext)(hm:P.follows .mixedOrders=true)(hf:P.funcs[f]?=some fn)(hb:fn.body=some c)(hn:Nat.beq fn.ntmps D.N=true)(ha:Nat.ble as.length D.N=true)(hs:kQ c=true)(hB:w.B≤w.w.heap.size)(h:abv P D fn c as w R):
  Calls P f as.toArray w.w (λe w'=>∃v T',T'.w=w'∧e=.returned v∧R v T'):=by
 have hV:=Vok.of hV;have hn:=Nat.eq_of_beq_eq_true hn;have ha:=Nat.le_of_ble_eq_true ha;refine calls_of_wp hf hb ?_
 have hA:aW D (λ_=>none) (args 0 as) { tmps:=as.toArray++Array.replicate (fn.ntmps-as.toArray.size) undef,defers:=[] } w:=by
  have hargs:∀(l:List Value) (k t:Nat) (s:SV),(args k l).get t=some s→∃v,s=.v v∧k≤t∧l[t-k]?=some v:=by
   intro l;induction l with
   | nil=>intro k t s h;simp [args,Env.get] at h
   | cons v l ih=>
    intro k t s h;rw [args,Env.get_cons] at h;by_cases hkt:k=t
    ·subst hkt;simp at h;exact⟨v,h.symm,Nat.le_refl _,smp⟩
    ·rw [if_neg hkt] at h;obtain⟨u,h1,h2,h3⟩:=ih (k+1) t s h;refine⟨u,h1,om,?_⟩;rw [show t-k=(t-(k+1))+1 by omega];simpa using h3
  refine⟨rfl,by simp;omega,hB,?_,?_,smp,smp⟩
  ·intro t v ht hg;obtain⟨u,h1,_,h3⟩:=hargs as 0 t _ hg;injection h1 with h1;subst h1;simp only [Nat.sub_zero] at h3;have hlt:t<as.length:=(List.getElem?_eq_some_iff.1 h3).1;simp [Array.getElem?_append,hlt];exact (List.getElem?_eq_some_iff.1 h3).2
  ·intro t k off hg;obtain⟨u,h1,_⟩:=hargs as 0 t _ hg;cases h1
 refine wp_mono (kf hV hE hm c hs _ _ _ w _ _ _ hA h) ?_
 have fin:∀a v,Nx D (wr c) (λ_=>none) { tmps:=as.toArray++Array.replicate (fn.ntmps-as.toArray.size) undef,defers:=[] } (λe w=>rvs P D e w fn.results.toList λvs=>R (ret vs) w) a v→
   a.defers=[]∧∃x,(results fn a.tmps).run P v=.ok x v∧∃v' T',T'.w=v∧Ending.returned x=.returned v'∧R v' T':=by
  rintro a v ⟨β',e',w',rfl,hA',hK,_⟩;obtain⟨x,h1,h2⟩:=wo hA' hK;exact⟨hA'.defers,x,h1,x,w',rfl,rfl,h2⟩
 intro ex a v hq;cases ex with
 | normal=>exact fin a v hq
 | ret=>exact fin a v hq
 | exit i=>
  obtain⟨_,_,_,_,_,h,_⟩:=hq;exact h.elim
 | _=>exact hq.elim
end
end
section
variable {f:FuncId} {w:TW} {X:Nat→Prop} {rt:List VT}
section
variable {P:Program}
theorem mN.of{ext:List (Nat × Nat)}(h0:ext.all (λx=>match x.2 with
  | 0 => (P.funcs[x.1]?).any (λfn => fn.body.isSome && !(fn.name == "runtime.NumGoroutine"))
  | _=>true)=true)(fa fs:Nat)(ha:ext.all (λx=>match x.2 with
  | 1=>Nat.beq x.1 fa
  | _=>true)=true)(hs:ext.all (λx=>match x.2 with
  | 2=>Nat.beq x.1 fs
  | _=>true)=true)(h1 : ∃ fn, P.funcs[fa]? = some fn ∧ (fn.name == "runtime.NumGoroutine") = false ∧ fn.body.isNone = true ∧ Extern.findNext fn = none ∧ Extern.find fn = some add64Entry)(h2 : ∃ fn, P.funcs[fs]? = some fn ∧ (fn.name == "runtime.NumGoroutine") = false ∧ fn.body.isNone = true ∧ Extern.findNext fn = none ∧ Extern.find fn = some oU) : mN P ext := by
 rw [List.all_eq_true] at h0 ha hs;refine⟨λf hf=>h0 _ (nat?_mem hf),λf hf=>?_,λf hf=>?_⟩
 ·have:=Nat.eq_of_beq_eq_true (ha _ (nat?_mem hf));subst this;exact h1
 ·have:=Nat.eq_of_beq_eq_true (hs _ (nat?_mem hf));subst this;exact h2
def Rt(X:Nat→Prop)(rt:List VT)(K:Tel (fl rt) (TW→Prop))(w:TW)(v:Value)(T':TW):Prop:=∃x:HL (fl rt),v=qW rt x∧Ext X w.here T'∧app (fl rt) K x (T'.at w.B)
theorem aap{D:Dc}{fn:Func}{c:Code}{as:List Value}{K:Tel (fl rt) (TW→Prop)}(hE:mN P D.ext)(hm:P.follows .mixedOrders=true)(hf:P.funcs[f]?=some fn)(hb:fn.body=some c)(hok:(nT D.N D.vb&&Nat.beq fn.ntmps D.N&&Nat.ble as.length D.N&&kQ c)=true)(h:abv P D fn c as w.here (Rt X rt K w)):Ct P f as w X rt K:=by
 simp only [Bool.and_eq_true] at hok;refine Calls.mono (vY hok.1.1.1 hE hm hf hb hok.1.1.2 hok.1.2 hok.2 (w:=w.here) (Nat.le_refl _) h) ?_;rintro e w' ⟨v,T',rfl,rfl,x,rfl,hx,hK⟩;exact⟨x,T',rfl,rfl,hx,hK⟩
theorem Ext.back{T':TW}(h:Ext X w.here T'):Ext X w (T'.at w.B):=
 ⟨h.os,h.tape,h.output,h.size,rfl,h.sub,h.new,λk hk hx _=>h.block k hk hx (.inl hk),h.shape⟩
theorem gW{args:List Value}{Φ K:Tel (fl rt) (TW→Prop)}(h:Ct P f args w X rt Φ)(hX:∀b,X b→¬w.V b)(hK:qk (fl rt) (lam (fl rt) λx=>∀w',Ext X w w'→app (fl rt) Φ x w'→app (fl rt) K x w')):cl P f args w rt K:=by
 rw [mh] at hK;refine⟨X,hX,Calls.mono h ?_⟩;rintro e w' ⟨x,T',rfl,rfl,hx,hΦ⟩;exact⟨x,T',rfl,rfl,hx,hK x _ hx.back hΦ⟩
theorem cl0{args:List Value}{Φ K:Tel (fl rt) (TW→Prop)}(h:Ct P f args w aa rt Φ)(hK:qk (fl rt) (lam (fl rt) λx=>∀w',Ext aa w w'→app (fl rt) Φ x w'→app (fl rt) K x w')):cl P f args w rt K:=gW h (λ_ h=>h.elim) hK
end
abbrev I11:List CK:=[.int .i64,.int .i64,.int .i64,.int .i64,.int .i64,.int .i64,.int .i64,.int .i64,.int .i64,.int .i64,.int .i64]
end
end Go.Proofs.YtpbimnlggalnfaaGreatDoor.Zg
