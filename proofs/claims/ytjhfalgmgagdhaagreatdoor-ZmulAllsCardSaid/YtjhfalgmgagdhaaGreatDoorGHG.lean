/- A part of the proofs of this seat's laws: words, lemmas or contracts of its functions. -/
import Derived.Test.YtjhfalgmgagdhaaGreatDoorGA
import Derived.Test.YtjhfalgmgagdhaaGreatDoorGMA
import Derived.Test.YtjhfalgmgagdhaaGreatDoorGMB
import Derived.Test.YtjhfalgmgagdhaaGreatDoorGMD
import Derived.Test.YtjhfalgmgagdhaaGreatDoorGME
import Derived.Test.YtjhfalgmgagdhaaGreatDoorGKA
import Derived.Test.YtjhfalgmgagdhaaGreatDoorGKE
import Derived.Test.YtjhfalgmgagdhaaGreatDoorGIA
import Derived.Test.YtjhfalgmgagdhaaGreatDoorGKC
import Derived.Test.YtjhfalgmgagdhaaGreatDoorGHA
import Derived.Test.YtjhfalgmgagdhaaGreatDoorGB
import Derived.Test.YtjhfalgmgagdhaaGreatDoorGIB
import Derived.Test.YtjhfalgmgagdhaaGreatDoorGJA
import Derived.Test.YtjhfalgmgagdhaaGreatDoorGJB
import Derived.Test.YtjhfalgmgagdhaaGreatDoorGJC
import Derived.Test.YtjhfalgmgagdhaaGreatDoorGHD
import Derived.Test.YtjhfalgmgagdhaaGreatDoorGHE
import Derived.Test.YtjhfalgmgagdhaaGreatDoorGK
import Derived.Test.YtjhfalgmgagdhaaGreatDoorGQ
import Derived.Test.YtjhfalgmgagdhaaGreatDoorGMC
import Derived.Test.YtjhfalgmgagdhaaGreatDoorGP
import Derived.Test.YtjhfalgmgagdhaaGreatDoorGP1
import Derived.Test.YtjhfalgmgagdhaaGreatDoorGP2
import Derived.Test.YtjhfalgmgagdhaaGreatDoorGP3
import Derived.Test.YtjhfalgmgagdhaaGreatDoorGP4
import Derived.Test.YtjhfalgmgagdhaaGreatDoorGP5
import Derived.Test.YtjhfalgmgagdhaaGreatDoorGS
import Derived.Test.YtjhfalgmgagdhaaGreatDoorGC
set_option linter.unusedVariables false
set_option linter.unusedSimpArgs false
set_option linter.unnecessarySimpa false
section
namespace Go.Proofs.YtjhfalgmgagdhaaGreatDoor.Zg
open Go.RowKit
theorem fm_take {α:Type} {f:α→List Value} {k:Nat} (hf:∀x,(f x).length=k):∀(l:List α) (n:Nat),(l.flatMap f).take (k*n)=(l.take n).flatMap f
 | l,0=>by simp
 | [],n+1=>by simp
 | x::l,n+1=>by
  rw [List.flatMap_cons,List.take_succ_cons,List.flatMap_cons,←fm_take hf l n,List.take_append,hf,List.take_of_length_le (by rw [hf,Nat.mul_add];omega),show k*(n+1)-k=k*n by rw [Nat.mul_add];omega]
theorem fm_drop {α:Type} {f:α→List Value} {k:Nat} (hf:∀x,(f x).length=k):∀(l:List α) (n:Nat),(l.flatMap f).drop (k*n)=(l.drop n).flatMap f
 | l,0=>by simp
 | [],n+1=>by simp
 | x::l,n+1=>by
  rw [List.flatMap_cons,List.drop_succ_cons,←fm_drop hf l n,List.drop_append,hf,List.drop_of_length_le (by rw [hf,Nat.mul_add];omega),show k*(n+1)-k=k*n by rw [Nat.mul_add];omega,List.nil_append]
theorem Rdv.cutk {α:Type} {f:α→List Value} {k:Nat} (hf:∀x,(f x).length=k) (hk:0<k) {w:TW} {s:Sl} {ts:List α} (h:Rdv w k s (ts.flatMap f)) {lo hi:Nat} (h1:lo≤hi) (h2:hi≤ts.length):Rdv w k (s.cut lo hi k) (((ts.take hi).drop lo).flatMap f):=by
 have hl:=h.lenk hf hk
 obtain ⟨h3,h4,h5,h6⟩:=h
 refine ⟨by rw [fm_len hf,Nat.mul_comm,show ((ts.take hi).drop lo).length=hi-lo by simp;omega];rfl,by simp only [Sl.cut];omega,by simp only [Sl.cut];omega,fun hne=>?_⟩
 have hlt:lo<hi:=by
  rcases Nat.lt_or_ge lo hi with h|h
  ·exact h
  ·exfalso;apply hne;rw [List.drop_of_length_le (by simp;omega)];rfl
 obtain ⟨b,o,hp,hV,hcell⟩:=h6 (fun e=>by have:=congrArg List.length e;rw [fm_len hf,List.length_nil] at this;have:=Nat.mul_pos hk (show 0<ts.length by omega);omega)
 refine ⟨b,o+k*lo,?_,hV,fun j v hj=>?_⟩
 ·simp only [Sl.cut]
  rw [if_neg (by omega),hp]
  simp only [Option.map_some,addp,Nat.mul_comm]
 ·rw [Nat.add_assoc]
  refine hcell (k*lo+j) v ?_
  rw [←fm_drop hf,←fm_take hf,List.getElem?_drop,List.getElem?_take] at hj
  split at hj
  ·exact hj
  ·cases hj
end Go.Proofs.YtjhfalgmgagdhaaGreatDoor.Zg
end
