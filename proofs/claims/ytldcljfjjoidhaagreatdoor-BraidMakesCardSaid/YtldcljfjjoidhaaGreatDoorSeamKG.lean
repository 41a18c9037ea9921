/- Plain laws: the law of rounds. -/
import Derived.Test.YtldcljfjjoidhaaGreatDoorSeamKF
import Derived.Test.YtldcljfjjoidhaaGreatDoorSeamKE
import Derived.Test.YtldcljfjjoidhaaGreatDoorBraTh
set_option linter.all false
open List renaming length_map→aad
open Option renaming bind_some→aao
namespace Go.Proofs.YtldcljfjjoidhaaGreatDoor
open Go Go.Am Go.Sort
open List (map)
open Int (toNat)
open Go.IntKind (wrap)
open Go.Am.aO (fits)
set_option maxRecDepth 100000
section
variable {N:Nat} (hN:fC N)
include hN
theorem KN (l:List aF):T19 N l=some (dC l):=by
 rw [aaI];simp only [aad];unfold dC;by_cases h:l.length > 4096
 ·have h':(l.length:Int) > 4096:=by omega
  simp [h,h']
 ·have h':¬ (l.length:Int) > 4096:=by omega
  have key:=jz (rd:=Bg N l) ((List.range l.length).map (ED l)) (fun k hk=>by
   have hk:k < l.length:=by simpa using hk
   obtain ⟨a1,a2⟩:=gl l hk;rw [List.getElem_map,List.getElem_range];have e1:l.getD k (0,0,0)=l[k]:=by simp [hk]
   unfold ED;rw [e1];have q1:PW N (l[k].1,l[k].2.1,l[k].2.2)=_:=VE N l[k];have q2:PX N (l[k].1,l[k].2.1,l[k].2.2)=_:=VF N l[k];have q3:vQ N ((fO l[k]).1,(fO l[k]).2)=_:=oE N (fO l[k]);have q4:vQ N ((gK l[k]).1,(gK l[k]).2)=_:=oE N (gK l[k]);have q5:(((bif (aK (fO l[k]) == 0) then (bif (l[k].2.2 != 1) then (some (l[k].2.2 != (-1))) else (some false)) else (some false)):Option Bool).bind fun o4=>((((bif o4 then (some 13) else (some (aK (fO l[k])))):Option Int)).bind fun o5=>(((bif (o5 == 0) then some (aK (gK l[k])) else (some o5)):Option Int))))=some (gL l[k]):=by
    unfold gL;by_cases h0:aK (fO l[k])=0
    ·by_cases h1:l[k].2.2=1
     ·simp [h0,h1]
     ·by_cases h2:l[k].2.2=-1
      ·simp [h0,h2]
      ·have b1:(l[k].2.2 != 1)=true:=bne_iff_ne.2 h1;have b2:(l[k].2.2 != -1)=true:=bne_iff_ne.2 h2;simp [h0,h1,h2,b1,b2]
    ·have hb:(aK (fO l[k]) == 0)=false:=beq_false_of_ne h0;simp [h0,hb]
   have q6:∀ (F:Int→Option (Int ⊕ (Int ⊕ Unit))),((((bif (aK (fO l[k]) == 0) then (bif (l[k].2.2 != 1) then (some (l[k].2.2 != (-1))) else (some false)) else (some false)):Option Bool).bind fun o4=>((((bif o4 then (some 13) else (some (aK (fO l[k])))):Option Int)).bind fun o5=>(((bif (o5 == 0) then some (aK (gK l[k])) else (some o5)):Option Int)).bind F)))=F (gL l[k]):=by
    intro F;have:=congrArg (fun o:Option Int=>o.bind F) q5;simp only [aao] at this;rw [← this];simp only [Option.bind_assoc]
   by_cases Co:k=0
   ·subst Co;simp only [Bg,aad,Int.toNat_natCast,a1,a2,a7 hk,ay hk,Bool.and_self,cond_true,q1,q2,q3,q4,aao,bw (show 0 < 9223372036854775807 by omega),show decide (((0:Nat):Int) > 0)=false from rfl,cond_false];rw [q6];by_cases h0:gL l[0]=0
    ·simp [h0]
    ·have hb:(gL l[0] != 0)=true:=bne_iff_ne.2 h0;simp [h0,hb]
   ·have L8:k - 1 < l.length:=by omega
    obtain ⟨b1,b2⟩:=gl l L8;have e2:l.getD (k - 1) (0,0,0)=l[k - 1]:=by simp [L8]
    rw [e2];have ew:wrap .i64 ((k:Int) - 1)=((k - 1:Nat):Int):=by rw [fT (by omega)]; omega
    have hp:decide ((k:Int) > 0)=true:=decide_eq_true (by omega);have q7:XD N ((l[k - 1].1,l[k - 1].2.1,l[k - 1].2.2),(l[k].1,l[k].2.1,l[k].2.2))=_:=C8 N l[k - 1] l[k];simp only [Bg,aad,Int.toNat_natCast,a1,a2,a7 hk,ay hk,Bool.and_self,cond_true,q1,q2,q3,q4,aao,hp,ew,b1,b2,ay L8,q7,bw (show k < 9223372036854775807 by omega)];rw [q6];by_cases h0:gL l[k]=0
    ·cases less l[k - 1] l[k] with
     |true=>simp [h0]
     |false=>simp [h0,show 0 < k by omega]
    ·have hb:(gL l[k] != 0)=true:=bne_iff_ne.2 h0;simp [h0,hb]) (by
   rw [aad,List.length_range];simp only [Bg,aad,bO,cond_false]) N (by unfold fC at hN; rw [aad,List.length_range]; omega)
  rw [if_neg h];simp only [h',decide_false,cond_false,key,aao];split <;> simp_all
end
end Go.Proofs.YtldcljfjjoidhaaGreatDoor
