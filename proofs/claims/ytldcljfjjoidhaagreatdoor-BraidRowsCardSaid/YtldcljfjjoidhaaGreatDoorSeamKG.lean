/- Plain laws: the law of rounds. -/
import Derived.Test.YtldcljfjjoidhaaGreatDoorSeamKF
import Derived.Test.YtldcljfjjoidhaaGreatDoorBraTh
set_option linter.all false
namespace Go.Proofs.YtldcljfjjoidhaaGreatDoor
open Go Go.Am Go.Sort
open List (map)
open Int (toNat)
open Go.IntKind (wrap)
open Go.Am.aO (fits)
set_option maxRecDepth 100000
section
variable {N:Nat} (hN:e7 N)
include hN
theorem GI (l:List aQ):X4 N l=some (dH l):=by
 rw [Uy]
 simp only [List.length_map]
 unfold dH
 by_cases h:l.length > 4096
 ·have h':(l.length:Int) > 4096:=by omega
  simp [h,h']
 ·have h':¬ (l.length:Int) > 4096:=by omega
  have key:=ul (rd:=ye N l) ((List.range l.length).map (Bn l)) (fun k hk=>by
   have hk:k < l.length:=by simpa using hk
   obtain ⟨a1,a2⟩:=eF l hk
   rw [List.getElem_map,List.getElem_range]
   have e1:l.getD k (0,0,0)=l[k]:=by simp [hk]
   unfold Bn
   rw [e1]
   have q1:sd N (l[k].1,l[k].2.1,l[k].2.2)=_:=sf N l[k]
   have q2:se N (l[k].1,l[k].2.1,l[k].2.2)=_:=sh N l[k]
   have q3:E8 N ((eP l[k]).1,(eP l[k]).2)=_:=z6 N (eP l[k])
   have q4:E8 N ((fD l[k]).1,(fD l[k]).2)=_:=z6 N (fD l[k])
   have q5:(((bif (bp (eP l[k]) == 0) then (bif (l[k].2.2 != 1) then (some (l[k].2.2 != (-1))) else (some false)) else (some false)):Option Bool).bind fun o4=>((((bif o4 then (some 13) else (some (bp (eP l[k])))):Option Int)).bind fun o5=>(((bif (o5 == 0) then some (bp (fD l[k])) else (some o5)):Option Int))))=some (gz l[k]):=by
    unfold gz
    by_cases h0:bp (eP l[k])=0
    ·by_cases h1:l[k].2.2=1
     ·simp [h0,h1]
     ·by_cases h2:l[k].2.2=-1
      ·simp [h0,h2]
      ·have b1:(l[k].2.2 != 1)=true:=bne_iff_ne.2 h1
       have b2:(l[k].2.2 != -1)=true:=bne_iff_ne.2 h2
       simp [h0,h1,h2,b1,b2]
    ·have hb:(bp (eP l[k]) == 0)=false:=beq_false_of_ne h0
     simp [h0,hb]
   have q6:∀ (F:Int→Option (Int ⊕ (Int ⊕ Unit))),((((bif (bp (eP l[k]) == 0) then (bif (l[k].2.2 != 1) then (some (l[k].2.2 != (-1))) else (some false)) else (some false)):Option Bool).bind fun o4=>((((bif o4 then (some 13) else (some (bp (eP l[k])))):Option Int)).bind fun o5=>(((bif (o5 == 0) then some (bp (fD l[k])) else (some o5)):Option Int)).bind F)))=F (gz l[k]):=by
    intro F
    have:=congrArg (fun o:Option Int=>o.bind F) q5
    simp only [Option.bind_some] at this
    rw [← this]
    simp only [Option.bind_assoc]
   by_cases G6:k=0
   ·subst G6
    simp only [ye,List.length_map,Int.toNat_natCast,a1,a2,aX hk,ay hk,Bool.and_self,cond_true,q1,q2,q3,q4,Option.bind_some,bN (show 0 < 9223372036854775807 by omega),show decide (((0:Nat):Int) > 0)=false from rfl,cond_false]
    rw [q6]
    by_cases h0:gz l[0]=0
    ·simp [h0]
    ·have hb:(gz l[0] != 0)=true:=bne_iff_ne.2 h0
     simp [h0,hb]
   ·have yY:k - 1 < l.length:=by omega
    obtain ⟨b1,b2⟩:=eF l yY
    have e2:l.getD (k - 1) (0,0,0)=l[k - 1]:=by simp [yY]
    rw [e2]
    have ew:wrap .i64 ((k:Int) - 1)=((k - 1:Nat):Int):=by rw [ki (by omega)]; omega
    have hp:decide ((k:Int) > 0)=true:=decide_eq_true (by omega)
    have q7:RQ N ((l[k - 1].1,l[k - 1].2.1,l[k - 1].2.2),(l[k].1,l[k].2.1,l[k].2.2))=_:=Aa N l[k - 1] l[k]
    simp only [ye,List.length_map,Int.toNat_natCast,a1,a2,aX hk,ay hk,Bool.and_self,cond_true,q1,q2,q3,q4,Option.bind_some,hp,ew,b1,b2,ay yY,q7,bN (show k < 9223372036854775807 by omega)]
    rw [q6]
    by_cases h0:gz l[k]=0
    ·cases less l[k - 1] l[k] with
     | true=>simp [h0]
     | false=>simp [h0,show 0 < k by omega]
    ·have hb:(gz l[k] != 0)=true:=bne_iff_ne.2 h0
     simp [h0,hb]) (by
   rw [List.length_map,List.length_range]
   simp only [ye,List.length_map,bJ,cond_false]) N (by unfold e7 at hN; rw [List.length_map,List.length_range]; omega)
  rw [if_neg h]
  simp only [h',decide_false,cond_false,key,Option.bind_some]
  split <;> simp_all
end
end Go.Proofs.YtldcljfjjoidhaaGreatDoor
