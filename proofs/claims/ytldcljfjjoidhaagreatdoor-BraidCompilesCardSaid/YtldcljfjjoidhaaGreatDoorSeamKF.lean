/- Plain laws: the law of rounds. -/
import Derived.Test.YtldcljfjjoidhaaGreatDoorSeamKE
import Derived.Test.YtldcljfjjoidhaaGreatDoorBraTh
set_option linter.all false
namespace Go.Proofs.YtldcljfjjoidhaaGreatDoor
open Go Go.Am Go.Sort
open List (map)
open Int (toNat)
open Go.IntKind (wrap)
open Go.Am.aR (fits)
set_option maxRecDepth 100000
section
variable {N:Nat} (hN:fL N)
include hN
theorem HZ (l:List dv):T19 N l=some (dA l):=by
 rw [Xe]
 simp only [List.length_map]
 unfold dA
 by_cases h:l.length > 4096
 ·have h':(l.length:Int) > 4096:=by omega
  simp [h,h']
 ·have h':¬ (l.length:Int) > 4096:=by omega
  have key:=iW (rd:=zL N l) ((List.range l.length).map (Em l)) (fun k hk=>by
   have hk:k < l.length:=by simpa using hk
   obtain ⟨a1,a2⟩:=gl l hk
   rw [List.getElem_map,List.getElem_range]
   have e1:l.getD k (0,0,0)=l[k]:=by simp [hk]
   unfold Em
   rw [e1]
   have q1:M4 N (l[k].1,l[k].2.1,l[k].2.2)=_:=Sp N l[k]
   have q2:M5 N (l[k].1,l[k].2.1,l[k].2.2)=_:=Sq N l[k]
   have q3:uI N ((qH l[k]).1,(qH l[k]).2)=_:=ny N (qH l[k])
   have q4:uI N ((Ap l[k]).1,(Ap l[k]).2)=_:=ny N (Ap l[k])
   have q5:(((bif (aV (qH l[k]) == 0) then (bif (l[k].2.2 != 1) then (some (l[k].2.2 != (-1))) else (some false)) else (some false)):Option Bool).bind fun o4=>((((bif o4 then (some 13) else (some (aV (qH l[k])))):Option Int)).bind fun o5=>(((bif (o5 == 0) then some (aV (Ap l[k])) else (some o5)):Option Int))))=some (ky l[k]):=by
    unfold ky
    by_cases h0:aV (qH l[k])=0
    ·by_cases h1:l[k].2.2=1
     ·simp [h0,h1]
     ·by_cases h2:l[k].2.2=-1
      ·simp [h0,h2]
      ·have b1:(l[k].2.2 != 1)=true:=bne_iff_ne.2 h1
       have b2:(l[k].2.2 != -1)=true:=bne_iff_ne.2 h2
       simp [h0,h1,h2,b1,b2]
    ·have hb:(aV (qH l[k]) == 0)=false:=beq_false_of_ne h0
     simp [h0,hb]
   have q6:∀ (F:Int→Option (Int ⊕ (Int ⊕ Unit))),((((bif (aV (qH l[k]) == 0) then (bif (l[k].2.2 != 1) then (some (l[k].2.2 != (-1))) else (some false)) else (some false)):Option Bool).bind fun o4=>((((bif o4 then (some 13) else (some (aV (qH l[k])))):Option Int)).bind fun o5=>(((bif (o5 == 0) then some (aV (Ap l[k])) else (some o5)):Option Int)).bind F)))=F (ky l[k]):=by
    intro F
    have:=congrArg (fun o:Option Int=>o.bind F) q5
    simp only [Option.bind_some] at this
    rw [← this]
    simp only [Option.bind_assoc]
   by_cases AF:k=0
   ·subst AF
    simp only [zL,List.length_map,Int.toNat_natCast,a1,a2,a8 hk,aB hk,Bool.and_self,cond_true,q1,q2,q3,q4,Option.bind_some,bE (show 0 < 9223372036854775807 by omega),show decide (((0:Nat):Int) > 0)=false from rfl,cond_false]
    rw [q6]
    by_cases h0:ky l[0]=0
    ·simp [h0]
    ·have hb:(ky l[0] != 0)=true:=bne_iff_ne.2 h0
     simp [h0,hb]
   ·have Ol:k - 1 < l.length:=by omega
    obtain ⟨b1,b2⟩:=gl l Ol
    have e2:l.getD (k - 1) (0,0,0)=l[k - 1]:=by simp [Ol]
    rw [e2]
    have ew:wrap .i64 ((k:Int) - 1)=((k - 1:Nat):Int):=by rw [gk (by omega)]; omega
    have hp:decide ((k:Int) > 0)=true:=decide_eq_true (by omega)
    have q7:T6 N ((l[k - 1].1,l[k - 1].2.1,l[k - 1].2.2),(l[k].1,l[k].2.1,l[k].2.2))=_:=Bn N l[k - 1] l[k]
    simp only [zL,List.length_map,Int.toNat_natCast,a1,a2,a8 hk,aB hk,Bool.and_self,cond_true,q1,q2,q3,q4,Option.bind_some,hp,ew,b1,b2,aB Ol,q7,bE (show k < 9223372036854775807 by omega)]
    rw [q6]
    by_cases h0:ky l[k]=0
    ·cases less l[k - 1] l[k] with
     | true=>simp [h0]
     | false=>simp [h0,show 0 < k by omega]
    ·have hb:(ky l[k] != 0)=true:=bne_iff_ne.2 h0
     simp [h0,hb]) (by
   rw [List.length_map,List.length_range]
   simp only [zL,List.length_map,bO,cond_false]) N (by unfold fL at hN; rw [List.length_map,List.length_range]; omega)
  rw [if_neg h]
  simp only [h',decide_false,cond_false,key,Option.bind_some]
  split <;> simp_all
end
end Go.Proofs.YtldcljfjjoidhaaGreatDoor
