/- Plain laws: law 3,loads. -/
import Derived.Test.YtegoimldbgdeiaaSeamKD
import Derived.Test.YtegoimldbgdeiaaTrwT
set_option linter.all false
namespace Go.Proofs.Ytegoimldbgdeiaa
open Go Go.Am
set_option maxRecDepth 100000
theorem NK (l:List Ld) (x:Ld):List.map cq l++[AV.agg [AV.str x.1,AV.int .i64 x.2.1,AV.int .i64 x.2.2]]=List.map cq (l++[x]):=by rw [List.map_append]; rfl
theorem Qz:allFit (ah.fits og) ([]:List AV)=true:=rfl
theorem QA:List.map d28 ([]:List AV)=[]:=rfl
section
variable {N:Nat} (hN:hH N)
include hN
theorem NL (l:List Ld) (h:l.length≤66):∃ o,a6 (vx N l) N ([],0)=some o∧(o=.inl true∨o=.inr l):=by
 have key:=ir (rd:=vx N l) (S:=Unit) (Y:=Unit) l (fun _ k=>(l.take k,(k:Int))) (fun _ x=>if x.1.length > 60 then .inr () else .inl ()) (fun _=>.inr l) (fun _=>.inl true) (fun _ _=>True)
  (fun s k hk _=>by
   refine ⟨?_,fun _ _=>trivial⟩
   obtain ⟨e1,e2⟩:=NI l hk
   have ht:(l.take k).length=k:=by rw [List.length_take]; omega
   have zM:(l.take (k+1)).length=k+1:=by rw [List.length_take]; omega
   have d2:decide ((k+1) * 32≤140737488355328)=true:=decide_eq_true (by omega)
   have es:l.take k++[l[k]]=l.take (k+1):=by rw [List.take_add_one,List.getElem?_eq_getElem hk]; rfl
   simp only [vx,List.length_map,Int.toNat_natCast,e1,e2,bS (show k < 9223372036854775807 by omega),aX hk,aK hk,Bool.and_self,cond_true,Om,Option.bind_some,ht,d2,NK,es,Ew,Ex,zM,Bool.and_true,eq_self,decide_true]
   by_cases hn:l[k].1.length > 60
   ·have d:decide (((l[k].1.length:Nat):Int) > 60)=true:=by simp; omega
    rw [d,if_pos hn]; rfl
   ·have d:decide (((l[k].1.length:Nat):Int) > 60)=false:=by simp; omega
    rw [d,if_neg hn]; rfl)
  (fun _ _=>by
   simp only [vx,List.length_map,bN,cond_false,List.take_length,Ew,Ex,Bool.and_true,cond_true,Option.bind_some,eq_self,decide_true]) N () 0 (Nat.zero_le _) (by unfold hH at hN; omega) trivial
 refine ⟨_,key,?_⟩
 cases foldI (fun _ (x:Ld)=>if x.1.length > 60 then (.inr ():Unit ⊕ Unit) else .inl ()) () (l.drop 0) with
 | inl _=>exact .inr rfl
 | inr _=>exact .inl rfl
theorem Hf (l:List Ld) (a b:Int) :
  ((bif bO l == 0 then
       (On N l).bind fun Jw=>
        (bif decide (a < 1) then some (l,true)
          else
           bif decide (a > 1000000) then some (l,true)
           else bif decide (b < 1) then some (l,true) else some (l,decide (b > 10000))).bind
         fun mF=>
         bif mF.snd then some (mF.fst,3,Jw.fst,Jw.snd,0,0)
         else
          (Qv N (l,a,b)).bind fun NJ=>
           some (mF.fst,NJ.snd,Jw.fst,Jw.snd,NJ.fst.fst,NJ.fst.snd)
      else some (l,bO l,0,0,0,0):Option (List Ld × Int × Int × Int × Int × Int)).bind
     fun py=>
     (bif (if bO l=0 then fS l else 0) == py.snd.snd.fst then
        bif (if bO l=0 then fT l else 0) == py.snd.snd.snd.fst then
         bif bO l == bO l then
          bif (if bt [bO l,gV a 1 1000000,gV b 1 10000]=0 then Cr (fT l) (fS l) a b else ((0,0),bt [bO l,gV a 1 1000000,gV b 1 10000])).fst.fst == py.snd.snd.snd.snd.fst&&(if bt [bO l,gV a 1 1000000,gV b 1 10000]=0 then Cr (fT l) (fS l) a b else ((0,0),bt [bO l,gV a 1 1000000,gV b 1 10000])).fst.snd == py.snd.snd.snd.snd.snd then
           some ((if bt [bO l,gV a 1 1000000,gV b 1 10000]=0 then Cr (fT l) (fS l) a b else ((0,0),bt [bO l,gV a 1 1000000,gV b 1 10000])).snd == py.snd.fst,py.fst)
          else some (false,py.fst)
         else some (false,py.fst)
        else some (false,py.fst)
       else some (false,py.fst)).bind
      fun qL=>some qL.fst) =
  some true:=by
 by_cases hz:bO l=0
 ·have e1:(bO l == 0)=true:=by simp [hz]
  rw [e1,if_pos hz,if_pos hz,Dr hN l hz]
  simp only [cond_true,Option.bind_some,hz]
  by_cases hr:gV a 1 1000000=0∧gV b 1 10000=0
  ·have ha:1≤a∧a≤1000000:=by have h:=hr.1; unfold gV at h; split at h <;> omega
   have hb:1≤b∧b≤10000:=by have h:=hr.2; unfold gV at h; split at h <;> omega
   have f0:bt [0,gV a 1 1000000,gV b 1 10000]=0:=by rw [hr.1,hr.2]; rfl
   have c1:decide (a < 1)=false:=by simp; omega
   have c2:decide (a > 1000000)=false:=by simp; omega
   have c3:decide (b < 1)=false:=by simp; omega
   have c4:decide (b > 10000)=false:=by simp; omega
   rw [f0,c1,c2,c3,c4,if_pos rfl]
   simp only [cond_false,Option.bind_some,Jv hN l a b hz ha hb,beq_self_eq_true,Bool.and_self,cond_true]
  ·have f0:bt [0,gV a 1 1000000,gV b 1 10000]=3:=by
    have r1:∀ x lo hi:Int,gV x lo hi=0∨gV x lo hi=3:=fun x lo hi=>by unfold gV; split <;> simp
    rcases r1 a 1 1000000 with q1 | q1
    ·rcases r1 b 1 10000 with q2 | q2
     ·exact absurd ⟨q1,q2⟩ hr
     ·rw [q1,q2]; rfl
    ·rw [q1]; rfl
   have e3:(bif decide (a < 1) then some (l,true) else bif decide (a > 1000000) then some (l,true) else bif decide (b < 1) then some (l,true) else some (l,decide (b > 10000)):Option (List Ld × Bool))=some (l,true):=by
    unfold gV at hr
    by_cases c1:a < 1
    ·simp [c1]
    ·by_cases c2:a > 1000000
     ·simp [c2]
     ·by_cases c3:b < 1
      ·simp [c3]
      ·have c4:b > 10000:=by
        by_cases c4:b > 10000
        ·exact c4
        ·exact absurd ⟨if_neg (by omega),if_neg (by omega)⟩ hr
       simp [c4]
   rw [e3,f0,if_neg (by decide)]
   simp only [Option.bind_some,cond_true,beq_self_eq_true,Bool.and_self]
 ·have e1:(bO l == 0)=false:=LX hz
  have f0:bt [bO l,gV a 1 1000000,gV b 1 10000]=bO l:=by simp [bt,hz]
  rw [e1,if_neg hz,if_neg hz,f0,if_neg hz]
  simp only [cond_false,cond_true,Option.bind_some,beq_self_eq_true,Bool.and_self]
theorem Jx (l:List Ld) (x:Int × Int):T3 N (l,x)=some true:=by
 obtain ⟨a,b⟩:=x
 rw [Qy]
 simp only [Om,Option.bind_some,Bool.not_true,cond_false,List.length_map]
 have hlen:((bif (decide (((l.length:Nat):Int) > 8)) then (bif (decide (((l.length:Nat):Int)≤64)) then (some true) else (some (decide (((l.length:Nat):Int) > 66)))) else (some (decide (((l.length:Nat):Int) > 66))):Option Bool)=some true) ∨
   ((bif (decide (((l.length:Nat):Int) > 8)) then (bif (decide (((l.length:Nat):Int)≤64)) then (some true) else (some (decide (((l.length:Nat):Int) > 66)))) else (some (decide (((l.length:Nat):Int) > 66))):Option Bool)=some false∧l.length≤66):=by
  by_cases h1:l.length > 8
  ·have d1:decide (((l.length:Nat):Int) > 8)=true:=by simp; omega
   rw [d1]
   by_cases h2:l.length≤64
   ·have d2:decide (((l.length:Nat):Int)≤64)=true:=by simp; omega
    rw [d2]; exact .inl rfl
   ·have d2:decide (((l.length:Nat):Int)≤64)=false:=by simp; omega
    rw [d2]
    by_cases h3:l.length > 66
    ·have d3:decide (((l.length:Nat):Int) > 66)=true:=by simp; omega
     rw [d3]; exact .inl rfl
    ·have d3:decide (((l.length:Nat):Int) > 66)=false:=by simp; omega
     rw [d3]; exact .inr ⟨rfl,by omega⟩
  ·have d1:decide (((l.length:Nat):Int) > 8)=false:=by simp; omega
   have d3:decide (((l.length:Nat):Int) > 66)=false:=by simp; omega
   rw [d1,d3]; exact .inr ⟨rfl,by omega⟩
 rcases hlen with h | ⟨h,hl⟩
 ·rw [h]; rfl
 ·rw [h]
  obtain ⟨o,h1,h2⟩:=NL hN l hl
  simp only [Qz,QA,List.length_nil,Bool.and_true,Bool.and_self,beq_self_eq_true,cond_true,cond_false,Option.bind_some,eq_self,decide_true,h1]
  rcases h2 with rfl | rfl
  ·rfl
  ·have e0:(if bO l=0 then (fS l,fT l,(0:Int)) else (0,0,bO l))=((if bO l=0 then fS l else 0),(if bO l=0 then fT l else 0),bO l):=by
    by_cases hz:bO l=0
    ·rw [if_pos hz,if_pos hz,if_pos hz,hz]
    ·rw [if_neg hz,if_neg hz,if_neg hz]
   have d:decide ((0+l.length) * 32≤140737488355328)=true:=decide_eq_true (by omega)
   have step:∀ G:Prop,(List.isEmpty (List.map cq l)=true→l=[]→G)→(List.isEmpty (List.map cq l)=false→G)→G:=fun G h1 h2=>by
    cases l with
    | nil=>exact h1 rfl rfl
    | cons x l=>exact h2 rfl
   apply step
   ·intro e he
    simp only [Sum.elim_inr,e,cond_true,Option.bind_some,← he,yI hN,Dt hN,Dq hN,e0,Ew,Ex,Nu,Nv,List.length_map,Bool.and_true,eq_self,decide_true]
    exact Hf hN l a b
   ·intro e
    simp only [Sum.elim_inr,e,d,cond_true,cond_false,List.nil_append,Option.bind_some,yI hN,Dt hN,Dq hN,e0,Ew,Ex,Nu,Nv,List.length_map,Bool.and_true,eq_self,decide_true]
    exact Hf hN l a b
end
end Go.Proofs.Ytegoimldbgdeiaa
