/- Plain laws: the law of compiled programs. -/
import Derived.Test.YtldcljfjjoidhaaGreatDoorSeamKE
import Derived.Test.YtldcljfjjoidhaaGreatDoorSeamKF
import Derived.Test.YtldcljfjjoidhaaGreatDoorBraTk8
set_option linter.all false
namespace Go.Proofs.YtldcljfjjoidhaaGreatDoor
open Go Go.Am Go.Sort
open List (map)
open Int (toNat)
open Go.IntKind (wrap)
open Go.Am.aR (fits)
set_option maxRecDepth 100000
theorem zQ {α:Type} [DecidableEq α] (a b:List α) (d:α) (h:a.length=b.length):(match (List.range a.length).find? (fun k=>!decide (a.getD k d=b.getD k d)) with | some _=>false | none=>true)=decide (a=b):=by
 cases hf:(List.range a.length).find? (fun k=>!decide (a.getD k d=b.getD k d)) with
 | some j=>
  have h1:=List.find?_some hf
  symm
  refine decide_eq_false fun e=>?_
  rw [e] at h1
  simp at h1
 | none=>
  symm
  refine decide_eq_true (List.ext_getElem h fun k h1 h2=>?_)
  rw [List.find?_eq_none] at hf
  have:=hf k (by simpa using h1)
  simpa [h1,h2] using this
section
variable {N:Nat} (hN:fL N)
include hN
theorem JD (a b:List dv) (hl:a.length≤1000000):SK N (a,b)=some (decide (a=b)):=by
 rw [SM]
 simp only [List.length_map]
 by_cases h:a.length=b.length
 ·have hb:(((a.length:Nat):Int) != ((b.length:Nat):Int))=false:=by rw [h]; exact bne_self_eq_false _
  rw [hb,cond_false]
  have q:=ke (rd:=tG N a b) a.length (fun k=>(k:Int)) (fun k=>!decide (a.getD k (0,0,0)=b.getD k (0,0,0))) (fun _=>Sum.inl false) (Sum.inr ()) (fun k hk=>by
   obtain ⟨a1,a2⟩:=gl a hk
   obtain ⟨b1,b2⟩:=gl b (k:=k) (by omega)
   have e1:a.getD k (0,0,0)=a[k]:=by simp [hk]
   have e2:b.getD k (0,0,0)=b[k]'(by omega):=by simp [show k < b.length by omega]
   have e3:((a[k].1 == (b[k]'(by omega)).1)&&((a[k].2.1 == (b[k]'(by omega)).2.1)&&(a[k].2.2 == (b[k]'(by omega)).2.2)))=decide (a[k]=b[k]'(by omega)):=by
    rw [Bool.eq_iff_iff]; simp [Prod.ext_iff]
   rw [e1,e2]
   simp only [tG,List.length_map,Int.toNat_natCast,a8 hk,aB hk,aB (show k < b.length by omega),a1,a2,b1,b2,Bool.and_self,Bool.and_true,cond_true,e3,bE (show k < 9223372036854775807 by omega)]
   cases decide (a[k]=b[k]'(by omega)) <;> rfl) (by
   simp only [tG,List.length_map,bO,cond_false]) N (by unfold fL at hN; omega)
  have q:aL (tG N a b) N 0=_:=q
  rw [q,Option.bind_some,← zQ a b (0,0,0) h]
  cases (List.range a.length).find? (fun k=>!decide (a.getD k (0,0,0)=b.getD k (0,0,0))) <;> rfl
 ·have hb:(((a.length:Nat):Int) != ((b.length:Nat):Int))=true:=bne_iff_ne.2 (by omega)
  rw [hb,cond_true,decide_eq_false fun e=>h (by rw [e])]
theorem S1 (a b:List dv) (hl:a.length≤1000000):T49 N (a,b)=some (decide (a=b)):=by
 rw [WT]
 simp only [List.length_map]
 by_cases h:a.length=b.length
 ·have hb:(((a.length:Nat):Int) != ((b.length:Nat):Int))=false:=by rw [h]; exact bne_self_eq_false _
  rw [hb,cond_false]
  have q:=ke (rd:=zG N a b) a.length (fun k=>(k:Int)) (fun k=>!decide (a.getD k (0,0,0)=b.getD k (0,0,0))) (fun _=>Sum.inl false) (Sum.inr ()) (fun k hk=>by
   obtain ⟨a1,a2⟩:=gl a hk
   obtain ⟨b1,b2⟩:=gl b (k:=k) (by omega)
   have e1:a.getD k (0,0,0)=a[k]:=by simp [hk]
   have e2:b.getD k (0,0,0)=b[k]'(by omega):=by simp [show k < b.length by omega]
   have e3:((a[k].1 == (b[k]'(by omega)).1)&&((a[k].2.1 == (b[k]'(by omega)).2.1)&&(a[k].2.2 == (b[k]'(by omega)).2.2)))=decide (a[k]=b[k]'(by omega)):=by
    rw [Bool.eq_iff_iff]; simp [Prod.ext_iff]
   rw [e1,e2]
   simp only [zG,List.length_map,Int.toNat_natCast,a8 hk,aB hk,aB (show k < b.length by omega),a1,a2,b1,b2,Bool.and_self,Bool.and_true,cond_true,e3,bE (show k < 9223372036854775807 by omega)]
   cases decide (a[k]=b[k]'(by omega)) <;> rfl) (by
   simp only [zG,List.length_map,bO,cond_false]) N (by unfold fL at hN; omega)
  have q:aL (zG N a b) N 0=_:=q
  rw [q,Option.bind_some,← zQ a b (0,0,0) h]
  cases (List.range a.length).find? (fun k=>!decide (a.getD k (0,0,0)=b.getD k (0,0,0))) <;> rfl
 ·have hb:(((a.length:Nat):Int) != ((b.length:Nat):Int))=true:=bne_iff_ne.2 (by omega)
  rw [hb,cond_true,decide_eq_false fun e=>h (by rw [e])]
theorem XU (l:List dv) (hl:l.length≤1000000):T16 N l=some l:=by
 rw [Xm]
 have hb:decide ((0+l.length) * 24≤140737488355328)=true:=decide_eq_true (by omega)
 cases l with
 | nil=>rfl
 | cons x l=>
  have e:List.isEmpty (map af (x :: l))=false:=rfl
  simp only [e,cond_false,List.length_map,hb,cond_true,List.nil_append,fy,fj,Bool.and_true,Option.bind_some]
theorem JE (l:List dv):∃ b,T13 N l=some b∧(b=true→l.length≤40):=by
 rw [Xg]
 simp only [List.length_map]
 by_cases h:l.length > 40
 ·exact ⟨false,by rw [decide_eq_true (by omega)]; rfl,fun h=>by cases h⟩
 ·rw [decide_eq_false (by omega),cond_false]
  by_cases h0:l=[]
  ·subst h0
   exact ⟨true,rfl,fun _=>by simp⟩
  ·have hl:0 < l.length:=List.length_pos_iff.2 h0
   have z:(((l.length:Nat):Int) == 0)=false:=beq_false_of_ne (by omega)
   obtain ⟨a1,a2⟩:=gl l hl
   obtain ⟨b1,b2⟩:=gl l (k:=l.length - 1) (by omega)
   have Yq:aw (ah (map af l) (toNat 0))=l[0]:=a1
   have Yr:fits ay (ah (map af l) (toNat 0))=true:=a2
   have w1:wrap .i64 (((l.length:Nat):Int) - 1)=((l.length - 1:Nat):Int):=by rw [gk (by omega)]; omega
   have i0:decide ((0:Int)≤0∧0 < (l.length:Int))=true:=decide_eq_true (by omega)
   simp only [z,cond_false,fy,fj,Bool.and_true,cond_true,Option.bind_some,HZ hN,HN,w1,aB (show l.length - 1 < l.length by omega),Int.toNat_natCast,b1,b2,Yq,Yr,i0,Bool.and_self]
   by_cases hc:dA l=0
   ·rw [if_pos hc]
    exact ⟨_,rfl,fun _=>by omega⟩
   ·rw [if_neg hc]
    exact ⟨_,rfl,fun _=>by omega⟩
def S2 (l:List dv) (p:List dq):Int:=if aJ [dA l,iw p]=0 then (if tC p=l then 0 else 21) else aJ [dA l,iw p]
theorem S3 (l:List dv) (p:List dq):T58 N (l,p)=some (S2 l p):=by
 have z2:(bif (allFit (fits vO) [(AV.int .i64 (dA l)),(AV.int .i64 (iw p))]) then some (map ka [(AV.int .i64 (dA l)),(AV.int .i64 (iw p))]) else none:Option lW)=some [dA l,iw p]:=rfl
 rw [XL]
 simp only [fy,fj,qU,qV,Bool.and_true,cond_true,Option.bind_some,HQ hN,Sn hN,z2,nw hN _ (show [dA l,iw p].length≤9223372036854775806 by simp),HN]
 unfold S2
 by_cases h:aJ [dA l,iw p]=0
 ·rw [if_pos h,if_pos h]
  have hp:iw p=0:=fP.1 h _ (by simp)
  obtain ⟨e1,e2⟩:=Cy hp
  obtain ⟨o1,o2⟩:=sq hp p.length (Nat.le_refl _)
  rw [List.take_length] at o1 o2
  have nl:(tC p).length≤1000000:=by rw [Eo o1]; omega
  have q91:=Sg hN p e2 (by omega)
  rw [Bo o1] at q91
  simp only [q91,Option.bind_some,fy,fj,Bool.and_self,cond_true,JD hN (tC p) l nl,lH]
  cases hd:decide (tC p=l) with
  | true=>rw [if_pos (of_decide_eq_true hd)]; rfl
  | false=>rw [if_neg (of_decide_eq_false hd)]; rfl
 ·rw [if_neg h,if_neg h]
theorem S4 (m:Int) (l:List dv) (p:List dq):T8 m N (l,p)=some true:=by
 have hT:∀ u,T14 N u=some true:=fun _=>rfl
 obtain ⟨b0,W6,Ws⟩:=JE hN l
 obtain ⟨b,hb,hs⟩:=XS hN p 7 (by omega)
 have hb:T26 N (p,7)=some b:=hb
 rw [abl]
 simp only [fy,fj,wz,wA,Bool.and_true,cond_true,Option.bind_some,W6,hb]
 cases b0 with
 | false=>simp only [Bool.not_false,cond_true,hT,Option.bind_some]
 | true=>
  have hl:=Ws rfl
  cases b with
  | false=>simp only [Bool.not_true,Bool.not_false,cond_true,cond_false,hT,Option.bind_some]
  | true=>
   obtain ⟨hp,-⟩:=hs rfl
   have z3:(bif (allFit (fits p3) [(AV.int .i64 (dA l)),(AV.int .i64 (iw p))]) then some (map fx [(AV.int .i64 (dA l)),(AV.int .i64 (iw p))]) else none:Option lW)=some [dA l,iw p]:=rfl
   simp only [Bool.not_true,cond_false,fy,fj,wz,wA,qU,qV,Bool.and_true,cond_true,Option.bind_some,XU hN l (by omega),NX hN,W5 hN p (by omega),S3 hN,HZ hN,Sk hN,z3,Be hN _ (show [dA l,iw p].length≤9223372036854775806 by simp)]
   have h27:(bif dA l == 0 then (T59 N l).bind fun Yt=>some (Yt.2,Yt.1) else (bif allFit (fits df) ([]:List AV) then some (dA l,map bC ([]:List AV)) else none).bind fun ZW=>some ZW)=some ((tM l).2,(tM l).1):=by
    by_cases h:dA l=0
    ·have hb:(dA l == 0)=true:=beq_iff_eq.2 h
     rw [hb,cond_true,N0 hN l h]
     rfl
    ·have hb:(dA l == 0)=false:=beq_false_of_ne h
     rw [hb,cond_false]
     have e:uZ l=dA l:=by
      have e1:aK l=([],dA l):=by unfold aK; rw [if_neg h]
      unfold uZ
      rw [e1]
      simp [aJ,h]
     unfold tM
     rw [if_neg (by rw [e]; exact h),e]
     rfl
   have h32:(bif aJ [dA l,iw p] == 0 then (T45 N p).bind fun y28=>(T49 N (y28,l)).bind fun y3=>some (!y3) else some false)=some (aJ [dA l,iw p] == 0&&!decide (tC p=l)):=by
    by_cases h:aJ [dA l,iw p]=0
    ·have hb:(aJ [dA l,iw p] == 0)=true:=beq_iff_eq.2 h
     have hp0:iw p=0:=fP.1 h _ (by simp)
     obtain ⟨o1,o2⟩:=sq hp0 p.length (Nat.le_refl _)
     rw [List.take_length] at o1 o2
     rw [hb,cond_true,S0 hN p hp0,Option.bind_some,S1 hN (tC p) l (by rw [Eo o1]; omega)]
     rfl
    ·have hb:(aJ [dA l,iw p] == 0)=false:=beq_false_of_ne h
     rw [hb]
     rfl
   have h33:(bif (aJ [dA l,iw p] == 0&&!decide (tC p=l)) then some (21:Int) else some (aJ [dA l,iw p]))=some (S2 l p):=by
    unfold S2
    by_cases h:aJ [dA l,iw p]=0
    ·rw [h,if_pos rfl]
     by_cases h2:tC p=l
     ·rw [decide_eq_true h2,if_pos h2]; rfl
     ·rw [decide_eq_false h2,if_neg h2]; rfl
    ·have hb:(aJ [dA l,iw p] == 0)=false:=beq_false_of_ne h
     rw [hb,if_neg h]
     rfl
   have lc:(tM l).1.length≤1000000:=by
    unfold tM
    split
    ·show (HW _ _).length≤1000000
     rw [HX]
     exact (tL l).2.1
    ·simp
   rw [h27,Option.bind_some,h32,Option.bind_some,h33,Option.bind_some,XR hN _ lc,Option.bind_some,NG hN _ lc]
   simp only [Option.bind_some,cond_true,beq_self_eq_true,hT]
end
end Go.Proofs.YtldcljfjjoidhaaGreatDoor
