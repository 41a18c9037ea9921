/- Plain laws: the bars and the meshes of a word lie in the sheet around it. -/
import Derived.Test.YtophnjjjmikmeaaGreatOttYd
set_option linter.all false
namespace Go.Proofs.YtophnjjjmikmeaaGreat
open Go Go.Am Go.Sort
set_option maxRecDepth 100000
def bG (out:Bool) (p:Int × Int):List UInt8→List cB
 | []=>[]
 | c :: L=>(if c=66 then [((p.1,p.2,if out then 1 else -1):cB)] else [])++bG out (mv out p c) L
theorem BP (out:Bool):∀ (L:List UInt8) (p:Int × Int) (acc:List cB),(cz out p L).foldl wz acc=acc++bG out p L
 | [],p,acc=>by simp [cz,bG]
 | c :: L,p,acc=>by
  show (cz out (mv out p c) L).foldl wz (wz acc (yB out p c))=_
  rw [BP out L (mv out p c),bG]
  by_cases hc:c=66
  ·subst hc
   have e:wz acc (yB out p 66)=acc++[((p.1,p.2,if out then 1 else -1):cB)]:=by
    show (if (66:Int)=66 then acc++[(p.1,p.2,(mv out p 66).1 - p.1)] else acc)=_
    rw [if_pos rfl]
    have:(mv out p 66).1 - p.1=if out then 1 else -1:=by
     have s:bg 66=(1,1):=rfl
     unfold mv
     rw [s]
     cases out <;> simp <;> omega
    rw [this]
   rw [e,if_pos rfl,List.append_assoc]
  ·have e:wz acc (yB out p c)=acc:=by
    unfold wz
    rw [if_neg]
    intro h
    apply hc
    apply UInt8.toNat_inj.1
    have:(c.toNat:Int)=66:=h
    have Wg:(66:UInt8).toNat=66:=rfl
    omega
   rw [e,if_neg hc,List.nil_append]
theorem MH (out:Bool):∀ (L:List UInt8) (p:Int × Int),∀ b∈bG out p L,p.1 - 2 * L.length≤b.1∧b.1≤p.1+2 * L.length∧p.2≤b.2.1∧b.2.1≤p.2+2 * L.length∧(b.1+b.2.1 - (p.1+p.2)) % 2=0∧b.2.2=if out then 1 else -1
 | [],p,b,hb=>by cases hb
 | c :: L,p,b,hb=>by
  rw [bG] at hb
  rw [List.length_cons]
  rcases List.mem_append.1 hb with hb | hb
  ·split at hb
   ·rw [List.mem_singleton] at hb
    subst hb
    exact ⟨by simp only; omega,by simp only; omega,by simp only; omega,by simp only; omega,by simp,rfl⟩
   ·cases hb
  ·obtain ⟨h1,h2,h3,h4,h5,h6⟩:=MH out L (mv out p c) b hb
   have s:=fI c
   have m2:(mv out p c).2=p.2+(bg c).2:=rfl
   have m1:(mv out p c).1=p.1+(if out then (bg c).1 else -(bg c).1):=rfl
   rw [m1] at h1 h2 h5
   rw [m2] at h3 h4 h5
   refine ⟨?_,?_,?_,?_,?_,h6⟩ <;> (cases out <;> simp only [Bool.false_eq_true,if_false,if_true] at h1 h2 h5 <;> omega)
theorem MI (out:Bool):∀ (L:List UInt8) (p:Int × Int),(bG out p L).Pairwise fun a b=>a.2.1 < b.2.1
 | [],_=>.nil
 | c :: L,p=>by
  have ih:=MI out L (mv out p c)
  rw [bG]
  split
  ·rename_i hc
   subst hc
   rw [List.singleton_append,List.pairwise_cons]
   refine ⟨fun b hb=>?_,ih⟩
   have h3:=(MH out L (mv out p 66) b hb).2.2.1
   have m2:(mv out p 66).2=p.2+1:=rfl
   simp only
   omega
  ·rw [List.nil_append]; exact ih
theorem Ja (out:Bool):∀ (L:List UInt8) (p:Int × Int),(bG out p L).length=L.countP fun c=>c == 66
 | [],_=>rfl
 | c :: L,p=>by
  rw [bG,List.length_append,Ja out L,List.countP_cons]
  by_cases hc:c=66
  ·simp [hc]; omega
  ·simp [hc]
theorem qL (c:UInt8) (L:List UInt8):vec (c :: L)=((bg c).1+(vec L).1,(bg c).2+(vec L).2):=by
 have h:=o0 L (jR (0,0) c)
 show L.foldl jR (jR (0,0) c)=_
 rw [h]
 simp [Lm,jR]
theorem DG:∀ (L:List UInt8) (p:Int × Int),∀ b∈bG true p L,p.1≤b.1∧b.1+1≤p.1+(vec L).1∧p.2≤b.2.1∧b.2.1+1≤p.2+(vec L).2∧(b.1 - p.1+(b.2.1 - p.2)) % 2=0∧b.2.2=1
 | [],_,b,hb=>by cases hb
 | c :: L,p,b,hb=>by
  have v:=wu L
  have s:=fI c
  have Wh:(vec (c :: L)).1=(bg c).1+(vec L).1:=by rw [qL]
  have Wi:(vec (c :: L)).2=(bg c).2+(vec L).2:=by rw [qL]
  rw [Wh,Wi]
  rw [bG] at hb
  rcases List.mem_append.1 hb with hb | hb
  ·by_cases hc:c=66
   ·rw [if_pos hc,List.mem_singleton] at hb
    subst hb
    subst hc
    have e1:(bg 66).1=1:=rfl
    have e2:(bg 66).2=1:=rfl
    rw [e1,e2]
    simp only [if_true]
    refine ⟨by omega,by omega,by omega,by omega,by omega,trivial⟩
   ·rw [if_neg hc] at hb; cases hb
  ·obtain ⟨h1,h2,h3,h4,h5,h6⟩:=DG L (mv true p c) b hb
   have m1:(mv true p c).1=p.1+(bg c).1:=rfl
   have m2:(mv true p c).2=p.2+(bg c).2:=rfl
   rw [m1] at h1 h2 h5
   rw [m2] at h3 h4 h5
   exact ⟨by omega,by omega,by omega,by omega,by omega,h6⟩
def mG (p:Int × Int):List UInt8→List (Int × Int)
 | []=>[]
 | c :: L=>(if c=66 then [] else if c=78 then [(p.1,p.2+1)] else [(p.1+1,p.2)])++mG (mv true p c) L
theorem wH:∀ (L:List UInt8) (p:Int × Int) (acc:List (Int × Int)),(cz true p L).foldl nq acc=acc++mG p L
 | [],p,acc=>by simp [cz,mG]
 | c :: L,p,acc=>by
  show (cz true (mv true p c) L).foldl nq (nq acc (yB true p c))=_
  rw [wH L (mv true p c),mG]
  by_cases hc:c=66
  ·subst hc
   have e:nq acc (yB true p 66)=acc:=rfl
   rw [e,if_pos rfl,List.nil_append]
  ·have Wg:((yB true p c).1:Int)≠66:=by
    intro h
    apply hc
    apply UInt8.toNat_inj.1
    have:(c.toNat:Int)=66:=h
    have Wg:(66:UInt8).toNat=66:=rfl
    omega
   have e:nq acc (yB true p c)=acc++[((p.1+(p.1+(bg c).1)).tdiv 2,(p.2+(p.2+(bg c).2)).tdiv 2)]:=by
    unfold nq
    rw [if_neg Wg]
    rfl
   rw [e,if_neg hc,List.append_assoc]
   congr 2
   by_cases EE:c=78
   ·subst EE
    have e1:(bg 78).1=0:=rfl
    have e2:(bg 78).2=2:=rfl
    rw [if_pos rfl,e1,e2,show p.1+(p.1+0)=2 * p.1 by omega,show p.2+(p.2+2)=2 * (p.2+1) by omega,Int.mul_tdiv_cancel_left _ (by omega),Int.mul_tdiv_cancel_left _ (by omega)]
   ·have e1:(bg c).1=2:=by unfold bg; rw [if_neg EE,if_neg hc]
    have e2:(bg c).2=0:=by unfold bg; rw [if_neg EE,if_neg hc]
    rw [if_neg EE,e1,e2,show p.1+(p.1+2)=2 * (p.1+1) by omega,show p.2+(p.2+0)=2 * p.2 by omega,Int.mul_tdiv_cancel_left _ (by omega),Int.mul_tdiv_cancel_left _ (by omega)]
theorem Jb:∀ (L:List UInt8) (p:Int × Int),(mG p L).length+(L.countP fun c=>c == 66)=L.length
 | [],_=>rfl
 | c :: L,p=>by
  have ih:=Jb L (mv true p c)
  rw [mG,List.length_append,List.countP_cons,List.length_cons]
  by_cases hc:c=66
  ·simp [hc]; rw [hc] at ih; omega
  ·by_cases EE:c=78
   ·simp [EE]; rw [EE] at ih; omega
   ·simp [hc,EE]; omega
theorem Jc:∀ (L:List UInt8) (p:Int × Int),∀ m∈mG p L,p.1≤m.1∧m.1≤p.1+(vec L).1∧p.2≤m.2∧m.2≤p.2+(vec L).2∧(m.1 - p.1+(m.2 - p.2)) % 2=1
 | [],_,m,hm=>by cases hm
 | c :: L,p,m,hm=>by
  have v:=wu L
  have s:=fI c
  have Wh:(vec (c :: L)).1=(bg c).1+(vec L).1:=by rw [qL]
  have Wi:(vec (c :: L)).2=(bg c).2+(vec L).2:=by rw [qL]
  rw [Wh,Wi]
  rw [mG] at hm
  rcases List.mem_append.1 hm with hm | hm
  ·by_cases hc:c=66
   ·rw [if_pos hc] at hm; cases hm
   ·rw [if_neg hc] at hm
    by_cases EE:c=78
    ·rw [if_pos EE,List.mem_singleton] at hm
     subst hm
     subst EE
     have e1:(bg 78).1=0:=rfl
     have e2:(bg 78).2=2:=rfl
     rw [e1,e2]
     simp only
     refine ⟨by omega,by omega,by omega,by omega,by omega⟩
    ·rw [if_neg EE,List.mem_singleton] at hm
     subst hm
     have e1:(bg c).1=2:=by unfold bg; rw [if_neg EE,if_neg hc]
     have e2:(bg c).2=0:=by unfold bg; rw [if_neg EE,if_neg hc]
     rw [e1,e2]
     simp only
     refine ⟨by omega,by omega,by omega,by omega,by omega⟩
  ·obtain ⟨h1,h2,h3,h4,h5⟩:=Jc L (mv true p c) m hm
   have m1:(mv true p c).1=p.1+(bg c).1:=rfl
   have m2:(mv true p c).2=p.2+(bg c).2:=rfl
   rw [m1] at h1 h2 h5
   rw [m2] at h3 h4 h5
   exact ⟨by omega,by omega,by omega,by omega,by omega⟩
section
variable {p:Int × Int} {L:List UInt8} {C R:Nat} (hC:(C:Int)=((vec L).1+5) / 2) (hR:(R:Int)=(vec L).2+4)
include hC hR
theorem LJ:∀ b∈bG true p L,b∈kU (p.1 - 2) (p.2 - 2) C R:=fun b hb=>by
 obtain ⟨h1,h2,h3,h4,h5,h6⟩:=DG L p b hb
 have v:=wu L
 rw [qK]
 exact ⟨by omega,by omega,by omega,.inl h6,by omega⟩
theorem LL:∀ m∈mG p L,m∈nV (kU (p.1 - 2) (p.2 - 2) C R):=fun m hm=>by
 obtain ⟨h1,h2,h3,h4,h5⟩:=Jc L p m hm
 have v:=wu L
 unfold nV
 refine List.mem_map.2 ⟨(m.1,m.2 - 1,-1),List.mem_filter.2 ⟨?_,?_⟩,?_⟩
 ·rw [qK]
  refine ⟨?_,?_,?_,.inr rfl,?_⟩ <;> simp only <;> omega
 ·unfold wG
  simp only [Bool.and_eq_true,decide_eq_true_eq,qK]
  refine ⟨trivial,⟨?_,?_,?_,.inl rfl,?_⟩,⟨?_,?_,?_,.inl rfl,?_⟩,⟨?_,?_,?_,.inr rfl,?_⟩⟩ <;> simp only <;> omega
 ·refine Prod.ext rfl ?_
  simp only
  omega
end
def oq (l:List cB):List (Int × Int):=l.flatMap fun b=>[(b.1,b.2.1+1),(b.1+b.2.2,b.2.1)]
theorem F4 {S l:List cB} (hs:∀ b∈l,b.2.2=1):nV (S.filter fun b=>decide (b∉l))=(nV S).filter fun m=>!decide (m∈oq l):=by
 unfold nV
 rw [List.filter_map,List.filter_filter,List.filter_filter]
 congr 1
 refine List.filter_congr fun b hb=>?_
 have hg:((b.1,b.2.1+1)∈oq l)↔(((b.1,b.2.1,1):cB)∈l∨((b.1 - 1,b.2.1+1,1):cB)∈l):=by
  unfold oq
  rw [List.mem_flatMap]
  constructor
  ·rintro ⟨c,hc,h⟩
   have h1:=hs c hc
   obtain ⟨c1,c2,c3⟩:=c
   simp only at h1
   subst h1
   simp only [List.mem_cons,Prod.mk.injEq,List.not_mem_nil,or_false] at h
   rcases h with ⟨h1,h2⟩ | ⟨h1,h2⟩
   ·left
    have:((b.1,b.2.1,1):cB)=(c1,c2,1):=Prod.ext h1 (Prod.ext (by simp only; omega) rfl)
    rw [this]; exact hc
   ·right
    have:((b.1 - 1,b.2.1+1,1):cB)=(c1,c2,1):=Prod.ext (by simp only; omega) (Prod.ext h2 rfl)
    rw [this]; exact hc
  ·rintro (h | h)
   ·exact ⟨_,h,by simp⟩
   ·exact ⟨_,h,by simp⟩
 have hm:b.2.2=-1→b∉l:=fun h hl=>by have:=hs b hl; omega
 have Z4:((b.1+1,b.2.1+1,-1):cB)∉l:=fun hl=>by have:=hs _ hl; simp at this
 unfold wG
 simp only [Function.comp,List.mem_filter,decide_eq_true_eq,hg]
 by_cases h1:b.2.2=-1
 ·have:=hm h1
  simp only [h1,this,Z4,decide_true,Bool.true_and,not_false_eq_true,and_true,Bool.and_true]
  by_cases a1:((b.1,b.2.1,1):cB)∈l <;> by_cases a2:((b.1 - 1,b.2.1+1,1):cB)∈l <;> simp [a1,a2]
 ·simp [h1]
end Go.Proofs.YtophnjjjmikmeaaGreat
