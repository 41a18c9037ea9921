/- Plain laws: the law of turned and composed joins. -/
import Derived.Test.YtfiopgedfcaodaaGreatDoorSeamKC
import Derived.Test.YtfiopgedfcaodaaGreatDoorSeamSg
set_option linter.all false
namespace Go.Proofs.YtfiopgedfcaodaaGreatDoor
open Go Go.Am Go.Sort
set_option maxRecDepth 100000
def twoE (J K:List (Int × Int)):Int:=if firstNZ [chkT J,chkT K]≠0 then firstNZ [chkT J,chkT K] else if (lst J).2≠(lst K).1 then 2 else 0
theorem chkT_pos {l:List (Int × Int)} (h:chkT l=0):1≤l.length∧(∃ A B:Nat,(lst l).1=(A:Int)∧(lst l).2=(B:Int)∧A≤255∧B≤255)∧∀ p∈l,(0≤p.1∧p.1≤(lst l).1)∧(0≤p.2∧p.2≤(lst l).2):=by
 unfold chkT at h
 split at h
 ·cases h
 ·rename_i h0
  split at h
  ·rename_i h1; exact absurd h h1
  ·rename_i h1
   obtain ⟨⟨b1,b2⟩,b3,b4⟩:=rng2_zero (Decidable.not_not.1 h1)
   refine ⟨by omega,⟨(lst l).1.toNat,(lst l).2.toNat,by omega,by omega,by omega,by omega⟩,fun p hp=>?_⟩
   obtain ⟨⟨c1,c2⟩,c3,c4⟩:=(chkJ_ok h).2 p hp
   exact ⟨⟨c1,by omega⟩,c3,by omega⟩
theorem cmpJ_mem (J K:List (Int × Int)) (x:Int × Int):x∈cmpJ J K↔metL J K x.1 x.2=true:=by
 rw [metL_iff]
 unfold cmpJ prt
 simp only [List.mem_flatMap,List.mem_map,List.mem_filter,beq_iff_eq]
 constructor
 ·rintro ⟨p,hp,c,⟨q,⟨hq,e⟩,rfl⟩,rfl⟩
  exact ⟨p,hp,q,hq,rfl,e.symm,rfl⟩
 ·rintro ⟨p,hp,q,hq,e1,e2,e3⟩
  refine ⟨p,hp,q.2,⟨q,⟨hq,e2.symm⟩,rfl⟩,?_⟩
  rw [e1,e3]
def comF27 (J K:List (Int × Int)):List (Int × Int) × Int:=if twoE J K=0 then (insL (ltOf cfP) (0,0) (cmpJ J K),0) else ([],twoE J K)
section
variable {N:Nat} (hN:Big N)
include hN
theorem T27_com (J K:List (Int × Int)) (hJ:J.length≤1000) (hK:K.length≤1000):T27 N (J,K)=some (comF27 J K):=by
 have c1:=T99_chk hN J (by omega)
 have c2:=T99_chk hN K (by omega)
 have c3:=T90_first hN [chkT J,chkT K] (by simp)
 rw [T27_eq]
 simp only [fa46,md46,Bool.and_true,cond_true,Option.bind_some,c1,c2,ff24,mm24,c3]
 unfold comF27
 by_cases he:firstNZ [chkT J,chkT K]=0
 ·rw [he]
  have hz:=firstNZ_zero.1 he
  have z1:=hz (chkT J) (by simp)
  have z2:=hz (chkT K) (by simp)
  obtain ⟨q1,_,_⟩:=chkT_pos z1
  obtain ⟨q2,_,_⟩:=chkT_pos z2
  have hkJ:J.length - 1 < J.length:=by omega
  have hkK:K.length - 1 < K.length:=by omega
  have hwJ:IntKind.wrap .i64 ((J.length:Int) - 1)=((J.length - 1:Nat):Int):=by rw [w64 (by omega)]; omega
  have hwK:IntKind.wrap .i64 ((K.length:Int) - 1)=((K.length - 1:Nat):Int):=by rw [w64 (by omega)]; omega
  obtain ⟨a1,a2⟩:=at46 J hkJ
  obtain ⟨b1,b2⟩:=at46 K hkK
  have a1:d46 (nthD (List.map n46 J) (J.length - 1))=lst J:=a1
  have b1:d46 (nthD (List.map n46 K) (K.length - 1))=lst K:=b1
  simp only [bne_self_eq_false,cond_false,List.length_map,hwJ,hwK,Int.toNat_natCast,a1,a2,b1,b2,in_range hkJ,in_range hkK,Bool.and_self,cond_true]
  by_cases hs:(lst J).2=(lst K).1
  ·have hb:((lst J).2 != (lst K).1)=false:=by simp [hs]
   have ht:twoE J K=0:=by unfold twoE; rw [if_neg (fun c=>c he),if_neg (fun c=>c hs)]
   rw [hb,cond_false,if_pos ht]
   obtain ⟨PM,L,r1,hP⟩:=R27_part hN K (by omega)
   obtain ⟨r2,hcl⟩:=R27_all hN J K hP (by omega) (by omega)
   have z1:allFit (Pat.fits pG169x1) (mcells [])=true:=rfl
   have z2:List.map dG169x1 (mcells [])=[]:=rfl
   have z3:lenI []=[]:=rfl
   have f46:allFit (Pat.fits p46) []=true:=rfl
   have g46:List.map d46 ([]:List AV)=[]:=rfl
   have hsl:sortL pTwo cfP (List.map n46 (cmpJ J K))=List.map n46 ((cmpJ J K).mergeSort fun x y=>!(ltOf cfP) y x):=by
    unfold sortL
    rw [show List.map (Pat.decD pTwo) (List.map n46 (cmpJ J K))=cmpJ J K from md46 _]
    rfl
   have hfp:allFit (Pat.fits pTwo) (List.map n46 (cmpJ J K))=true:=fa46 _
   have hlen:((cmpJ J K).mergeSort fun x y=>!(ltOf cfP) y x).length=(cmpJ J K).length:=List.length_mergeSort _
   have hb:decide ((cmpJ J K).length≤140737488355328)=true:=decide_eq_true (by omega)
   have huq:=uq_srt swoP totP (0,0) (cmpJ J K)
   simp only [z1,z2,z3,Option.bind_some,r1,List.length_nil,Nat.beq_refl,mcG,faG169x1,mdG169x1,unf2,faL,mdL,f46,g46,Bool.and_self,Bool.and_true,cond_true,r2,hsl,hfp,List.length_map,hb,hlen,decide_true,Nat.le_refl,cl46,fa46,md46]
   by_cases h2:((cmpJ J K).length:Int) < 2
   ·have ht:List.take (cmpJ J K).length (List.map n46 ((cmpJ J K).mergeSort fun x y=>!(ltOf cfP) y x))=List.map n46 ((cmpJ J K).mergeSort fun x y=>!(ltOf cfP) y x):=List.take_of_length_le (by rw [List.length_map,hlen]; exact Nat.le_refl _)
    simp only [h2,decide_true,cond_true,ht,fa46,md46,Option.bind_some]
    rw [← huq,uqN_take (0,0) _ _ (by rw [hlen]; exact Nat.le_refl _) (fun j a b=>by omega),List.take_of_length_le (by rw [hlen]; exact Nat.le_refl _)]
   ·obtain ⟨o,r,e⟩:=R27_out hN PM L (cmpJ J K) ((cmpJ J K).mergeSort fun x y=>!(ltOf cfP) y x) hlen (by omega)
    simp only [h2,decide_false,cond_false,r,Option.bind_some]
    rw [huq] at e
    rcases e with rfl | ⟨rfl,hx⟩
    ·simp only [Sum.elim_inl,mcG,faG169x1,mdG169x1,unf2,faL,mdL,Bool.and_self,fa46,md46,cond_true,Option.bind_some]
    ·have ht:List.take (cmpJ J K).length (List.map n46 (insL (ltOf cfP) (0,0) (cmpJ J K)))=List.map n46 (insL (ltOf cfP) (0,0) (cmpJ J K)):=List.take_of_length_le (by rw [List.length_map,hx]; exact Nat.le_refl _)
     simp only [Sum.elim_inr,List.length_map,hx,decide_true,Nat.le_refl,Bool.and_self,cl46,cond_true,ht,mcG,faG169x1,mdG169x1,unf2,faL,mdL,fa46,md46,Option.bind_some]
  ·have hb:((lst J).2 != (lst K).1)=true:=bne_iff_ne.2 hs
   have ht:twoE J K=2:=by unfold twoE; rw [if_neg (fun c=>c he),if_pos hs]
   rw [hb,cond_true,ht]
   rfl
 ·have hb:(firstNZ [chkT J,chkT K] != 0)=true:=bne_iff_ne.2 he
  have ht:twoE J K=firstNZ [chkT J,chkT K]:=by unfold twoE; rw [if_pos he]
  rw [hb,cond_true,ht,if_neg he]
  rfl
end
end Go.Proofs.YtfiopgedfcaodaaGreatDoor
