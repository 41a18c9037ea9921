/- Plain laws: the law of turned and composed joins. -/
import Derived.Test.YtfiopgedfcaodaaGreatDoorSeamKA
import Derived.Test.YtfiopgedfcaodaaGreatDoorSeamSg
set_option linter.all false
namespace Go.Proofs.YtfiopgedfcaodaaGreatDoor
open Go Go.Am Go.Sort
set_option maxRecDepth 100000
def twoE (J K:List (Int × Int)):Int:=if firstNZ [chkT J,chkT K]≠0 then firstNZ [chkT J,chkT K] else if (lst J).2≠(lst K).1 then 2 else 0
theorem chkT_pos {l:List (Int × Int)} (h:chkT l=0):1≤l.length∧(∃ A B:Nat,(lst l).1=(A:Int)∧(lst l).2=(B:Int)∧A≤255∧B≤255)∧∀ p∈l,(0≤p.1∧p.1≤(lst l).1)∧(0≤p.2∧p.2≤(lst l).2):=by
 unfold chkT at h
 split at h
 ·cases h
 ·rename_i h0
  split at h
  ·rename_i h1; exact absurd h h1
  ·rename_i h1
   obtain ⟨⟨b1,b2⟩,b3,b4⟩:=rng2_zero (Decidable.not_not.1 h1)
   refine ⟨by omega,⟨(lst l).1.toNat,(lst l).2.toNat,by omega,by omega,by omega,by omega⟩,fun p hp=>?_⟩
   obtain ⟨⟨c1,c2⟩,c3,c4⟩:=(chkJ_ok h).2 p hp
   exact ⟨⟨c1,by omega⟩,c3,by omega⟩
theorem cmpJ_mem (J K:List (Int × Int)) (x:Int × Int):x∈cmpJ J K↔metL J K x.1 x.2=true:=by
 rw [metL_iff]
 unfold cmpJ prt
 simp only [List.mem_flatMap,List.mem_map,List.mem_filter,beq_iff_eq]
 constructor
 ·rintro ⟨p,hp,c,⟨q,⟨hq,e⟩,rfl⟩,rfl⟩
  exact ⟨p,hp,q,hq,rfl,e.symm,rfl⟩
 ·rintro ⟨p,hp,q,hq,e1,e2,e3⟩
  refine ⟨p,hp,q.2,⟨q,⟨hq,e2.symm⟩,rfl⟩,?_⟩
  rw [e1,e3]
theorem comJ_eq (J K:List (Int × Int)) (A B:Nat) (hJ:∀ p∈J,0≤p.1∧p.1≤(A:Int)) (hK:∀ p∈K,0≤p.2∧p.2≤(B:Int)):insL (ltOf cfP) (0,0) (cmpJ J K)=comL J K A B:=by
 obtain ⟨i1,i2⟩:=insL_spec swoP totP (0,0) (cmpJ J K)
 refine asc_ext swoP i1 (comL_asc J K A B) fun x=>?_
 rw [i2,cmpJ_mem,comL_mem]
 constructor
 ·intro h
  obtain ⟨p,hp,q,hq,e1,e2,e3⟩:=(metL_iff J K x.1 x.2).1 h
  have h1:=hJ p hp
  have h2:=hK q hq
  rw [e1] at h1
  rw [e3] at h2
  exact ⟨h1,h2,h⟩
 ·exact fun h=>h.2.2
theorem ff3 (x y:Int):allFit (Pat.fits p3) [AV.int .i64 x,AV.int .i64 y]=true:=rfl
theorem mm3 (x y:Int):List.map d3 [AV.int .i64 x,AV.int .i64 y]=[x,y]:=rfl
def comF27 (J K:List (Int × Int)):List (Int × Int) × Int:=if twoE J K=0 then (insL (ltOf cfP) (0,0) (cmpJ J K),0) else ([],twoE J K)
theorem twoE_zero {J K:List (Int × Int)} (h:twoE J K=0):chkT J=0∧chkT K=0∧(lst J).2=(lst K).1:=by
 unfold twoE at h
 split at h
 ·rename_i h1; exact absurd h h1
 ·rename_i h1
  have h2:=firstNZ_zero.1 (Decidable.not_not.1 h1)
  split at h
  ·cases h
  ·rename_i h3
   exact ⟨h2 _ (by simp),h2 _ (by simp),Decidable.not_not.1 h3⟩
theorem cmpJ_len (J K:List (Int × Int)):(cmpJ J K).length≤J.length * K.length:=by
 unfold cmpJ
 induction J with
 | nil=>simp
 | cons p J ih=>
  have:=prt_len K p.2
  rw [List.flatMap_cons,List.length_append,List.length_map,List.length_cons,Nat.succ_mul]
  omega
section
variable {N:Nat} (hN:Big N)
include hN
theorem T27_com (J K:List (Int × Int)) (hJ:J.length≤1000) (hK:K.length≤1000):T27 N (J,K)=some (comF27 J K):=by
 have c1:=T99_chk hN J (by omega)
 have c2:=T99_chk hN K (by omega)
 have c3:=T90_first hN [chkT J,chkT K] (by simp)
 rw [T27_eq]
 simp only [fa46,md46,Bool.and_true,cond_true,Option.bind_some,c1,c2,ff24,mm24,c3]
 unfold comF27
 by_cases he:firstNZ [chkT J,chkT K]=0
 ·rw [he]
  have hz:=firstNZ_zero.1 he
  have z1:=hz (chkT J) (by simp)
  have z2:=hz (chkT K) (by simp)
  obtain ⟨q1,_,_⟩:=chkT_pos z1
  obtain ⟨q2,_,_⟩:=chkT_pos z2
  have hkJ:J.length - 1 < J.length:=by omega
  have hkK:K.length - 1 < K.length:=by omega
  have hwJ:IntKind.wrap .i64 ((J.length:Int) - 1)=((J.length - 1:Nat):Int):=by rw [w64 (by omega)]; omega
  have hwK:IntKind.wrap .i64 ((K.length:Int) - 1)=((K.length - 1:Nat):Int):=by rw [w64 (by omega)]; omega
  obtain ⟨a1,a2⟩:=at46 J hkJ
  obtain ⟨b1,b2⟩:=at46 K hkK
  have a1:d46 (nthD (List.map n46 J) (J.length - 1))=lst J:=a1
  have b1:d46 (nthD (List.map n46 K) (K.length - 1))=lst K:=b1
  simp only [bne_self_eq_false,cond_false,List.length_map,hwJ,hwK,Int.toNat_natCast,a1,a2,b1,b2,in_range hkJ,in_range hkK,Bool.and_self,cond_true]
  by_cases hs:(lst J).2=(lst K).1
  ·have hb:((lst J).2 != (lst K).1)=false:=by simp [hs]
   have ht:twoE J K=0:=by unfold twoE; rw [if_neg (fun c=>c he),if_neg (fun c=>c hs)]
   rw [hb,cond_false,if_pos ht]
   obtain ⟨PM,L,r1,hP⟩:=R27_part hN K (by omega)
   obtain ⟨r2,hcl⟩:=R27_all hN J K hP (by omega) (by omega)
   have z1:allFit (Pat.fits pG169x1) (mcells [])=true:=rfl
   have z2:List.map dG169x1 (mcells [])=[]:=rfl
   have z3:lenI []=[]:=rfl
   have f46:allFit (Pat.fits p46) []=true:=rfl
   have g46:List.map d46 ([]:List AV)=[]:=rfl
   have hsl:sortL pTwo cfP (List.map n46 (cmpJ J K))=List.map n46 ((cmpJ J K).mergeSort fun x y=>!(ltOf cfP) y x):=by
    unfold sortL
    rw [show List.map (Pat.decD pTwo) (List.map n46 (cmpJ J K))=cmpJ J K from md46 _]
    rfl
   have hfp:allFit (Pat.fits pTwo) (List.map n46 (cmpJ J K))=true:=fa46 _
   have hlen:((cmpJ J K).mergeSort fun x y=>!(ltOf cfP) y x).length=(cmpJ J K).length:=List.length_mergeSort _
   have hb:decide ((cmpJ J K).length≤140737488355328)=true:=decide_eq_true (by omega)
   have huq:=uq_srt swoP totP (0,0) (cmpJ J K)
   simp only [z1,z2,z3,Option.bind_some,r1,List.length_nil,Nat.beq_refl,mcG,faG169x1,mdG169x1,unf2,faL,mdL,f46,g46,Bool.and_self,Bool.and_true,cond_true,r2,hsl,hfp,List.length_map,hb,hlen,decide_true,Nat.le_refl,cl46,fa46,md46]
   by_cases h2:((cmpJ J K).length:Int) < 2
   ·have ht:List.take (cmpJ J K).length (List.map n46 ((cmpJ J K).mergeSort fun x y=>!(ltOf cfP) y x))=List.map n46 ((cmpJ J K).mergeSort fun x y=>!(ltOf cfP) y x):=List.take_of_length_le (by rw [List.length_map,hlen]; exact Nat.le_refl _)
    simp only [h2,decide_true,cond_true,ht,fa46,md46,Option.bind_some]
    rw [← huq,uqN_take (0,0) _ _ (by rw [hlen]; exact Nat.le_refl _) (fun j a b=>by omega),List.take_of_length_le (by rw [hlen]; exact Nat.le_refl _)]
   ·obtain ⟨o,r,e⟩:=R27_out hN PM L (cmpJ J K) ((cmpJ J K).mergeSort fun x y=>!(ltOf cfP) y x) hlen (by omega)
    simp only [h2,decide_false,cond_false,r,Option.bind_some]
    rw [huq] at e
    rcases e with rfl | ⟨rfl,hx⟩
    ·simp only [Sum.elim_inl,mcG,faG169x1,mdG169x1,unf2,faL,mdL,Bool.and_self,fa46,md46,cond_true,Option.bind_some]
    ·have ht:List.take (cmpJ J K).length (List.map n46 (insL (ltOf cfP) (0,0) (cmpJ J K)))=List.map n46 (insL (ltOf cfP) (0,0) (cmpJ J K)):=List.take_of_length_le (by rw [List.length_map,hx]; exact Nat.le_refl _)
     simp only [Sum.elim_inr,List.length_map,hx,decide_true,Nat.le_refl,Bool.and_self,cl46,cond_true,ht,mcG,faG169x1,mdG169x1,unf2,faL,mdL,fa46,md46,Option.bind_some]
  ·have hb:((lst J).2 != (lst K).1)=true:=bne_iff_ne.2 hs
   have ht:twoE J K=2:=by unfold twoE; rw [if_neg (fun c=>c he),if_pos hs]
   rw [hb,cond_true,ht]
   rfl
 ·have hb:(firstNZ [chkT J,chkT K] != 0)=true:=bne_iff_ne.2 he
  have ht:twoE J K=firstNZ [chkT J,chkT K]:=by unfold twoE; rw [if_pos he]
  rw [hb,cond_true,ht,if_neg he]
  rfl
theorem T4_true (m n:Int) (l k:List (Int × Int)):T4 N ((m,n,l),k)=some true:=by
 rw [T4_eq]
 simp only [List.length_map]
 by_cases hs:l.length > 12∨k.length > 12
 ·have:((bif decide ((l.length:Int) > 12) then (some true) else (some (decide ((k.length:Int) > 12)))):Option Bool)=some true:=by
   by_cases h1:(l.length:Int) > 12
   ·rw [decide_eq_true h1]; rfl
   ·rw [decide_eq_false h1,decide_eq_true (show (k.length:Int) > 12 by omega)]; rfl
  rw [this]
  rfl
 ·have:((bif decide ((l.length:Int) > 12) then (some true) else (some (decide ((k.length:Int) > 12)))):Option Bool)=some false:=by
   rw [decide_eq_false (show ¬ (l.length:Int) > 12 by omega),decide_eq_false (show ¬ (k.length:Int) > 12 by omega)]; rfl
  have hl:l.length≤12:=by omega
  have hk:k.length≤12:=by omega
  have e1:=T20_same N l (by omega)
  have e2:=T20_same N k (by omega)
  have e3:=T26_rev hN m n l (by omega)
  have e4:=T27_com hN l k (by omega) (by omega)
  have e5:=T25_chk (m:=m) (n:=n) hN l (by omega)
  have e6:=T29_chk hN l (by omega)
  have e7:=T29_chk hN k (by omega)
  have e8:=T28_first hN [chkT l,chkT k] (by simp)
  have e9:=T30_rev hN m n l (by omega)
  have f46:allFit (Pat.fits p46) []=true:=rfl
  have g46:List.map d46 ([]:List AV)=[]:=rfl
  have hcom:twoE l k=0→T31 N (l,k)=some (comF27 l k).1:=fun h=>by
   obtain ⟨z1,z2,z3⟩:=twoE_zero h
   obtain ⟨q1,⟨A,_,hA,_,hA',_⟩,w1⟩:=chkT_pos z1
   obtain ⟨q2,⟨_,B,_,hB,_,hB'⟩,w2⟩:=chkT_pos z2
   rw [T31_com hN l k (by omega) (by omega) q1 q2 hA (by omega) hB (by omega)]
   unfold comF27
   rw [if_pos h,comJ_eq l k A B (fun p hp=>by have:=(w1 p hp).1; omega) (fun p hp=>by have:=(w2 p hp).2; omega)]
  have hc2:(comF27 l k).2=twoE l k:=by
   unfold comF27
   split
   ·rename_i h; exact h.symm
   ·rfl
  have hcl:(comF27 l k).1.length≤1000000:=by
   unfold comF27
   split
   ·rename_i h
    obtain ⟨z1,z2,z3⟩:=twoE_zero h
    obtain ⟨q1,⟨A,_,hA,_,hA',_⟩,w1⟩:=chkT_pos z1
    obtain ⟨q2,⟨_,B,_,hB,_,hB'⟩,w2⟩:=chkT_pos z2
    have:=uqN_len (0,0) ((cmpJ l k).mergeSort fun x y=>!(ltOf cfP) y x) (cmpJ l k).length
    rw [uq_srt swoP totP] at this
    have h2:=cmpJ_len l k
    have:l.length * k.length≤12 * 12:=Nat.mul_le_mul hl hk
    show (insL (ltOf cfP) (0,0) (cmpJ l k)).length≤_
    omega
   ·simp
  have fin:((((bif (chkJ m n l == 0) then (T30 N (m,n,l)).bind fun w25=>some w25 else some []):Option (List (Int × Int)))).bind fun o27=>(((bif (twoE l k == 0) then (T31 N (l,k)).bind fun w25=>some w25 else some []):Option (List (Int × Int)))).bind fun o32=>
    ((T24 N ((if chkJ m n l=0 then (revJ m n l,(0:Int)) else ([],chkJ m n l)).1,o27)).bind fun y33=>bif y33 then bif (if chkJ m n l=0 then (revJ m n l,(0:Int)) else ([],chkJ m n l)).2 == chkJ m n l then (T24 N ((comF27 l k).1,o32)).bind fun y35=>bif y35 then bif (comF27 l k).2 == twoE l k then (T16 N ()).bind fun y2=>some y2 else some false else some false else some false else some false).bind fun y2=>some y2)=some true:=by
   have s1:(((bif (chkJ m n l == 0) then (T30 N (m,n,l)).bind fun w25=>some w25 else some []):Option (List (Int × Int))))=some (if chkJ m n l=0 then (revJ m n l,(0:Int)) else ([],chkJ m n l)).1:=by
    by_cases h:chkJ m n l=0
    ·rw [if_pos h,h,e9]; rfl
    ·rw [if_neg h,show (chkJ m n l == 0)=false by simp [h]]; rfl
   have s2:(((bif (twoE l k == 0) then (T31 N (l,k)).bind fun w25=>some w25 else some []):Option (List (Int × Int))))=some (comF27 l k).1:=by
    by_cases h:twoE l k=0
    ·rw [hcom h,h]; rfl
    ·rw [show (twoE l k == 0)=false by simp [h]]
     unfold comF27
     rw [if_neg h]; rfl
   have s3:(if chkJ m n l=0 then (revJ m n l,(0:Int)) else ([],chkJ m n l)).2=chkJ m n l:=by
    by_cases h:chkJ m n l=0
    ·rw [if_pos h,h]
    ·rw [if_neg h]
   have s4:(if chkJ m n l=0 then (revJ m n l,(0:Int)) else ([],chkJ m n l)).1.length≤1000000:=by
    split
    ·unfold revJ; simp; omega
    ·simp
   rw [s1,s2,Option.bind_some,Option.bind_some,s3,hc2,T24_same hN _ s4,T24_same hN _ hcl]
   simp only [Option.bind_some,cond_true,beq_self_eq_true]
   rfl
  rw [this,Option.bind_some,cond_false]
  simp only [fa46,md46,Bool.and_true,Bool.and_self,cond_true,Option.bind_some,e1,e2,e3,e4,e5,e6,e7,ff3,mm3,e8,f46,g46]
  by_cases he:firstNZ [chkT l,chkT k]=0
  ·have hz:=firstNZ_zero.1 he
   obtain ⟨q1,_,_⟩:=chkT_pos (hz (chkT l) (by simp))
   obtain ⟨q2,_,_⟩:=chkT_pos (hz (chkT k) (by simp))
   have hkJ:l.length - 1 < l.length:=by omega
   have hkK:k.length - 1 < k.length:=by omega
   have hwJ:IntKind.wrap .i64 ((l.length:Int) - 1)=((l.length - 1:Nat):Int):=by rw [w64 (by omega)]; omega
   have hwK:IntKind.wrap .i64 ((k.length:Int) - 1)=((k.length - 1:Nat):Int):=by rw [w64 (by omega)]; omega
   obtain ⟨a1,a2⟩:=at46 l hkJ
   obtain ⟨b1,b2⟩:=at46 k hkK
   have a1:d46 (nthD (List.map n46 l) (l.length - 1))=lst l:=a1
   have b1:d46 (nthD (List.map n46 k) (k.length - 1))=lst k:=b1
   by_cases hs:(lst l).2=(lst k).1
   ·have ht:twoE l k=0:=by unfold twoE; rw [if_neg (fun c=>c he),if_neg (fun c=>c hs)]
    rw [ht] at fin
    simp only [he,beq_self_eq_true,cond_true,hwJ,hwK,Int.toNat_natCast,a1,a2,b1,b2,in_range hkJ,in_range hkK,Bool.and_self,Option.bind_some,hs,bne_self_eq_false,cond_false]
    exact fin
   ·have hb:((lst l).2 != (lst k).1)=true:=bne_iff_ne.2 hs
    have ht:twoE l k=2:=by unfold twoE; rw [if_neg (fun c=>c he),if_pos hs]
    rw [ht] at fin
    simp only [he,beq_self_eq_true,cond_true,hwJ,hwK,Int.toNat_natCast,a1,a2,b1,b2,in_range hkJ,in_range hkK,Bool.and_self,Option.bind_some,hb]
    exact fin
  ·have ht:twoE l k=firstNZ [chkT l,chkT k]:=by unfold twoE; rw [if_pos he]
   have hb:(firstNZ [chkT l,chkT k] == 0)=false:=by simp [he]
   rw [ht,hb] at fin
   simp only [hb,cond_false,Option.bind_some]
   exact fin
end
end Go.Proofs.YtfiopgedfcaodaaGreatDoor
