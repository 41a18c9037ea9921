/- Plain laws: trawls told,compared,unsewn; the reference's flip. -/
import Derived.Test.YtegoimldbgdeiaaGreatTrzX
import Derived.Test.YtegoimldbgdeiaaGreatSeamKD
set_option linter.all false
open Bool renaming and_self→aap, and_true→aas, not_true→aaO
open Int renaming toNat_natCast→aaq
open List renaming length_map→aal, length_take→aav, getElem?_eq_getElem→aax, take_add_one→aaK, take_length→aaL, map_append→aaM, length_nil→aaN
open Nat renaming zero_le→aaI
open Option renaming bind_some→aao
namespace Go.Proofs.YtegoimldbgdeiaaGreat
open Go Go.Am
open List (map)
open Int (toNat)
open Go.IntKind (wrap)
open Go.Am.aP (fits)
set_option maxRecDepth 100000
theorem OM (l:List (Int × Int)) (a b:Int):map tv l++[AV.agg [AV.int .i64 a,AV.int .i64 b]]=map tv (l++[(a,b)]):=by rw [aaM]; rfl
theorem Xr (l:List nJ) (x:List UInt8) (s:List (Int × Int)):map iB l++[AV.agg [AV.str x,AV.list .gQ 2 (map tv s)]]=map iB (l++[(x,s)]):=by rw [aaM]; rfl
theorem BA (l:List qq) (a b c d:Int) (w:Bool):map vA l++[AV.agg [AV.int .i64 a,AV.int .i64 b,AV.int .i64 c,AV.int .i64 d,AV.bool w]]=map vA (l++[(a,b,c,d,w)]):=by rw [aaM]; rfl
theorem TF:allFit (fits EL) ([]:List AV)=true∧map d94 ([]:List AV)=[]∧(map tv ([]:List (Int × Int))).length=0:=⟨rfl,rfl,rfl⟩
theorem ye:allFit (fits nE) ([]:List AV)=true∧map d92 ([]:List AV)=[]∧(map iB ([]:List nJ)).length=0:=⟨rfl,rfl,rfl⟩
theorem tx:allFit (fits tu) ([]:List AV)=true∧map d79 ([]:List AV)=[]∧(map vA ([]:List qq)).length=0:=⟨rfl,rfl,rfl⟩
section
variable {N:Nat} (hN:fM N)
include hN
theorem ON (t:fx) (p:Nat) (hp:p < t.1.length) (hs:t.1[p].2.length≤1000) (acc:List nJ) (nm:List UInt8) :
  aB (pH N t ((p:Int),acc,())) N (0,nm,[])=some (nm,t.1[p].2):=by
 obtain ⟨a1,a2⟩:=se t.1 hp;have key:=bi (rd:=pH N t ((p:Int),acc,())) t.1[p].2.length (fun k=>((k:Int),nm,t.1[p].2.take k)) (nm,t.1[p].2) (fun k hk=>by
  obtain ⟨b1,b2⟩:=Dh t.1[p].2 hk;have ht:(t.1[p].2.take k).length=k:=by rw [aav]; omega
  have mC:(t.1[p].2.take (k+1)).length=k+1:=by rw [aav]; omega
  have d2:decide ((k+1) * 16≤140737488355328)=true:=decide_eq_true (by omega);have es:t.1[p].2.take k++[(t.1[p].2[k].1,t.1[p].2[k].2)]=t.1[p].2.take (k+1):=by rw [aaK,aax hk]; rfl
  simp only [pH,aal,aaq,a1,b1,b2,aE hk,ap hk,ht,mC,d2,OM,es,Lw,Lx,bg (show k < 9223372036854775807 by omega),aap,aas,cond_true,aao,eq_self,decide_true]) (by
  simp only [pH,aal,aaq,a1,bc,aaL,Lw,Lx,aap,aas,cond_true,cond_false,aao,eq_self,decide_true]) N 0 (aaI _) (by unfold fM at hN; omega)
 exact key
theorem OO (t:fx) (h:t.1.length≤1000) (hs:∀ x∈t.1,x.2.length≤1000):aB (Bz N t) N (0,[],())=some (t.1,()):=by
 have key:=bi (rd:=Bz N t) t.1.length (fun k=>((k:Int),t.1.take k,())) (t.1,()) (fun k hk=>by
  obtain ⟨a1,a2⟩:=se t.1 hk;have ht:(t.1.take k).length=k:=by rw [aav]; omega
  have mC:(t.1.take (k+1)).length=k+1:=by rw [aav]; omega
  have d2:decide ((k+1) * 40≤140737488355328)=true:=decide_eq_true (by omega);have es:t.1.take k++[(t.1[k].1,t.1[k].2)]=t.1.take (k+1):=by rw [aaK,aax hk]; rfl
  have q:=ON hN t k hk (hs _ (List.getElem_mem hk)) (t.1.take k) t.1[k].1;simp only [Bz,aal,aaq,a1,a2,aE hk,ap hk,ht,mC,d2,q,Xr,es,nS,nT,TF,bg (show k < 9223372036854775807 by omega),aap,aas,cond_true,aao,eq_self,decide_true,aaN]) (by
  simp only [Bz,aal,bc,aaL,nS,nT,aap,aas,cond_true,cond_false,aao,eq_self,decide_true]) N 0 (aaI _) (by unfold fM at hN; omega)
 exact key
theorem LM (t:fx) (h:t.2.length≤1000000) (l:List nJ):aB (vM N t) N (0,l,[])=some (l,t.2):=by
 have key:=bi (rd:=vM N t) t.2.length (fun k=>((k:Int),l,t.2.take k)) (l,t.2) (fun k hk=>by
  obtain ⟨a1,a2⟩:=Bm t.2 hk;have ht:(t.2.take k).length=k:=by rw [aav]; omega
  have mC:(t.2.take (k+1)).length=k+1:=by rw [aav]; omega
  have d2:decide ((k+1) * 40≤140737488355328)=true:=decide_eq_true (by omega);have es:t.2.take k++[(t.2[k].1,t.2[k].2.1,t.2[k].2.2.1,t.2[k].2.2.2.1,t.2[k].2.2.2.2)]=t.2.take (k+1):=by rw [aaK,aax hk]; rfl
  simp only [vM,vL,aal,aaq,a1,a2,aE hk,ap hk,ht,mC,d2,BA,es,nS,nT,qN,qO,bg (show k < 9223372036854775807 by omega),aap,aas,cond_true,aao,eq_self,decide_true]) (by
  simp only [vM,vL,aal,bc,aaL,nS,nT,qN,qO,aap,aas,cond_true,cond_false,aao,eq_self,decide_true]) N 0 (aaI _) (by unfold fM at hN; omega)
 exact key
theorem OP (t:fx) (h:t.1.length≤1000) (hs:∀ x∈t.1,x.2.length≤1000) (h2:t.2.length≤1000000):Sg N t=some t:=by
 rw [Xm];simp only [nS,nT,qN,qO,ye,tx,aal,aaN,OO hN t h hs,LM hN t h2,aap,aas,cond_true,aao,eq_self,decide_true]
theorem OQ (t:fx) (p:Nat) (hp:p < t.1.length) (hs:t.1[p].2.length≤1000):aB (sg N t t (p:Int)) N 0=some (.inr ()):=by
 obtain ⟨a1,a2⟩:=vN t.1 hp;have key:=bi (rd:=sg N t t (p:Int)) t.1[p].2.length (fun k=>(k:Int)) (.inr ()) (fun k hk=>by
  obtain ⟨b1,b2⟩:=OC t.1[p].2 hk;simp only [sg,aal,aaq,a1,a2,b1,b2,aE hk,ap hk,ap hp,beq_self_eq_true,bg (show k < 9223372036854775807 by omega),aap,aas,aaO,cond_true,cond_false]) (by
  simp only [sg,aal,aaq,a1,a2,ap hp,bc,aap,cond_true,cond_false]) N 0 (aaI _) (by unfold fM at hN; omega)
 exact key
theorem OR (t:fx) (h:t.1.length≤1000) (hs:∀ x∈t.1,x.2.length≤1000) (h2:t.2.length≤1000000):Sf N (t,t)=some true:=by
 have k1:=bi (rd:=By N t t) t.1.length (fun k=>(k:Int)) (.inr ()) (fun k hk=>by
  obtain ⟨a1,a2⟩:=vN t.1 hk;have q:=OQ hN t k hk (hs _ (List.getElem_mem hk));simp only [By,aal,aaq,a1,a2,aE hk,ap hk,q,beq_self_eq_true,bne_self_eq_false,bg (show k < 9223372036854775807 by omega),aap,aaO,cond_true,cond_false,aao,Sum.elim_inr]) (by
  simp only [By,aal,bc,cond_false]) N 0 (aaI _) (by unfold fM at hN; omega)
 have k2:=bi (rd:=vK N t t) t.2.length (fun k=>(k:Int)) (.inr ()) (fun k hk=>by
  obtain ⟨a1,a2⟩:=LF t.2 hk;simp only [vK,aal,aaq,a1,a2,aE hk,ap hk,beq_self_eq_true,bg (show k < 9223372036854775807 by omega),aap,aas,aaO,cond_true,cond_false]) (by
  simp only [vK,aal,bc,cond_false]) N 0 (aaI _) (by unfold fM at hN; omega)
 have k1:aB (By N t t) N 0=some (.inr ()):=k1;have k2:aB (vK N t t) N 0=some (.inr ()):=k2;rw [Xk];simp only [bne_self_eq_false,cond_false,aao,k1,k2,Sum.elim_inr]
omit hN in
theorem IR {α:Type} (l:List α) (i:Nat) {k:Nat} (hk:k < l.length):(l.take (k+1)).eraseIdx i=if k=i then (l.take k).eraseIdx i else (l.take k).eraseIdx i++[l[k]]:=by
 have ht:(l.take k).length=k:=by rw [aav]; omega
 have e:l.take (k+1)=l.take k++[l[k]]:=by rw [aaK,aax hk]; rfl
 rw [e];rcases Nat.lt_trichotomy i k with c|c|c
 ·rw [List.eraseIdx_append_of_lt_length (by omega),if_neg (by omega)]
 ·subst c;rw [List.eraseIdx_append_of_length_le (by omega),ht,Nat.sub_self,if_pos rfl,List.eraseIdx_of_length_le (show (l.take i).length≤i by omega)];exact List.append_nil _
 ·rw [List.eraseIdx_append_of_length_le (by omega),ht,if_neg (by omega),List.eraseIdx_of_length_le (show (l.take k).length≤i by omega)];obtain ⟨m,hm⟩:∃ m,i - k=m+1:=⟨i - k - 1,by omega⟩;rw [hm]; rfl
theorem Sl (t:fx) (i:Nat) (h2:t.2.length≤1000000):Xd N (t,(i:Int))=some (t.1,t.2.eraseIdx i):=by
 have key:=bi (rd:=xf N t (i:Int)) t.2.length (fun k=>((k:Int),t.1,(t.2.take k).eraseIdx i)) (t.1,t.2.eraseIdx i) (fun k hk=>by
  obtain ⟨a1,a2⟩:=LF t.2 hk;have hl:((t.2.take k).eraseIdx i).length≤k:=by
   have:=List.length_eraseIdx_le (t.2.take k) i;rw [aav] at this;omega
  have d2:decide ((((t.2.take k).eraseIdx i).length+1) * 40≤140737488355328)=true:=decide_eq_true (by omega);have es:=IR t.2 i hk;by_cases c:k=i
  ·have b:(((k:Nat):Int) != ((i:Nat):Int))=false:=by rw [c]; simp
   rw [if_pos c] at es;simp only [xf,vI,vJ,aal,aaq,b,aE hk,es,nS,nT,qN,qO,bg (show k < 9223372036854775807 by omega),aap,aas,cond_true,cond_false,aao,eq_self,decide_true]
  ·have b:(((k:Nat):Int) != ((i:Nat):Int))=true:=by simp; omega
   rw [if_neg c] at es;have es':(t.2.take k).eraseIdx i++[(t.2[k].1,t.2[k].2.1,t.2[k].2.2.1,t.2[k].2.2.2.1,t.2[k].2.2.2.2)]=(t.2.take (k+1)).eraseIdx i:=es.symm;have hl':((t.2.take (k+1)).eraseIdx i).length=((t.2.take k).eraseIdx i).length+1:=by rw [es]; simp
   simp only [xf,vI,vJ,aal,aaq,b,a1,a2,aE hk,ap hk,BA,es',hl',d2,nS,nT,qN,qO,bg (show k < 9223372036854775807 by omega),aap,aas,cond_true,cond_false,aao,eq_self,decide_true]) (by
  simp only [xf,vI,vJ,aal,bc,aaL,nS,nT,qN,qO,aap,aas,cond_true,cond_false,aao,eq_self,decide_true]) N 0 (aaI _) (by unfold fM at hN; omega)
 have key:aB (xf N t (i:Int)) N (0,t.1,[])=some (t.1,t.2.eraseIdx i):=by
  have:=key;simp only [List.take_zero,List.eraseIdx_nil] at this;exact this
 rw [show Xd N (t,(i:Int))=Xd N ((t.1,t.2),(i:Int)) from rfl,Xf];simp only [nS,nT,qN,qO,tx,aap,aas,cond_true,aao,aal,aaN,key,eq_self,decide_true]
end
end Go.Proofs.YtegoimldbgdeiaaGreat
