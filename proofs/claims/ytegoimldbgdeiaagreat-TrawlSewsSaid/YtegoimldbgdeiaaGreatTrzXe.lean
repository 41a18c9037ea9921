/- Plain laws: the program's flip,its loops: T47. -/
import Derived.Test.YtegoimldbgdeiaaGreatTrzXd
set_option linter.all false
open Bool renaming and_self→aao, and_true→aap
open Int renaming toNat_natCast→aas
open List renaming length_map→aaq
open Option renaming bind_some→aal
namespace Go.Proofs.YtegoimldbgdeiaaGreat
open Go Go.Am
open List (map)
open Int (toNat)
open Go.IntKind (wrap)
open Go.Am.aP (fits)
set_option maxRecDepth 100000
section
variable {N:Nat} (hN:fM N)
include hN
theorem OY (t:fx) (h:t.1.length≤1000) (hs:∀ x∈t.1,x.2≠[]∧x.2.length≤1000) (p:Int) (l:List qq):aB (kP N t) N ((),0,p,[],l,[])=some ((),p,mG t.1,l,nU t.1):=by
 have key:=bi (rd:=kP N t) t.1.length (fun k=>((),(k:Int),p,mG (t.1.take k),l,nU (t.1.take k))) ((),p,mG t.1,l,nU t.1) (fun k hk=>by
  obtain ⟨a1,a2⟩:=se t.1 hk;obtain ⟨h1,h2⟩:=hs _ (List.getElem_mem hk);have ht:(t.1.take k).length=k:=by rw [List.length_take]; omega
  have hr:(mG (t.1.take k)).length=k:=by rw [qy,ht]
  have hp:(nU (t.1.take k)).length=k:=by rw [mw,ht]
  have hp':(nU (t.1.take (k+1))).length=k+1:=by rw [mw,List.length_take]; omega
  have d2:decide ((k+1) * 40≤140737488355328)=true:=decide_eq_true (by omega);have d3:decide (t.1[k].2.length * 16≤140737488355328)=true:=decide_eq_true (by omega);have d4:List.isEmpty (map n132 t.1[k].2)=false:=by
   cases hq:t.1[k].2 with
   |nil=>exact absurd hq h1
   |cons _ _=>rfl
  have et:t.1.take k++[t.1[k]]=t.1.take (k+1):=by rw [List.take_add_one,List.getElem?_eq_getElem hk]; rfl
  have es1:mG (t.1.take k)++[t.1[k].2]=mG (t.1.take (k+1)):=by rw [← et]; exact OU _ _
  have es2:nU (t.1.take k)++[(t.1[k].1,k,t.1[k].2.length)]=nU (t.1.take (k+1)):=by
   rw [← et,← OV,ht]
  simp only [kP,jL,aaq,aas,a1,a2,aE hk,ap hk,hr,hp,hp',aaA,aaB,qI,pJ,snP,es1,es2,d2,d3,d4,qG,qH,jl,jm,bX,bY,Nat.beq_refl,beq_self_eq_true,Bool.not_false,bg (show k < 9223372036854775807 by omega),aao,aap,cond_true,aal,eq_self,decide_true]) (by
  simp only [kP,jL,aaq,bc,List.take_length,qI,pJ,qG,qH,jl,jm,bX,bY,Nat.beq_refl,aao,aap,cond_true,cond_false,aal,eq_self,decide_true]) N 0 (Nat.zero_le _) (by unfold fM at hN; omega)
 have e1:mG (t.1.take 0)=[]:=rfl;have e2:nU (t.1.take 0)=[]:=rfl;rw [e1,e2] at key;exact key
theorem Ss (t:fx) (p:Nat) (hp:p < t.1.length) (hs:t.1[p].2.length≤1000) (q:Int) (l:List qq) (x:Nat × Nat) :
  aB (pG N ((),(p:Int),mG t.1,l,nU t.1)) N (0,wrap .i64 ((t.1[p].2.length:Int) - 1),q,(mG t.1).set p t.1[p].2,l,nU t.1,x)=some (q,(mG t.1).set p t.1[p].2.reverse,l,nU t.1,x):=by
 obtain ⟨a1,a2⟩:=gP t.1 hp;have P0:p < (mG t.1).length:=by rw [qy]; exact hp
 generalize hsd:t.1[p].2=s at *;have key:=bi (rd:=pG N ((),(p:Int),mG t.1,l,nU t.1)) (s.length / 2) (fun k=>((k:Int),(s.length:Int) - 1 - (k:Int),q,(mG t.1).set p (lR s k),l,nU t.1,x)) (q,(mG t.1).set p s.reverse,l,nU t.1,x) (fun k hk=>by
  obtain ⟨m,hm⟩:∃ m:Nat,(s.length:Int) - 1 - (k:Int)=(m:Int):=⟨s.length - 1 - k,by omega⟩;have hmm:m=s.length - 1 - k:=by omega
  have hl:=kn s k;have GM:k < (lR s k).length:=by omega
  have hm2:m < (lR s k).length:=by omega
  have hk3:k < s.length:=by omega
  have hm3:m < s.length:=by omega
  obtain ⟨b1,b2⟩:=Dh (lR s k) GM;obtain ⟨c1,c2⟩:=Dh (lR s k) hm2;have d1:decide ((k:Int) < (m:Int))=true:=by rw [decide_eq_true_eq]; omega
  have es:((lR s k).set k (lR s k)[m]).set m (lR s k)[k]=lR s (k+1):=by
   subst hmm;exact LQ s k hk
  have es':((lR s k).set k ((lR s k)[m].1,(lR s k)[m].2)).set m ((lR s k)[k].1,(lR s k)[k].2)=lR s (k+1):=es;have e1:wrap .i64 ((m:Int) - 1)=(s.length:Int) - 1 - ((k+1:Nat):Int):=by rw [Pd (by omega)]; omega
  have dk:decide (k < s.length)=true:=decide_eq_true hk3;have dm:decide (m < s.length)=true:=decide_eq_true hm3;simp only [pG,hm,d1,aaq,aas,Nat.zero_add,a1,ap hk3,ap hm3,roP _ P0,stP,TH,hl,dk,dm,b1,b2,c1,c2,es',e1,aaC,List.length_set,qI,pJ,qG,qH,jl,jm,bX,bY,bg (show k < 9223372036854775807 by omega),aao,aap,cond_true,aal,eq_self,decide_true]) (by
  have d1:decide (((s.length / 2:Nat):Int) < (s.length:Int) - 1 - ((s.length / 2:Nat):Int))=false:=by rw [decide_eq_false_iff_not]; omega
  simp only [pG,d1,OX,qI,pJ,qG,qH,jl,jm,bX,bY,aao,aap,cond_true,cond_false,aal,eq_self,decide_true]) N 0 (Nat.zero_le _) (by unfold fM at hN; omega)
 have e0:wrap .i64 ((s.length:Int) - 1)=(s.length:Int) - 1 - ((0:Nat):Int):=by rw [Pd (by omega)]; omega
 rw [e0];rw [LP] at key;exact key
theorem OZ (rows:List (List (Int × Int))) (p:Nat) (hp:p < rows.length) (s:List (Int × Int)) (hs:s.length≤1000) (q:Int) (l:List qq) (pn:List (List UInt8 × Nat × Nat)) (o:Int × List (List (Int × Int)) × List qq × List (List UInt8 × Nat × Nat)) :
  aB (sI N (o.1,o.2.1,o.2.2.1,o.2.2.2,p,s.length)) N (0,q,rows.set p s,l,pn,p,s.length)=some (q,rows.set p (s.map oV),l,pn,p,s.length):=by
 have key:=bi (rd:=sI N (o.1,o.2.1,o.2.2.1,o.2.2.2,p,s.length)) s.length (fun k=>((k:Int),q,rows.set p (nI oV s k),l,pn,p,s.length)) (q,rows.set p (s.map oV),l,pn,p,s.length) (fun k hk=>by
  have hl:=BD oV s (Nat.le_of_lt hk);have GM:k < (nI oV s k).length:=by omega
  obtain ⟨b1,b2⟩:=Dh (nI oV s k) GM;rw [Kc oV s hk] at b1;have es:(nI oV s k).set k (s[k].1,wrap .i64 (0 - s[k].2))=nI oV s (k+1):=Dk oV s hk;have dk:decide (k < s.length)=true:=decide_eq_true hk;simp only [sI,sf,aaq,aas,aE hk,ap hk,roP _ hp,stP,TH,hl,dk,b1,b2,es,aaC,qI,pJ,qG,qH,jl,jm,bX,bY,bg (show k < 9223372036854775807 by omega),aao,aap,cond_true,aal,eq_self,decide_true]) (by
  simp only [sI,sf,bc,GA,qI,pJ,qG,qH,jl,jm,bX,bY,aao,aap,cond_true,cond_false,aal,eq_self,decide_true]) N 0 (Nat.zero_le _) (by unfold fM at hN; omega)
 have e0:nI oV s 0=s:=Dl oV s;rw [e0] at key;exact key
end
end Go.Proofs.YtegoimldbgdeiaaGreat
