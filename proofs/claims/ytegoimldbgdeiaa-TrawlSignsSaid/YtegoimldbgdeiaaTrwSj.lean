/- The program's check of a way that turns. -/
import Derived.Test.YtegoimldbgdeiaaTrwSi
set_option linter.all false
namespace Go.Proofs.Ytegoimldbgdeiaa
open Go Go.Am
open List (map)
open Int (toNat)
open Go.IntKind (wrap)
open Go.Am.aM (fits)
set_option maxRecDepth 100000
section
variable {N:Nat} (hN:ey N)
include hN
theorem Nh (t:cu) (p:Int) (w:List Int) (hw:w.length≤1000000):ar (gT N (p,w)) N (0,t)=some (match w.findIdx? (fun i=>decide (i < 0) || decide (i≥(t.2.length:Int))) with | some k=>.inl ((k:Int),t) | none=>.inr t):=by
 have key:=pt (rd:=gT N (p,w)) w (fun i=>decide (i < 0) || decide (i≥(t.2.length:Int))) (fun k=>((k:Int),t)) (fun k=>.inl ((k:Int),t)) (.inr t) (fun k hk=>by
  obtain ⟨k1,k2⟩:=EG w hk;have wr:wrap .i64 ((k:Int)+1)=((k+1:Nat):Int):=aR (by omega);cases c1:decide (w[k] < 0) with
  |true=>simp only [gT,List.length_map,Int.toNat_natCast,ap hk,ah hk,k1,k2,c1,Bool.and_self,cond_true,bW,cj,bX,ck,Option.bind_some,Bool.true_or,if_true]
  |false=>
   cases c2:decide (w[k]≥(t.2.length:Int)) <;> simp only [gT,List.length_map,Int.toNat_natCast,ap hk,ah hk,k1,k2,c1,c2,Bool.and_self,cond_true,cond_false,bW,cj,bX,ck,Option.bind_some,Bool.false_or,if_true,if_false,Bool.false_eq_true,wr]) (by
  simp only [gT,List.length_map,aJ,cond_false,cond_true,Bool.and_self,bW,cj,bX,ck,Option.bind_some]) N (by unfold ey at hN; omega)
 exact key
theorem Ni (t:cu) (p:Int) (w:List Int) (hw:w.length≤1000000) (ho:pI t w=false):ar (kZ N (p,w)) N (p,false,0,t)=some (match b8 t w (p,false) with | some y=>.inr (y.1,y.2,t) | none=>.inl (21,t)):=by
 have key:=fQ (rd:=kZ N (p,w)) w (fun (s:Int × Bool) k=>(s.1,s.2,(k:Int),t)) (WH t) (fun s=>.inr (s.1,s.2,t)) (fun _=>.inl (21,t)) (fun _ _=>True) (fun s k hk _=>⟨by
  obtain ⟨k1,k2⟩:=EG w hk;obtain ⟨i,hi,KI⟩:=IH ho _ (List.getElem_mem hk);rw [hi] at k1;obtain ⟨a1,a2⟩:=wv t.2 KI;have wr:wrap .i64 ((k:Int)+1)=((k+1:Nat):Int):=aR (by omega);rw [hi];unfold WH cO;rw [Int.toNat_natCast,fC t KI];obtain ⟨at_,f⟩:=s;by_cases h1:t.2[i].1=at_
  ·rw [if_pos h1];have e1:(at_ == t.2[i].1)=true:=by rw [h1]; exact beq_self_eq_true _
   simp only [kZ,List.length_map,Int.toNat_natCast,ap hk,ah hk,k1,k2,ah KI,a1,a2,e1,Bool.and_self,cond_true,cond_false,Bool.not_true,bW,cj,bX,ck,Option.bind_some,wr,Sum.map_inl];rfl
  ·have e1:(at_ == t.2[i].1)=false:=by simpa using (fun e=>h1 e.symm)
   by_cases h2:t.2[i].2.2.1=at_
   ·rw [if_neg h1,if_pos h2];have e2:(at_ == t.2[i].2.2.1)=true:=by rw [h2]; exact beq_self_eq_true _
    simp only [kZ,List.length_map,Int.toNat_natCast,ap hk,ah hk,k1,k2,ah KI,a1,a2,e1,e2,Bool.and_self,cond_true,cond_false,Bool.not_true,bW,cj,bX,ck,Option.bind_some,wr,Sum.map_inl];rfl
   ·rw [if_neg h1,if_neg h2];have e2:(at_ == t.2[i].2.2.1)=false:=by simpa using (fun e=>h2 e.symm)
    simp only [kZ,List.length_map,Int.toNat_natCast,ap hk,ah hk,k1,k2,ah KI,a1,a2,e1,e2,Bool.and_self,cond_true,cond_false,Bool.not_false,bW,cj,bX,ck,Option.bind_some,wr,Sum.map_inr],fun _ _=>trivial⟩) (fun s _=>by
  simp only [kZ,List.length_map,aJ,cond_false,cond_true,Bool.and_self,bW,cj,bX,ck,Option.bind_some]) N (p,false) 0 (Nat.zero_le _) (by unfold ey at hN; omega) trivial
 rw [List.drop_zero,Nf] at key;have key:ar (kZ N (p,w)) N (p,false,0,t)=_:=key;rw [key];cases b8 t w (p,false) <;> rfl
theorem Qq (t:cu) (w:Int × List Int):NP N (t,w)=some (if dD t≠0 then dD t else B6 t w):=by
 obtain ⟨p,w⟩:=w;have k0:=Hj hN t;have k0:MC N (t.1,t.2)=some (dD t):=k0;rw [show NP N (t,(p,w))=NP N ((t.1,t.2),(p,w)) from rfl,Ux];have bs:∀ z:Int,(z == z)=true:=fun z=>beq_self_eq_true z
 have f29:∀ a b c:Int,allFit (fits EC) [AV.int .i64 a,AV.int .i64 b,AV.int .i64 c]=true:=fun _ _ _=>rfl
 have m29:∀ a b c:Int,map d29 [AV.int .i64 a,AV.int .i64 b,AV.int .i64 c]=[a,b,c]:=fun _ _ _=>rfl
 have k51:∀ a b c:Int,G3 N [a,b,c]=some (bq [a,b,c]):=fun a b c=>oe hN _ (by show 3≤_; omega)
 have fz:∀ a b c:Int,bq [a,b,c]=if a≠0 then a else if b≠0 then b else c:=fun a b c=>by
  by_cases h1:a=0 <;> by_cases h2:b=0 <;> by_cases h3:c=0 <;> simp [bq,h1,h2,h3]
 -- the first three
 have first:∀ c:Int,c=(if p < 0∨p≥(t.1.length:Int) then 10 else 0)→bq [dD t,(if decide ((w.length:Int) > 256)=true then 5 else 0),c]=if dD t≠0 then dD t else if w.length > 256 then 5 else if p < 0∨p≥(t.1.length:Int) then 10 else 0:=by
  intro c hc;rw [fz,hc];by_cases a1:dD t≠0
  ·rw [if_pos a1,if_pos a1]
  ·rw [if_neg a1,if_neg a1];by_cases a2:w.length > 256
   ·have:(w.length:Int) > 256:=by omega
    simp [a2,this]
   ·have:¬ (w.length:Int) > 256:=by omega
    simp [a2,this]
 have hA:((bif decide (p < 0) then (Ao N (true,10)).bind fun y4=>(some [dD t,(if decide ((w.length:Int) > 256)=true then 5 else 0),y4]:Option (List Int)).bind fun x6=>(G3 N x6).bind fun y5=>some (y5,t.1,t.2) else (Ao N (decide (p≥(t.1.length:Int)),10)).bind fun y8=>(some [dD t,(if decide ((w.length:Int) > 256)=true then 5 else 0),y8]:Option (List Int)).bind fun x6=>(G3 N x6).bind fun y5=>some (y5,t.1,t.2)):Option (Int × cu))=some ((if dD t≠0 then dD t else if w.length > 256 then 5 else if p < 0∨p≥(t.1.length:Int) then 10 else 0),t):=by
  by_cases c:p < 0
  ·rw [decide_eq_true c];simp only [cond_true,mr,Option.bind_some,k51,if_true];rw [first 10 (by rw [if_pos (.inl c)])]
  ·rw [decide_eq_false c];simp only [cond_false,mr,Option.bind_some,k51];rw [first _ (by by_cases d:p≥(t.1.length:Int) <;> simp [c,d])]
 simp only [List.length_map,bW,cj,bX,ck,dI,dJ,bs,WI,Bool.and_self,Bool.and_true,cond_true,Option.bind_some,k0,mr,f29,m29] at hA ⊢;rw [hA];simp only [Option.bind_some];by_cases h0:dD t≠0
 ·have:(dD t != 0)=true:=by simpa using h0
  rw [if_pos h0,if_pos h0,this]; rfl
 ·rw [if_neg h0,if_neg h0];unfold B6;show _=some (if w.length > 256 then 5 else if p < 0∨p≥(t.1.length:Int) then 10 else if pI t w=true then 10 else Kq t (p,w));by_cases h1:w.length > 256
  ·rw [if_pos h1,if_pos h1]; rfl
  ·rw [if_neg h1,if_neg h1];by_cases h2:p < 0∨p≥(t.1.length:Int)
   ·rw [if_pos h2,if_pos h2]; rfl
   ·rw [if_neg h2,if_neg h2];have k1:=Nh hN t p w (by omega);have k1:ar (gT N (p,w)) N (0,t.1,t.2)=_:=k1;show ((ar (gT N (p,w)) N (0,t.1,t.2)).bind _).bind _=_;rw [k1];cases hf:w.findIdx? (fun i=>decide (i < 0) || decide (i≥(t.2.length:Int))) with
    |some i=>
     rw [List.findIdx?_eq_some_iff_getElem] at hf;obtain ⟨hi,h3,_⟩:=hf;have:pI t w=true:=by unfold pI; rw [List.any_eq_true]; exact ⟨_,List.getElem_mem hi,h3⟩
     rw [if_pos this];simp only [Option.bind_some,Sum.elim_inl];rw [decide_eq_true (show (i:Int)≥0 by omega)]; rfl
    |none=>
     rw [List.findIdx?_eq_none_iff] at hf;have ho:pI t w=false:=by unfold pI; rw [List.any_eq_false]; intro x hx; rw [hf x hx]; simp
     have sb:¬ (pI t w=true):=by rw [ho]; simp
     rw [if_neg sb];have k3:=Ni hN t p w (by omega) ho;have k3:ar (kZ N (p,w)) N (p,false,0,t.1,t.2)=_:=k3;simp only [Option.bind_some,Sum.elim_inr];rw [decide_eq_false (show ¬ (-1:Int)≥0 by omega)];simp only [cond_false,k3,Option.bind_some];unfold Kq;show _=some (if b8 t w (p,false)=some (p,true) then 0 else 21);cases b8 t w (p,false) with
     |none=>rfl
     |some y=>
      obtain ⟨q,f⟩:=y;simp only [Sum.elim_inr];by_cases hq:q=p
      ·subst hq;have e:(q != q)=false:=by simp
       rw [e];cases f <;> simp
      ·have e:(q != p)=true:=by simpa using hq
       rw [e];simp [hq]
end
end Go.Proofs.Ytegoimldbgdeiaa
