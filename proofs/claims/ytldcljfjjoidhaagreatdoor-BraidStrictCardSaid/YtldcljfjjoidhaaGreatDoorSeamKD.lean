/- Plain laws: the law of strict texts. -/
import Derived.Test.YtldcljfjjoidhaaGreatDoorSeamKC
import Derived.Test.YtldcljfjjoidhaaGreatDoorBraTk5
set_option linter.all false
open Bool renaming not_true→aac, and_self→aax
open List renaming length_map→aab, isEmpty→aaB
open Option renaming bind_some→aaa
namespace Go.Proofs.YtldcljfjjoidhaaGreatDoor
open Go Go.Am Go.Sort
open List (map)
open Int (toNat)
open Go.IntKind (wrap)
open Go.Am.aM (fits)
set_option maxRecDepth 100000
theorem E6 (p:List bD) (k:Nat):cV p=cV (p.take k)++cV (p.drop k):=by
 unfold cV;rw [← List.flatMap_append,List.take_append_drop]
theorem OP (k:Nat) (p:List bD):di 0 k (map fx p)=map fx (p.take k):=by
 unfold di;rw [List.drop_zero,List.map_take]
section
variable {N:Nat} (hN:fD N)
include hN
theorem Ty (m:Int) (p:List bD) (s:List UInt8) (a:Int) (ha:0≤a∧a≤255):T5 m N (p,s,a)=some true:=by
 have hT:∀ u,T14 N u=some true:=fun _=>rfl
 obtain ⟨b,hb,hs⟩:=XO hN p 7 (by omega);have hb:T26 N (p,7)=some b:=hb;rw [abI];simp only [GU,GV,Bool.and_true,cond_true,aaa,hb];cases b with
 |false=>simp only [Bool.not_false,cond_true,hT,aaa]
 |true=>
  obtain ⟨hl,-⟩:=hs rfl;by_cases h4:((s.length:Nat):Int) > 400
  ·simp only [aac,cond_false,decide_eq_true h4,aaa,cond_true,hT]
  ·have q30:=BP (m:=m) hN s (by omega);have FB:=Hr s;have first:((bif ((tM (cz s)).2.2 == 0) then ((bif aaB (map eV (tM (cz s)).1) then ((bif allFit (fits sf) ([]:List AV) then some (map bj ([]:List AV)) else none:Option (List bD)).bind fun x7=>(EL m N x7).bind fun y6=>(some (y6.1,y6.2))) else bif decide ((0+List.length (map eV (tM (cz s)).1)) * 32≤140737488355328) then ((bif allFit (fits sf) (([]:List AV)++(map eV (tM (cz s)).1)) then some (map bj (([]:List AV)++(map eV (tM (cz s)).1))) else none:Option (List bD)).bind fun x9=>(EL m N x9).bind fun y8=>(some (y8.1,y8.2))) else none:Option (List UInt8 × Int)).bind fun D7=>((bif (D7.2 != 0) then (some true) else (some (!(D7.1 == s))):Option Bool).bind fun sw=>(bif sw then (some (Sum.inr false)) else (some (Sum.inl ()))))) else (some (Sum.inl ()))):Option (Unit ⊕ Bool))=some (Sum.inl ()):=by
    cases hr:tM (cz s) with
    |mk q r=>
    obtain ⟨i,e⟩:=r;rw [hr] at FB;simp only at FB;by_cases he:e=0
    ·subst he;obtain ⟨e1,e2⟩:=Kn hr;have Ys:=zV hN m q;rw [if_pos e1,e2] at Ys;have nz:((0:Int) != 0)=false:=rfl;have hss:(!(s == s))=false:=by simp
     simp only [beq_self_eq_true,cond_true,List.nil_append,aab];cases hq:q with
     |nil=>
      subst hq;have z:(bif allFit (fits sf) ([]:List AV) then some (map bj ([]:List AV)) else none:Option (List bD))=some []:=rfl;have ie:aaB (map eV ([]:List bD))=true:=rfl;simp only [ie,cond_true,z,aaa,Ys,nz,cond_false,hss]
     |cons c t=>
      rw [← hq];have ie:aaB (map eV q)=false:=by rw [hq]; rfl
      have d:decide ((0+q.length) * 32≤140737488355328)=true:=decide_eq_true (by omega);simp only [ie,d,cond_true,cond_false,mZ,na,aax,aaa,Ys,nz,hss]
    ·have X8:(e == 0)=false:=beq_false_of_ne he;simp only [X8,cond_false]
   simp only [aac,cond_false,decide_eq_false h4,aaa,q30];rw [first];simp only [aaa,Sum.elim_inl,Th hN p];by_cases hp:gA p=0
   ·obtain ⟨p1,p2⟩:=qJ hp;have hl7:p.length≤7:=by omega
    have hcr:∀ c∈p,Ox c:=fun c hc=>CV (p2 c hc)
    have tl:=uX hcr p.length (Nat.le_refl _);rw [List.take_length] at tl;have Ys:=zV hN m p;rw [if_pos hp] at Ys;have qx:=BP (m:=m) hN (cV p) (by omega);rw [Kl hp] at qx;have wl:wrap .i64 ((p.length:Int)+1)=((p.length+1:Nat):Int):=by rw [gF (by omega)]; omega
    have wa:wrap .i64 a=a:=gF (by omega);obtain ⟨k,hk,ek⟩:∃ k:Nat,k≤p.length∧Int.tmod a ((p.length+1:Nat):Int)=(k:Int):=by
     refine ⟨a.toNat % (p.length+1),?_,?_⟩
     ·have:=Nat.mod_lt a.toNat (show 0 < p.length+1 by omega);omega
     ·obtain ⟨n,rfl⟩:∃ n:Nat,a=(n:Int):=⟨a.toNat,by omega⟩;rw [Int.toNat_natCast];rfl
    have d1:(!(decide (((p.length+1:Nat):Int)=0)))=true:=by rw [decide_eq_false (by omega)]; rfl
    have hpk:=Hs hp k;have abL:=zV hN m (p.take k);rw [if_pos hpk] at abL;have tk:(p.take k).length≤1000000:=by rw [List.length_take]; omega
    have rk:decide ((0:Int)≤(k:Int)∧(k:Int)≤(p.length:Int))=true:=decide_eq_true (by omega);have ts:=E6 p k;have lk:((cV (p.take k)).length)≤(cV p).length:=by rw [ts,List.length_append]; omega
    have lz:decide ((((cV (p.take k)).length:Nat):Int) > (((cV p).length:Nat):Int))=false:=decide_eq_false (by omega);have agm:decide ((0:Int)≤(((cV (p.take k)).length:Nat):Int)∧(((cV (p.take k)).length:Nat):Int)≤(((cV p).length:Nat):Int))=true:=decide_eq_true (by omega);have sb:(!((di 0 (cV (p.take k)).length (cV p)) == cV (p.take k)))=false:=by
     have:di 0 (cV (p.take k)).length (cV p)=cV (p.take k):=by
      unfold di;rw [List.drop_zero,ts,List.take_left' rfl]
     rw [this]; simp
    have z0:((0:Int) != 0)=false:=rfl;have zw:wrap .i64 (0+0)=0:=by decide
    have agn:=N8 hN (p.take k) tk;simp only [hp,z0,cond_false,GU,GV,mZ,na,Bool.and_true,aax,cond_true,aaa,aab,wl,wa,d1,N8 hN p (by omega),Ys,qx,ek,rk,Int.toNat_natCast,OP,agn,abL,zw,XP hN p (by omega),Ov hN p (by omega),aac,lz,agm,sb];have eU:Ow p 10 3=0:=by unfold Ow; rw [hp]; rfl
    have q27:=Tt hN p 10 3;rw [if_pos eU] at q27;obtain ⟨o1,o2⟩:=oC hp p.length (Nat.le_refl _);rw [List.take_length] at o1;have nl:=zP hN hp;have q48:=CU hN p;have hz:gA p=0→∀ c∈p,cU c=0:=fun h=>(qJ h).2
    have q39:=Td hN p _ q48 hz (by omega);rw [if_pos hp,uV o1] at q39;have q40:=XH hN p _ q48 hz (by omega);rw [if_pos hp] at q40;have q41:=Ke hN (ln p) (by omega);have c1:(10:Int) * ((ln p).length:Int)=((ln p).length:Int) * 10:=Int.mul_comm _ _;have c2:(3:Int) * ((mw (ln p)).length:Int)=((mw (ln p)).length:Int) * 3:=Int.mul_comm _ _;simp only [q27,q39,q40,q41,jG,iZ,aab,abw,c1,c2,zw,beq_self_eq_true,aax,cond_true,aaa,hT]
   ·have hp':(gA p != 0)=true:=bne_iff_ne.2 hp;simp only [hp',cond_true,hT,aaa]
end
end Go.Proofs.YtldcljfjjoidhaaGreatDoor
