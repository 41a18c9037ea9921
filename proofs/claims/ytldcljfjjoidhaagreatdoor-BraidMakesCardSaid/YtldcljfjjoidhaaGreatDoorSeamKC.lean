/- Plain laws: a net in order,each bar once (reference). -/
import Derived.Test.YtldcljfjjoidhaaGreatDoorSeamKB
import Derived.Test.YtldcljfjjoidhaaGreatDoorBraV
import Derived.Test.YtldcljfjjoidhaaGreatDoorAmKL
import Derived.Test.YtldcljfjjoidhaaGreatDoorBraLp
set_option linter.all false
open Bool renaming and_self→aau, and_true→aaB, false_eq_true→abj
open Int renaming toNat_natCast→aaO
open List renaming length_map→aao, length_singleton→aaY, length_append→abi, length_cons→abn, drop_zero→abp, range→abq, map_append→abr, getElem_mem→abt, getElem?_eq_getElem→abu, length_range→abv, length_take→abw, mem_map→aby, mem_range→abz, take_add_one→abA, mem_append→abC, length_mergeSort→abD
open Nat renaming zero_le→abo, beq_refl→abx
open Option renaming bind_some→aad
open Sum renaming elim_inl→abB
namespace Go.Proofs.YtldcljfjjoidhaaGreatDoor
open Go Go.Am Go.Sort
open List (map)
open Int (toNat)
open Go.IntKind (wrap)
open Go.Am.aO (fits)
set_option maxRecDepth 100000
theorem rr {V X:Type} {rd:V→Option (V ⊕ X)} (m:Nat) (E:Nat→V) (b:Nat→Bool) (y:Nat→X) (x:X)
  (h:∀ k,k < m→rd (E k)=some (if b k then .inr (y k) else .inl (E (k+1)))) (h0:rd (E m)=some (.inr x)) (n:Nat) (hn:m < n) :
  az rd n (E 0)=some (match (abq m).find? b with | some j=>y j | none=>x):=by
 have key:=mA (rd:=rd) (S:=Unit) (Y:=Nat) (abq m) (fun _ k=>E k) (fun _ i=>if b i then .inr i else .inl ()) (fun _=>x) y (fun _ _=>True)
  (fun s k hk _=>by
   have hk:k < m:=by simpa using hk
   refine ⟨?_,fun _ _=>trivial⟩;rw [List.getElem_range,h k hk];cases b k <;> rfl) (fun _ _=>by rw [abv]; exact h0) n () 0 (abo _) (by simpa using hn) trivial
 rw [abp] at key;refine key.trans (congrArg some ?_);clear key h h0 hn;generalize abq m=l
 induction l with
 |nil=>rfl
 |cons a l ih=>
  simp only [foldI,List.find?_cons];cases b a with
  |true=>rfl
  |false=>simp only [abj,if_false,abB]; exact ih
theorem P5 (a b:aF):(a.1 == b.1&&(a.2.1 == b.2.1&&(a.2.2 == b.2.2&&true)))=decide (a=b):=by
 rw [Bool.eq_iff_iff];simp [Prod.ext_iff]
theorem GB (N:Nat) (a b:aF):XD N (a,b)=some ((ltOf gj) a b):=by
 rw [PZ,vV];by_cases h1:a.2.1=b.2.1
 ·by_cases h2:a.1=b.1
  ·simp [h1,h2]
  ·have hb:(a.1 != b.1)=true:=bne_iff_ne.2 h2;simp [h1,h2,hb]
 ·have hb:(a.2.1 != b.2.1)=true:=bne_iff_ne.2 h1;simp [h1,hb]
theorem I6 (l:List aF) (a b:Nat):gJ a b (map cC l)=map cC ((l.take b).drop a):=by simp [gJ,List.map_take,List.map_drop]
section
variable {N:Nat} (hN:fC N)
include hN
theorem aaw (l s:List aF) (i:Nat) (hi:i < l.length) (hl:l.length≤1000000) (hs:s.length≤2000000):az (oI N l (s,(i:Int))) N 0=some ((s.takeWhile fun x=>(ltOf gj) x l[i]).length:Int):=by
 obtain ⟨z1,z2⟩:=gl l hi;have q:=rr (rd:=oI N l (s,(i:Int))) s.length (fun k=>(k:Int)) (fun k=>!(ltOf gj) (s.getD k (0,0,0)) l[i]) (fun k=>(k:Int)) (s.length:Int) (fun k hk=>by
  obtain ⟨a1,a2⟩:=gl s hk;have e:s.getD k (0,0,0)=s[k]:=by simp [hk]
  rw [e];have hb:XD N ((s[k].1,s[k].2.1,s[k].2.2),(l[i].1,l[i].2.1,l[i].2.2))=some ((ltOf gj) s[k] l[i]):=GB N s[k] l[i];simp only [oI,aao,aaO,a1,a2,z1,z2,a7 hk,ay hk,ay hi,aau,cond_true,bw (show k < 9223372036854775807 by omega),hb,aad];cases (ltOf gj) s[k] l[i] <;> rfl) (by
  simp only [oI,aao,bO,cond_false,aad]) N (by unfold fC at hN; omega)
 have q':az (oI N l (s,(i:Int))) N 0=_:=q;rw [q'];have:=U8 s (fun x=>(ltOf gj) x l[i]) (0,0,0);rw [← this];cases (abq s.length).find? fun j=>!(ltOf gj) (s.getD j (0,0,0)) l[i] <;> rfl
theorem P6 (l:List aF) (s:List aF) (k:Nat) (hl:l.length≤1000000) (hs:s.length≤2000000) (hk:k < l.length):vW N l (s,(k:Int))=some (.inl (tw (ltOf gj) (0,0,0) l[k] s,((k+1:Nat):Int))):=by
 obtain ⟨a1,a2⟩:=gl l hk;have p0:=aaw hN l s k hk hl hs;have hle:(s.takeWhile fun x=>(ltOf gj) x l[k]).length≤s.length:=(List.takeWhile_sublist _).length_le;unfold tw;simp only;generalize (s.takeWhile fun x=>(ltOf gj) x l[k]).length=a at *;generalize l[k]=o at *;have hc:((bif ((a:Int) == (s.length:Int)) then some true else bif (decide ((0:Int)≤(a:Int)∧(a:Int) < (s.length:Int))&&fits aA (ae (map cC s) a)) then some (!(((aB (ae (map cC s) a)).1 == o.1)&&(((aB (ae (map cC s) a)).2.1 == o.2.1)&&(((aB (ae (map cC s) a)).2.2 == o.2.2)&&true)))) else none):Option Bool)=some (decide (a=s.length∨s.getD a (0,0,0)≠o)):=by
  by_cases h:a=s.length
  ·have hb:((a:Int) == (s.length:Int))=true:=by simp [h]
   rw [hb]; simp [h]
  ·have BR:a < s.length:=by omega
   obtain ⟨b1,b2⟩:=gl s BR;have hb:((a:Int) == (s.length:Int))=false:=beq_false_of_ne (by omega);have e:s.getD a (0,0,0)=s[a]:=by simp [BR]
   rw [hb,b1,b2,ay BR,e,P5];simp only [aau,cond_true,cond_false];congr 1;simp [h]
 have c1:decide ((0:Int)≤(a:Int)∧(a:Int)≤(s.length:Int))=true:=decide_eq_true (by omega);have ht:(List.take a s).length=a:=by rw [abw]; omega
 have hbn:∀ x:Nat,x≤4000000→decide (x * 24≤140737488355328)=true:=fun x hx=>decide_eq_true (by omega)
 have z0:∀ x:List aF,[AV.agg [AV.int .i64 o.1,AV.int .i64 o.2.1,AV.int .i64 o.2.2]]++map cC x=map cC ([o]++x):=fun x=>rfl
 have z1:∀ x y:List aF,(map cC x++[AV.agg [AV.int .i64 o.1,AV.int .i64 o.2.1,AV.int .i64 o.2.2]])++map cC y=map cC (x++[o]++y):=fun x y=>by rw [abr,abr]; rfl
 simp only [vW,kv,yN,aao,a7 hk,aaO,a1,a2,ay hk,aau,cond_true,aad,p0,hc];by_cases hi:a=s.length∨s.getD a (0,0,0)≠o
 ·rw [if_pos hi];simp only [hi,decide_true,cond_true,c1,aau,aaB,I6,abp,List.take_length,beq_self_eq_true];by_cases h0:a=0
  ·subst h0;simp only [List.take_zero,List.map_nil,List.isEmpty_nil,cond_true,List.nil_append,aaY,aao,List.length_drop,decide_true,hbn (1+s.length) (by omega),aau,z0,cq,b9,aad,abp,aaB,bw (show k < 9223372036854775807 by omega)]
  ·have cK:List.isEmpty (map cC (List.take a s))=false:=by
    cases hd:List.take a s with
    |nil=>rw [hd] at ht; simp at ht; omega
    |cons x y=>rfl
   simp only [cK,cond_false,List.nil_append,abi,aaY,aao,List.length_drop,ht,Nat.zero_add,hbn a (by omega),hbn (a+1) (by omega),hbn (a+1+(s.length - a)) (by omega),decide_true,cond_true,aau,z1,cq,b9,aad,aaB,bw (show k < 9223372036854775807 by omega)]
 ·rw [if_neg hi];simp only [hi,decide_false,cond_false,cq,b9,aaB,cond_true,aad,bw (show k < 9223372036854775807 by omega)]
theorem Vx (l:List aF) (hl:l.length≤1000000):T62 N l=some (Gv (ltOf gj) (0,0,0) l):=by
 rw [aaj];have key:=kL (rd:=vW N l) l (fun s k=>(s,(k:Int))) (fun s k=>tw (ltOf gj) (0,0,0) k s) (fun s=>s) (fun s k=>s.length≤k∧k≤l.length) (fun s k hk hs=>by
  refine ⟨P6 hN l s k hl (by omega) hk,?_⟩;have:=Gw (lt:=(ltOf gj)) (0,0,0) l[k] s;omega) (fun s _=>by
  simp only [vW,kv,yN,aao,bO,cond_false,cq,b9,aaB,cond_true,aad]) N [] 0 (abo _) (by unfold fC at hN; omega) ⟨Nat.le_refl _,abo _⟩
 have vT:az (vW N l) N ([],0)=_:=key;have z:((bif (allFit (fits aA) ([]:List AV)&&true) then some ((map aB ([]:List AV)),0) else none:Option ((List aF) × Int)).bind fun Xx=>some Xx)=some ([],0):=rfl;rw [z,aad,vT,abp,aad];simp only [cq,b9,cond_true];rfl
end
end Go.Proofs.YtldcljfjjoidhaaGreatDoor
namespace Go.Proofs.YtldcljfjjoidhaaGreatDoor
open Go Go.Am Go.Sort
open List (map)
open Int (toNat)
open Go.IntKind (wrap)
open Go.Am.aO (fits)
set_option maxRecDepth 100000
theorem GC (l:List aF) (p:aF) (x y z:Int) (h:p=(x,y,z)):map cC l++[AV.agg [AV.int .i64 x,AV.int .i64 y,AV.int .i64 z]]=map cC (l++[p]):=by subst h; rw [abr]; rfl
section
variable {N:Nat} (hN:fC N)
include hN
theorem I7 (l:List cQ) {k:Nat} (hk:k < l.length):bM (ae (map iL l) k)=l[k]∧fits qf (ae (map iL l) k)=true:=by
 rw [gd iL l k hk];exact ⟨aii _,aih _⟩
theorem aax (p:List cQ) (i:Nat) (hi:i < p.length) (acc:List aF) (u:Unit) (hc:dJ p[i]=0) (ha:acc.length≤1000000000) :
  az (oJ N p (u,(i:Int),acc)) N (0,acc,p[i].1,p[i].2.1,p[i].2.2.1,p[i].2.2.2.1,p[i].2.2.2.2,())=some (acc++bV p[i],p[i].1,p[i].2.1,p[i].2.2.1,p[i].2.2.2.1,p[i].2.2.2.2,()):=by
 have a:=I7 hN p hi;generalize p[i]=c at *;obtain ⟨h1,h2,h3⟩:=fL hc;have key:=cU (rd:=oJ N p (u,(i:Int),acc)) c.2.2.2.2.toNat (fun k=>((k:Int),acc++dQ c k,c.1,c.2.1,c.2.2.1,c.2.2.2.1,c.2.2.2.2,())) (acc++bV c,c.1,c.2.1,c.2.2.1,c.2.2.2.1,c.2.2.2.2,()) (fun k hk=>by
  have bY:decide ((k:Int) < c.2.2.2.2)=true:=decide_eq_true (by omega);have t1:=iC N c k h1 (by omega);have t2:=iC N c (k+1) h1 (by omega);have q1:=iT c hc k (by omega);have q2:=iT c hc (k+1) (by omega);have hl:(acc++dQ c k).length=acc.length+k:=by rw [abi,iD]
  have hb:decide ((acc.length+k+1) * 24≤140737488355328)=true:=decide_eq_true (by omega);have eb:e8 c k=kQ (au c k) (au c (k+1)):=rfl;have es:acc++dQ c (k+1)=(acc++dQ c k)++[e8 c k]:=by rw [mG,List.append_assoc]
  rw [es];simp only [oJ,pO,aaO,a.1,bY,cond_true,t1,bw (show k < 9223372036854775807 by omega),t2,aad,beq_self_eq_true,aau];unfold kQ at eb;generalize au c k=x at *;generalize au c (k+1)=y at *;by_cases Hi:x.2 > y.2
  ·rw [if_pos Hi] at eb;have w:wrap .i64 (x.1 - y.1)=x.1 - y.1:=fT ⟨by omega,by omega⟩;have sn:=GC (acc++dQ c k) (e8 c k) y.1 y.2 (x.1 - y.1) eb;simp only [Hi,decide_true,cond_true,cq,b9,aao,hl,abx,aau,aaB,aad,w,hb,sn,abi,aaY,iD]
  ·rw [if_neg Hi] at eb;have w:wrap .i64 (y.1 - x.1)=y.1 - x.1:=fT ⟨by omega,by omega⟩;have sn:=GC (acc++dQ c k) (e8 c k) x.1 x.2 (y.1 - x.1) eb;simp only [Hi,decide_true,decide_false,cond_true,cond_false,cq,b9,aao,hl,abx,aau,aaB,aad,w,hb,sn,abi,aaY,iD]) (by
  have oP:decide (((c.2.2.2.2.toNat:Nat):Int) < c.2.2.2.2)=false:=decide_eq_false (by omega);simp only [oJ,pO,aaO,a.1,oP,cond_false,cq,b9,aao,abx,aau,aaB,cond_true,aad];rfl) N 0 (abo _) (by unfold fC at hN; omega)
 have e0:acc++dQ c 0=acc:=by simp [dQ]
 rw [e0] at key;exact key
theorem Vy (p:List cQ) (h:∀ c∈p,dJ c=0) (hp:p.length≤1000000):az (mI N p) N ((),0,[])=some ((),bn p):=by
 refine cU (rd:=mI N p) p.length (fun k=>((),(k:Int),bn (p.take k))) ((),bn p) (fun k hk=>?_) ?_ N 0 (abo _) (by unfold fC at hN; omega)
 ·have a:=I7 hN p hk;have e0:=h p[k] (abt hk);have hl:=rn (p.take k) (fun c hc=>h c (List.mem_of_mem_take hc));rw [abw,Nat.min_eq_left (Nat.le_of_lt hk)] at hl;have b:=aax hN p k hk (bn (p.take k)) () e0 (by omega);rw [r8 p hk];simp only [mI,aao,a7 hk,ay hk,aaO,a.1,a.2,cq,b9,abx,aau,aaB,cond_true,aad,b,bw (show k < 9223372036854775807 by omega)]
 ·simp only [mI,aao,bO,cond_false,cq,b9,abx,aau,aaB,cond_true,aad,List.take_length]
theorem C4 (l:List aF):bg (map cC l)=true:=by
 induction l with
 |nil=>rfl
 |cons x l ih=>exact ih
theorem Vz (p:List cQ) (h:∀ c∈p,dJ c=0) (hp:p.length≤1000000):T91 N p=some ((bn p).mergeSort fun x y=>!(ltOf gj) y x):=by
 have z2:((bif ((Nat.beq 0 (([]:List AV)).length&&Nat.beq 0 (([]:List AV)).length)&&(allFit (fits aA) ([]:List AV)&&true)) then some ((),0,(map aB ([]:List AV))) else none:Option (Unit × Int × cI)).bind fun w23=>some w23)=some ((),0,[]):=rfl;have hl:=rn p h;have es:jA aA gj (map cC (bn p))=map cC ((bn p).mergeSort fun x y=>!(ltOf gj) y x):=by
  unfold jA;rw [show map aA.bC (map cC (bn p))=bn p from b9 _];rfl
 have hb:decide ((bn p).length≤140737488355328)=true:=decide_eq_true (by omega);rw [aav,z2,aad,Vy hN p h hp,aad];simp only [es,aao,abD,decide_true,hb,C4 hN,cq,b9,aau,cond_true]
end
end Go.Proofs.YtldcljfjjoidhaaGreatDoor
namespace Go.Proofs.YtldcljfjjoidhaaGreatDoor
open Go Go.Am Go.Sort
open List (map)
open Int (toNat)
open Go.IntKind (wrap)
open Go.Am.aO (fits)
set_option maxRecDepth 100000
section
variable {N:Nat} (hN:fC N)
include hN
def lq (p:List cQ) (i:Nat):Bool:=i == 0 || !decide (au (p.getD (i - 1) (0,0,false,false,0)) (p.getD (i - 1) (0,0,false,false,0)).2.2.2.2.toNat=((p.getD i (0,0,false,false,0)).1,(p.getD i (0,0,false,false,0)).2.1))
def BA (p:List cQ) (k:Nat):List Int:=((abq k).filter (lq p)).map fun i:Nat=>(i:Int)
theorem A5 (p:List cQ) (k:Nat):BA p (k+1)=if lq p k then BA p k++[(k:Int)] else BA p k:=by
 unfold BA;rw [List.range_succ,List.filter_append,abr];cases h:lq p k <;> simp [h]
theorem EA (p:List cQ) (k:Nat):(BA p k).length≤k:=by
 unfold BA;rw [aao];have:=List.length_filter_le (lq p) (abq k);rwa [abv] at this
theorem Ko (l:List Int) (x:Int):map lS l++[AV.int .i64 x]=map lS (l++[x]):=by rw [abr]; rfl
theorem Kp (q:Int × Int) (x y:Int):(!((q.1 == x)&&(q.2 == y)))=!decide (q=(x,y)):=by
 congr 1;rw [Bool.eq_iff_iff];simp [Prod.ext_iff]
theorem aay (p:List cQ) (h:∀ c∈p,dJ c=0) (hp:p.length≤1000000):T93 N p=some (BA p p.length):=by
 have key:=cU (rd:=vY N p) p.length (fun k=>(BA p k,(k:Int))) (BA p p.length) (fun k hk=>by
  obtain ⟨a1,a2⟩:=I7 hN p hk;have hl:=EA hN p k;have hb:decide (((BA p k).length+1) * 8≤140737488355328)=true:=decide_eq_true (by omega);rw [A5 hN];by_cases h0:k=0
  ·subst h0;have e:lq p 0=true:=rfl;have b0:((0:Int) == 0)=true:=rfl;have w1:wrap .i64 (0+1)=1:=rfl;have i0:decide ((0:Int)≤0∧(0:Int) < (p.length:Int))=true:=decide_eq_true (by omega);have l0:decide ((0:Int) < (p.length:Int))=true:=decide_eq_true (by omega);rw [e,if_pos rfl];simp only [vY,aao,Int.natCast_zero,Int.toNat_zero,l0,i0,a1,a2,b0,aau,aaB,cond_true,decide_true,hb,Ko hN,AI,By,aad,abi,aaY,w1];rfl
  ·obtain ⟨j,rfl⟩:∃ j,k=j+1:=⟨k - 1,by omega⟩;have hj:j < p.length:=by omega
   obtain ⟨b1,b2⟩:=I7 hN p hj;have hm:wrap .i64 (((j+1:Nat):Int) - 1)=(j:Int):=by rw [fT ⟨by omega,by omega⟩]; omega
   have b0:(((j+1:Nat):Int) == 0)=false:=beq_false_of_ne (by omega);have Ps:=ra hN p[j] (h p[j] (abt hj));have e:lq p (j+1)=!decide (au p[j] p[j].2.2.2.2.toNat=(p[j+1].1,p[j+1].2.1)):=by
    unfold lq;have g1:p.getD (j+1 - 1) (0,0,false,false,0)=p[j]:=by simp [hj]
    have g2:p.getD (j+1) (0,0,false,false,0)=p[j+1]:=by simp [hk]
    rw [g1,g2];rfl
   rw [e];simp only [vY,aao,aaO,a7 hk,ay hk,ay hj,hm,a1,a2,b1,b2,b0,aau,aaB,cond_true,cond_false,beq_self_eq_true,Ps,Kp hN,AI,By,decide_true,aad];cases decide (au p[j] p[j].2.2.2.2.toNat=(p[j+1].1,p[j+1].2.1)) with
   |true=>simp only [Bool.not_true,cond_false,abj,if_false,decide_true,AI,By,aad,cond_true,aaB,aau,bw (show j+1 < 9223372036854775807 by omega)]
   |false=>simp only [Bool.not_false,cond_true,if_true,hb,Ko hN,AI,By,decide_true,abi,aaY,aad,aaB,aau,bw (show j+1 < 9223372036854775807 by omega)]) (by
  simp only [vY,aao,bO,cond_false,AI,By,aaB,cond_true,aad,decide_true]) N 0 (abo _) (by unfold fC at hN; omega)
 have vT:az (vY N p) N ([],0)=_:=key;have z:((bif (allFit (fits p3) ([]:List AV)&&true) then some ((map gD ([]:List AV)),0) else none:Option (kM × Int)).bind fun Hh=>bif (decide (0=(map lS Hh.1).length)&&true) then some Hh else none)=some ([],0):=rfl;rw [aaq,z,aad,vT,aad];simp only [AI,By,cond_true]
theorem aaz (p:List cQ) (h:∀ c∈p,dJ c=0) (hp:p.length≤1000000):T46 N p=some (BA p p.length):=by
 have key:=cU (rd:=vX N p) p.length (fun k=>(BA p k,(k:Int))) (BA p p.length) (fun k hk=>by
  obtain ⟨a1,a2⟩:=PJ hN p hk;have hl:=EA hN p k;have hb:decide (((BA p k).length+1) * 8≤140737488355328)=true:=decide_eq_true (by omega);rw [A5 hN];by_cases h0:k=0
  ·subst h0;have e:lq p 0=true:=rfl;have b0:((0:Int) == 0)=true:=rfl;have w1:wrap .i64 (0+1)=1:=rfl;have i0:decide ((0:Int)≤0∧(0:Int) < (p.length:Int))=true:=decide_eq_true (by omega);have l0:decide ((0:Int) < (p.length:Int))=true:=decide_eq_true (by omega);rw [e,if_pos rfl];simp only [vX,aao,Int.natCast_zero,Int.toNat_zero,l0,i0,a1,a2,b0,aau,aaB,cond_true,decide_true,hb,Ko hN,AI,By,aad,abi,aaY,w1];rfl
  ·obtain ⟨j,rfl⟩:∃ j,k=j+1:=⟨k - 1,by omega⟩;have hj:j < p.length:=by omega
   obtain ⟨b1,b2⟩:=PJ hN p hj;have hm:wrap .i64 (((j+1:Nat):Int) - 1)=(j:Int):=by rw [fT ⟨by omega,by omega⟩]; omega
   have b0:(((j+1:Nat):Int) == 0)=false:=beq_false_of_ne (by omega);have e56:=Vc hN p[j] (h p[j] (abt hj));have e:lq p (j+1)=!decide (au p[j] p[j].2.2.2.2.toNat=(p[j+1].1,p[j+1].2.1)):=by
    unfold lq;have g1:p.getD (j+1 - 1) (0,0,false,false,0)=p[j]:=by simp [hj]
    have g2:p.getD (j+1) (0,0,false,false,0)=p[j+1]:=by simp [hk]
    rw [g1,g2];rfl
   rw [e];simp only [vX,aao,aaO,a7 hk,ay hk,ay hj,hm,a1,a2,b1,b2,b0,aau,aaB,cond_true,cond_false,beq_self_eq_true,e56,Kp hN,AI,By,decide_true,aad];cases decide (au p[j] p[j].2.2.2.2.toNat=(p[j+1].1,p[j+1].2.1)) with
   |true=>simp only [Bool.not_true,cond_false,abj,if_false,decide_true,AI,By,aad,cond_true,aaB,aau,bw (show j+1 < 9223372036854775807 by omega)]
   |false=>simp only [Bool.not_false,cond_true,if_true,hb,Ko hN,AI,By,decide_true,abi,aaY,aad,aaB,aau,bw (show j+1 < 9223372036854775807 by omega)]) (by
  simp only [vX,aao,bO,cond_false,AI,By,aaB,cond_true,aad,decide_true]) N 0 (abo _) (by unfold fC at hN; omega)
 have vT:az (vX N p) N ([],0)=_:=key;have z:((bif (allFit (fits p3) ([]:List AV)&&true) then some ((map gD ([]:List AV)),0) else none:Option (kM × Int)).bind fun Hh=>bif (decide (0=(map lS Hh.1).length)&&true) then some Hh else none)=some ([],0):=rfl;rw [aan,z,aad,vT,aad];simp only [AI,By,cond_true]
theorem aaA (p:List cQ) (y:Int) (hy:T48 N p=some y) (h:y=0→∀ c∈p,dJ c=0) (hp:p.length≤1000000):T40 N p=some (if y=0 then (BA p p.length,0) else ([],y)):=by
 have z:((bif (allFit (fits qf) (map iL p)&&true) then some (map bM (map iL p)) else none:Option (iO)))=some p:=by simp only [uN,uO,aaB,cond_true]
 rw [aas,z,aad,hy,aad,Hj];by_cases h0:y=0
 ·rw [if_pos h0,if_pos h0,aad,aay hN p (h h0) hp,aad];simp only [AI,By,aau,cond_true]
 ·rw [if_neg h0,if_neg h0];rfl
end
end Go.Proofs.YtldcljfjjoidhaaGreatDoor
namespace Go.Proofs.YtldcljfjjoidhaaGreatDoor
open Go Go.Am Go.Sort
open List (map)
open Int (toNat)
open Go.IntKind (wrap)
open Go.Am.aO (fits)
set_option maxRecDepth 100000
theorem pP {α:Type} (P:α→Prop) [DecidablePred P] (e:Int) (he:e≠0):∀ l:List α,aU (l.map fun x=>if P x then e else 0)=if ∃ x∈l,P x then e else 0
 |[]=>by simp [aU]
 |a :: l=>by
  rw [List.map_cons,aU,pP P e he l];by_cases h:P a
  ·have:∃ x∈a :: l,P x:=⟨a,by simp,h⟩;rw [if_pos h,if_neg he,if_pos this]
  ·rw [if_neg h,if_pos rfl];by_cases h2:∃ x∈l,P x
   ·obtain ⟨x,hx,hp⟩:=h2;rw [if_pos ⟨x,hx,hp⟩,if_pos ⟨x,by simp [hx],hp⟩]
   ·rw [if_neg h2,if_neg];rintro ⟨x,hx,hp⟩;rcases List.mem_cons.1 hx with rfl|hx
    ·exact h hp
    ·exact h2 ⟨x,hx,hp⟩
def MB (c:cQ):Int:=if c.2.2.2.1 then c.2.1 else c.2.1 - 1
def below (p:List cQ) (c:cQ):Bool:=match p.getLast? with
 |some q=>decide (MB c < MB q)
 |none=>false
def yg (p:List cQ) (c:cQ):Int:=if gU c=0 then (if below p c=true then 11 else if ∃ b∈bV c,b∈bn p then 9 else if (bn p).length+(bV c).length > 4096 then 4 else 0) else gU c
theorem tz {c:cQ} (h:gU c=0):dJ c=0:=by
 unfold gU at h;by_cases h1:dJ c=0
 ·exact h1
 ·rw [if_neg h1] at h; exact h
theorem r9 {p:List cQ} {c:cQ} (h:yg p c=0):gU c=0∧below p c=false∧(∀ b∈bV c,b∉bn p)∧(bn p).length+(bV c).length≤4096:=by
 unfold yg at h;by_cases h1:gU c=0
 ·rw [if_pos h1] at h;by_cases h2:below p c=true
  ·rw [if_pos h2] at h; exact absurd h (by decide)
  ·rw [if_neg h2] at h;by_cases h3:∃ b∈bV c,b∈bn p
   ·rw [if_pos h3] at h; exact absurd h (by decide)
   ·rw [if_neg h3] at h;by_cases h4:(bn p).length+(bV c).length > 4096
    ·rw [if_pos h4] at h; exact absurd h (by decide)
    ·exact ⟨h1,by simpa using h2,fun b hb hq=>h3 ⟨b,hb,hq⟩,by omega⟩
 ·rw [if_neg h1] at h; exact absurd h h1
def EB (p:List cQ):List Int:=(abq p.length).map fun k=>yg (p.take k) (p.getD k (0,0,false,false,0))
def nR (p:List cQ):Int:=if p.length > 256 then 5 else aU (EB p)
theorem kR (p:List cQ):(EB p).length=p.length:=by simp [EB]
theorem yO (p:List cQ) {k:Nat} (hk:k < p.length):(EB p)[k]'(by rw [kR]; exact hk)=yg (p.take k) p[k]:=by simp [EB,hk]
theorem A6 {V X:Type} {rd:V→Option (V ⊕ X)} (l:List Int) (E:Nat→V) (fin:X) (ex:Int→X) (P:Nat→Prop)
  (h:∀ k (hk:k < l.length),P k→rd (E k)=some (if l[k]=0 then .inl (E (k+1)) else .inr (ex l[k]))∧(l[k]=0→P (k+1))) (h0:P l.length→rd (E l.length)=some (.inr fin)) (n:Nat) (hn:l.length < n) (hP:P 0) :
  az rd n (E 0)=some (if aU l=0 then fin else ex (aU l)):=by
 have key:=mA (rd:=rd) (S:=Unit) (Y:=Int) l (fun _ k=>E k) (fun _ x=>if x=0 then .inl () else .inr x) (fun _=>fin) ex (fun _ k=>P k)
  (fun s k hk hp=>by
   obtain ⟨h1,h2⟩:=h k hk hp;refine ⟨by rw [h1]; by_cases e:l[k]=0 <;> simp [e],fun s' hs=>?_⟩;by_cases e:l[k]=0
   ·exact h2 e
   ·rw [if_neg e] at hs; cases hs) (fun _ hp=>h0 hp) n () 0 (abo _) (by omega) hP
 rw [abp] at key;refine key.trans (congrArg some ?_);clear key h h0 hn hP
 induction l with
 |nil=>rfl
 |cons x l ih=>
  simp only [foldI,aU];by_cases e:x=0
  ·simp only [e,if_true,abB]; exact ih
  ·simp [e]
theorem Kq {p:List cQ} (h:aU (EB p)=0) {k:Nat} (hk:k < p.length):yg (p.take k) p[k]=0:=by
 rw [← yO p hk];exact dz.1 h _ (abt _)
theorem yP {p:List cQ} (h:nR p=0):p.length≤256∧(∀ c∈p,dJ c=0):=by
 unfold nR at h;by_cases h1:p.length > 256
 ·rw [if_pos h1] at h; exact absurd h (by decide)
 ·rw [if_neg h1] at h;refine ⟨by omega,fun c hc=>?_⟩;obtain ⟨k,hk,rfl⟩:=List.getElem_of_mem hc;exact tz (r9 (Kq h hk)).1
theorem L6 (l:List cQ) (a b:Nat):gJ a b (map fQ l)=map fQ ((l.take b).drop a):=by simp [gJ,List.map_take,List.map_drop]
section
variable {N:Nat} (hN:fC N)
include hN
theorem EC (c:cQ) (h:dJ c=0):PE N c=some (MB c):=by
 obtain ⟨h1,h2,h3⟩:=fL h;have Co:=eO h1;simp only at Co;rw [Z8];unfold MB;rw [fT ⟨by omega,by omega⟩];cases c.2.2.2.1 <;> rfl
theorem VA (A B:List aF) (j:Nat) (hj:j < B.length) (hA:A.length≤1000000000):az (mE N A B (j:Int)) N 0=some (if B[j]∈A then .inl 9 else .inr ()):=by
 obtain ⟨b1,b2⟩:=gl B hj;have key:=jz (rd:=mE N A B (j:Int)) (A.map fun x=>if x=B[j] then (9:Int) else 0) (fun k hk=>by
  have hk:k < A.length:=by simpa using hk
  obtain ⟨a1,a2⟩:=gl A hk;have e:(A.map fun x=>if x=B[j] then (9:Int) else 0)[k]'(by simpa using hk)=if A[k]=B[j] then (9:Int) else 0:=by simp
  rw [e];simp only [mE,aao,aaO,a7 hk,ay hk,ay hj,a1,a2,b1,b2,P5,aau,cond_true,bw (show k < 9223372036854775807 by omega)];by_cases h:A[k]=B[j]
  ·rw [decide_eq_true h,if_pos h]; rfl
  ·rw [decide_eq_false h,if_neg h]; rfl) (by
  simp only [mE,aao,bO,cond_false]) N (by rw [aao]; unfold fC at hN; omega)
 rw [key,pP (fun x=>x=B[j]) 9 (by decide) A];have e:(∃ x,x∈A∧x=B[j])↔B[j]∈A:=⟨fun ⟨x,hx,e⟩=>e ▸ hx,fun h=>⟨_,h,rfl⟩⟩;by_cases h:B[j]∈A
 ·rw [if_pos h,if_pos (e.2 h)]; rfl
 ·rw [if_neg h,if_neg (fun q=>h (e.1 q))]; rfl
theorem P7 (A B:List aF) (hA:A.length≤1000000000) (hB:B.length≤1000000000):az (rk N A B) N 0=some (if ∃ b∈B,b∈A then .inl 9 else .inr ()):=by
 have key:=jz (rd:=rk N A B) (B.map fun x=>if x∈A then (9:Int) else 0) (fun k hk=>by
  have hk:k < B.length:=by simpa using hk
  have e:(B.map fun x=>if x∈A then (9:Int) else 0)[k]'(by simpa using hk)=if B[k]∈A then (9:Int) else 0:=by simp
  rw [e];simp only [rk,aao,a7 hk,cond_true,VA hN A B k hk hA,aad,bw (show k < 9223372036854775807 by omega)];by_cases h:B[k]∈A
  ·simp only [h,if_true]; rfl
  ·simp only [h,if_false]; rfl) (by
  simp only [rk,aao,bO,cond_false]) N (by rw [aao]; unfold fC at hN; omega)
 rw [key,pP (fun x=>x∈A) 9 (by decide) B];by_cases h:∃ b∈B,b∈A
 ·rw [if_pos h,if_pos h]; rfl
 ·rw [if_neg h,if_neg h]; rfl
theorem P8 (p:List cQ) (c:cQ) (h:∀ q∈p,dJ q=0) (hp:p.length≤1000000):PG N (p,c)=some (yg p c):=by
 have q54:T54 N (c.1,c.2.1,c.2.2.1,c.2.2.2.1,c.2.2.2.2)=_:=Vd hN c;rw [Vg,q54,aad];unfold yg;by_cases hc:gU c=0
 ·have JS:=tz hc;have q60:PE N (c.1,c.2.1,c.2.2.1,c.2.2.2.1,c.2.2.2.2)=_:=EC hN c JS;have aiv:LV N (c.1,c.2.1,c.2.2.1,c.2.2.2.1,c.2.2.2.2)=_:=C2 hN c JS;have WK:=rn p h;have R6:=r7 JS;have q44:=Kj hN p h hp;have qo:=P7 hN (bn p) (bV c) (by omega) (by omega);rw [if_pos hc,hc];have Kr:((bif (decide (((((map fQ p)).length:Nat):Int) > 0)) then bif (decide ((0:Int)≤(wrap .i64 (((((map fQ p)).length:Nat):Int) - 1))∧(wrap .i64 (((((map fQ p)).length:Nat):Int) - 1)) < (((map fQ p)).length:Int))&&fits gI (ae (map fQ p) (toNat (wrap .i64 (((((map fQ p)).length:Nat):Int) - 1))))) then (PE N (c.1,c.2.1,c.2.2.1,c.2.2.2.1,c.2.2.2.2)).bind fun y2=>(PE N ((ee (ae (map fQ p) (toNat (wrap .i64 (((((map fQ p)).length:Nat):Int) - 1))))).1,(ee (ae (map fQ p) (toNat (wrap .i64 (((((map fQ p)).length:Nat):Int) - 1))))).2.1,(ee (ae (map fQ p) (toNat (wrap .i64 (((((map fQ p)).length:Nat):Int) - 1))))).2.2.1,(ee (ae (map fQ p) (toNat (wrap .i64 (((((map fQ p)).length:Nat):Int) - 1))))).2.2.2.1,(ee (ae (map fQ p) (toNat (wrap .i64 (((((map fQ p)).length:Nat):Int) - 1))))).2.2.2.2)).bind fun y3=>(some (decide (y2 < y3))) else none else (some false)):Option Bool)=some (below p c):=by
   cases p with
   |nil=>rfl
   |cons a l=>
    have hk:l.length < (a :: l).length:=by simp
    obtain ⟨a1,a2⟩:=PJ hN (a :: l) hk;have hm:wrap .i64 (((((map fQ (a :: l))).length:Nat):Int) - 1)=(l.length:Int):=by
     rw [aao,abn,fT ⟨by omega,by simp at hp; omega⟩]; omega
    have hg:decide (((((map fQ (a :: l))).length:Nat):Int) > 0)=true:=by rw [aao,abn]; exact decide_eq_true (by omega)
    have hb:below (a :: l) c=decide (MB c < MB (a :: l)[l.length]):=by
     unfold below;rw [List.getLast?_eq_getElem?];simp
    have aiw:PE N ((a :: l)[l.length].1,(a :: l)[l.length].2.1,(a :: l)[l.length].2.2.1,(a :: l)[l.length].2.2.2.1,(a :: l)[l.length].2.2.2.2)=_:=EC hN _ (h _ (abt hk));rw [hm,hg,aaO,a1,a2,hb,q60,aiw];rw [ay (by rw [aao]; exact hk)];rfl
  simp only [beq_self_eq_true,aau,cond_true];rw [Kr,aad];cases hb:below p c with
  |true=>rfl
  |false=>
   simp only [cond_false,aad,bne_self_eq_false,B0,B1,aaB,cond_true,q44,aiv,qo,aao,abj,if_false];by_cases h9:∃ b∈bV c,b∈bn p
   ·rw [if_pos h9,if_pos h9]; rfl
   ·rw [if_neg h9,if_neg h9,fT ⟨by omega,by omega⟩];by_cases h4:(bn p).length+(bV c).length > 4096
    ·rw [if_pos h4,decide_eq_true (by omega)]; rfl
    ·rw [if_neg h4,decide_eq_false (by omega)]; rfl
 ·have hb0:(gU c == 0)=false:=beq_false_of_ne hc;have Ih:(gU c != 0)=true:=bne_iff_ne.2 hc;rw [if_neg hc,hb0];simp only [cond_false,aad,Ih,cond_true]
theorem VB (p:List cQ):T31 N p=some (nR p):=by
 rw [aaa];unfold nR;rw [aao];by_cases hp:p.length > 256
 ·rw [if_pos hp,decide_eq_true (by omega)]; rfl
 ·rw [if_neg hp,decide_eq_false (by omega),cond_false];have key:=A6 (rd:=A0 N p) (X:=Int ⊕ Unit) (EB p) (fun k=>(k:Int)) (.inr ()) (fun x=>.inl x) (fun k=>∀ q∈p.take k,dJ q=0) (fun k hk hP=>by
   rw [kR] at hk;obtain ⟨a1,a2⟩:=PJ hN p hk;have q:=P8 hN (p.take k) p[k] hP (by rw [abw]; omega);have c1:decide ((0:Int)≤(k:Int)∧(k:Int)≤(p.length:Int))=true:=decide_eq_true (by omega);rw [yO p hk];refine ⟨?_,fun e q hq=>?_⟩
   ·simp only [A0,aao,aaO,a7 hk,ay hk,c1,a1,a2,L6,abp,B0,B1,aau,aaB,cond_true,aad,bw (show k < 9223372036854775807 by omega)];rw [show PG N (p.take k,p[k].1,p[k].2.1,p[k].2.2.1,p[k].2.2.2.1,p[k].2.2.2.2)=_ from q,aad,Hj];split <;> rfl
   ·rw [abA,abu hk] at hq;rcases abC.1 hq with hq|hq
    ·exact hP q hq
    ·have:q=p[k]:=by simpa using hq
     subst this;exact tz (r9 e).1) (fun _=>by
   rw [kR];simp only [A0,aao,bO,cond_false]) N (by rw [kR]; unfold fC at hN; omega) (fun q hq=>by simp at hq)
  rw [show az (A0 N p) N 0=_ from key,aad];by_cases h:aU (EB p)=0
  ·rw [if_pos h,h]; rfl
  ·rw [if_neg h]; rfl
end
end Go.Proofs.YtldcljfjjoidhaaGreatDoor
namespace Go.Proofs.YtldcljfjjoidhaaGreatDoor
open Go Go.Am Go.Sort
open List (map)
open Int (toNat)
open Go.IntKind (wrap)
open Go.Am.aO (fits)
set_option maxRecDepth 100000
abbrev EW:EK:=.st (.cons 0 1 false .int (.cons 1 1 false .int (.cons 2 1 false .int .nil)))
abbrev nkB (b:aF):AV:=.agg [.int .i64 b.1,.int .i64 b.2.1,.int .i64 b.2.2]
theorem VC (a b:aF):Ha EW (nkB a) (nkB b)=some (decide (a=b)):=by
 obtain ⟨a1,a2,a3⟩:=a;obtain ⟨b1,b2,b3⟩:=b;have e:mO EW (nkB (a1,a2,a3)) (nkB (b1,b2,b3))=some ((a1 == b1)&&((a2 == b2)&&((a3 == b3)&&true))):=rfl;unfold Ha;rw [e];by_cases h1:a1=b1 <;> by_cases h2:a2=b2 <;> by_cases h3:a3=b3
 ·subst h1; subst h2; subst h3;simp [EK.wide,na,nZ,qi]
 all_goals simp [h1,h2,h3]
theorem bN:jl EW nkB AV.bool gn where
 key:=VC
 pair:=fun _=>rfl
 exact:=fun _=>rfl
def bp (l:List aF):List (aF × Bool):=l.map fun b=>(b,true)
theorem oK (l:List aF) (b:aF):(getM b (bp l)).getD false=decide (b∈l):=by
 unfold bp;rw [CV];by_cases h:b∈l <;> simp [h]
theorem oL (l:List aF) (b:aF) (h:b∉l):qe b true (bp l)=bp (l++[b]):=by
 have:getM b (bp l)=none:=by unfold bp; rw [CV,if_neg h]
 rw [Gm this];unfold bp;rw [abr];rfl
theorem C5 (a b:Int × Int):min (kQ a b).1 ((kQ a b).1+(kQ a b).2.2)=min a.1 b.1:=by
 unfold kQ;split <;> (simp only; omega)
theorem GD (c:cQ) (i j:Nat) (h:e8 c i=e8 c j):i=j:=by
 have h1:=C5 (au c i) (au c (i+1));have h2:=C5 (au c j) (au c (j+1));unfold e8 at h;rw [h,h2] at h1;unfold au sg at h1;simp only at h1;cases hr:c.2.2.1
 ·simp only [hr,abj,if_false] at h1; omega
 ·simp only [hr,if_true] at h1; omega
theorem GF (c:cQ) (k:Nat):e8 c k∉dQ c k:=by
 intro h;obtain ⟨j,hj,e⟩:=aby.1 h;have:=GD c j k e;have:=abz.1 hj;omega
section
variable {N:Nat} (hN:fC N)
include hN
theorem P9 (p:List cQ) (i:Nat) (c:cQ) (a:bM (ae (map iL p) i)=c) (acc:List aF) (u:Unit) (L7:Int) (q:cQ) (hc:dJ c=0) (ha:acc.length≤1000000000) :
  az (oG N p ((i:Int),bp acc,u,L7,q)) N (0,bp acc,(),L7,q.1,q.2.1,q.2.2.1,q.2.2.2.1,q.2.2.2.2,(),0,c.1,c.2.1,c.2.2.1,c.2.2.2.1,c.2.2.2.2) =
   some (if ∃ b∈bV c,b∈acc then .inl (bp acc,(),L7,q.1,q.2.1,q.2.2.1,q.2.2.2.1,q.2.2.2.2,(),9,c.1,c.2.1,c.2.2.1,c.2.2.2.1,c.2.2.2.2) else .inr (bp acc,(),L7,q.1,q.2.1,q.2.2.1,q.2.2.2.1,q.2.2.2.2,(),0,c.1,c.2.1,c.2.2.1,c.2.2.2.1,c.2.2.2.2)):=by
 obtain ⟨h1,h2,h3⟩:=fL hc;have ml:(bV c).length=c.2.2.2.2.toNat:=iD c _;have key:=A6 (rd:=oG N p ((i:Int),bp acc,u,L7,q)) ((bV c).map fun x=>if x∈acc then (9:Int) else 0) (fun k=>((k:Int),bp acc,(),L7,q.1,q.2.1,q.2.2.1,q.2.2.2.1,q.2.2.2.2,(),0,c.1,c.2.1,c.2.2.1,c.2.2.2.1,c.2.2.2.2))
  (.inr (bp acc,(),L7,q.1,q.2.1,q.2.2.1,q.2.2.2.1,q.2.2.2.2,(),0,c.1,c.2.1,c.2.2.1,c.2.2.2.1,c.2.2.2.2)) (fun x=>.inl (bp acc,(),L7,q.1,q.2.1,q.2.2.1,q.2.2.2.1,q.2.2.2.2,(),x,c.1,c.2.1,c.2.2.1,c.2.2.2.1,c.2.2.2.2)) (fun _=>True) (fun k hk _=>by
  refine ⟨?_,fun _=>trivial⟩;rw [aao,ml] at hk;have bY:decide ((k:Int) < c.2.2.2.2)=true:=decide_eq_true (by omega);have t1:=iC N c k h1 (by omega);have t2:=iC N c (k+1) h1 (by omega);have q1:=iT c hc k (by omega);have q2:=iT c hc (k+1) (by omega);have eb:e8 c k=kQ (au c k) (au c (k+1)):=rfl;have el:((bV c).map fun x=>if x∈acc then (9:Int) else 0)[k]'(by rw [aao,ml]; exact hk)=if e8 c k∈acc then (9:Int) else 0:=by simp [bV,dQ]
  rw [el];simp only [oG,pM,aaO,a,bY,cond_true,t1,bw (show k < 9223372036854775807 by omega),t2,aad,beq_self_eq_true,aau];unfold kQ at eb;have kk:=bN.keys (e8 c k) (bp acc);have kg:=bN.getD (e8 c k) false (bp acc);rw [oK] at kg;generalize au c k=x at *;generalize au c (k+1)=y at *;by_cases Hi:x.2 > y.2
  ·rw [if_pos Hi] at eb;have w:wrap .i64 (x.1 - y.1)=x.1 - y.1:=fT ⟨by omega,by omega⟩;generalize e8 c k=bb at *;subst eb;simp only [Hi,decide_true,cond_true,bN.cells,bN.dP,cL,cM,aau,aaB,aad,w,kk,kg];by_cases hm:(y.1,y.2,x.1 - y.1)∈acc
   ·simp only [hm,decide_true,if_true]; rfl
   ·simp only [hm,decide_false,if_false]; rfl
  ·rw [if_neg Hi] at eb;have w:wrap .i64 (y.1 - x.1)=y.1 - x.1:=fT ⟨by omega,by omega⟩;generalize e8 c k=bb at *;subst eb;simp only [Hi,decide_false,cond_true,cond_false,bN.cells,bN.dP,cL,cM,aau,aaB,aad,w,kk,kg];by_cases hm:(x.1,x.2,y.1 - x.1)∈acc
   ·simp only [hm,decide_true,if_true]; rfl
   ·simp only [hm,decide_false,if_false]; rfl) (fun _=>by
  rw [aao,ml];have oP:decide (((c.2.2.2.2.toNat:Nat):Int) < c.2.2.2.2)=false:=decide_eq_false (by omega);simp only [oG,pM,aaO,a,oP,cond_false,bN.cells,bN.dP,cL,cM,aau,aaB,cond_true,aad]) N (by rw [aao,ml]; unfold fC at hN; omega) trivial
 refine Eq.trans key (congrArg some ?_);rw [pP (fun x=>x∈acc) 9 (by decide) (bV c)];by_cases h:∃ b∈bV c,b∈acc
 ·rw [if_pos h,if_pos h]; rfl
 ·rw [if_neg h,if_neg h]; rfl
theorem VD (p:List cQ) (i:Nat) (c:cQ) (a:bM (ae (map iL p) i)=c) (acc:List aF) (v1:Int × (List (aF × Bool)) × Unit × Int × cQ) (hv:v1.1=(i:Int)) (L7:Int) (q:cQ) (e0:Int) (hc:dJ c=0) (hn:∀ b∈bV c,b∉acc) :
  az (mF N p v1) N (0,bp acc,(),L7,q.1,q.2.1,q.2.2.1,q.2.2.2.1,q.2.2.2.2,(),e0,c.1,c.2.1,c.2.2.1,c.2.2.2.1,c.2.2.2.2,c.1,c.2.1,c.2.2.1,c.2.2.2.1,c.2.2.2.2) =
   some (bp (acc++bV c),(),L7,q.1,q.2.1,q.2.2.1,q.2.2.2.1,q.2.2.2.2,(),e0,c.1,c.2.1,c.2.2.1,c.2.2.2.1,c.2.2.2.2,c.1,c.2.1,c.2.2.1,c.2.2.2.1,c.2.2.2.2):=by
 obtain ⟨h1,h2,h3⟩:=fL hc;have key:=cU (rd:=mF N p v1) c.2.2.2.2.toNat (fun k=>((k:Int),bp (acc++dQ c k),(),L7,q.1,q.2.1,q.2.2.1,q.2.2.2.1,q.2.2.2.2,(),e0,c.1,c.2.1,c.2.2.1,c.2.2.2.1,c.2.2.2.2,c.1,c.2.1,c.2.2.1,c.2.2.2.1,c.2.2.2.2))
  (bp (acc++bV c),(),L7,q.1,q.2.1,q.2.2.1,q.2.2.2.1,q.2.2.2.2,(),e0,c.1,c.2.1,c.2.2.1,c.2.2.2.1,c.2.2.2.2,c.1,c.2.1,c.2.2.1,c.2.2.2.1,c.2.2.2.2) (fun k hk=>by
  have bY:decide ((k:Int) < c.2.2.2.2)=true:=decide_eq_true (by omega);have t1:=iC N c k h1 (by omega);have t2:=iC N c (k+1) h1 (by omega);have q1:=iT c hc k (by omega);have q2:=iT c hc (k+1) (by omega);have eb:e8 c k=kQ (au c k) (au c (k+1)):=rfl;have qw:e8 c k∉acc++dQ c k:=by
   intro h;rcases abC.1 h with h|h
   ·exact hn (e8 c k) (aby.2 ⟨k,abz.2 hk,rfl⟩) h
   ·exact GF c k h
  have es:acc++dQ c (k+1)=(acc++dQ c k)++[e8 c k]:=by rw [mG,List.append_assoc]
  have kk:=bN.keys (e8 c k) (bp (acc++dQ c k));have kp:=bN.put (e8 c k) true (bp (acc++dQ c k));rw [oL _ _ qw,← es] at kp;simp only [mF,nz,kP,hv,aaO,a,bY,cond_true,t1,bw (show k < 9223372036854775807 by omega),t2,aad,beq_self_eq_true,aau];clear qw;unfold kQ at eb;generalize bp (acc++dQ c (k+1))=S' at *;generalize bp (acc++dQ c k)=S at *;clear es;generalize au c k=x at *;generalize au c (k+1)=y at *;by_cases Hi:x.2 > y.2
  ·rw [if_pos Hi] at eb;have w:wrap .i64 (x.1 - y.1)=x.1 - y.1:=fT ⟨by omega,by omega⟩;generalize e8 c k=bb at *;subst eb;simp only [Hi,decide_true,cond_true,bN.cells,bN.dP,cL,cM,aau,aad,w,kk,kp]
  ·rw [if_neg Hi] at eb;have w:wrap .i64 (y.1 - x.1)=y.1 - x.1:=fT ⟨by omega,by omega⟩;generalize e8 c k=bb at *;subst eb;simp only [Hi,decide_false,cond_true,cond_false,bN.cells,bN.dP,cL,cM,aau,aad,w,kk,kp]) (by
  have oP:decide (((c.2.2.2.2.toNat:Nat):Int) < c.2.2.2.2)=false:=decide_eq_false (by omega);simp only [mF,nz,kP,hv,aaO,a,oP,cond_false,bN.cells,bN.dP,cL,cM,aau,cond_true,aad];rfl) N 0 (abo _) (by unfold fC at hN; omega)
 have e0':acc++dQ c 0=acc:=by simp [dQ]
 rw [e0'] at key;exact key
end
end Go.Proofs.YtldcljfjjoidhaaGreatDoor
namespace Go.Proofs.YtldcljfjjoidhaaGreatDoor
open Go Go.Am Go.Sort
open List (map)
open Int (toNat)
open Go.IntKind (wrap)
open Go.Am.aO (fits)
set_option maxRecDepth 100000
theorem xy {V X:Type} {rd:V→Option (V ⊕ X)} (l:List Int) (E:Nat→V) (g:X→Int) (P:Nat→Prop)
  (h:∀ k (hk:k < l.length),P k→(l[k]=0→rd (E k)=some (.inl (E (k+1)))∧P (k+1))∧(l[k]≠0→∃ x,rd (E k)=some (.inr x)∧g x=l[k])) (h0:P l.length→∃ x,rd (E l.length)=some (.inr x)∧g x=0) :
  ∀ n k,k≤l.length→l.length < n+k→P k→∃ x,az rd n (E k)=some x∧g x=aU (l.drop k)
 |0,k,hk,hn,_=>by omega
 |n+1,k,hk,hn,hP=>by
  rw [aX];by_cases bY:k < l.length
  ·obtain ⟨h1,h2⟩:=h k bY hP;rw [List.drop_eq_getElem_cons bY,aU];by_cases e:l[k]=0
   ·obtain ⟨r,hp⟩:=h1 e;rw [if_pos e,r];exact xy l E g P h h0 n (k+1) (by omega) (by omega) hp
   ·obtain ⟨x,r,gx⟩:=h2 e;rw [if_neg e,r];exact ⟨x,rfl,gx⟩
  ·have:k=l.length:=by omega
   subst this;obtain ⟨x,r,gx⟩:=h0 hP;rw [r,List.drop_eq_nil_of_le (Nat.le_refl _)];exact ⟨x,rfl,gx⟩
def ru (p:List cQ) (k:Nat):cQ:=(p.take k).getLast?.getD (0,0,false,false,0)
section
variable {N:Nat} (hN:fC N)
include hN
theorem GG (c:cQ) (h:dJ c=0):Ew N c=some (MB c):=by
 obtain ⟨h1,h2,h3⟩:=fL h;have t:=iC N c 1 h1 (by omega);rw [Vi,show vP N ((c.1,c.2.1,c.2.2.1,c.2.2.2.1,c.2.2.2.2),1)=_ from t,aad,beq_self_eq_true];simp only [aau,cond_true];congr 1;unfold au sg MB;cases c.2.2.2.1
 ·simp; omega
 ·simp; omega
theorem C6 (p:List cQ) (k:Nat) (hk:k < p.length):(p.take (k+1)).getLast?=some p[k]:=by
 have:p.take (k+1)=p.take k++[p[k]]:=by rw [abA,abu hk]; rfl
 rw [this,List.getLast?_concat]
theorem Qa (p:List cQ) (k:Nat) (hk:k < p.length) (hp:p.length≤256) (hP:∀ q∈p.take k,dJ q=0) :
  pN N p ((k:Int),bp (bn (p.take k)),(),(k:Int),ru p k)=some (if yg (p.take k) p[k]=0 then .inl (((k+1:Nat):Int),bp (bn (p.take (k+1))),(),((k+1:Nat):Int),ru p (k+1)) else .inr (.inl (yg (p.take k) p[k],bp (bn (p.take k)),(),(k:Int),ru p k))):=by
 obtain ⟨a1,a2⟩:=I7 hN p hk;have hl:=rn (p.take k) hP;rw [abw,Nat.min_eq_left (Nat.le_of_lt hk)] at hl;have hpl:ru p (k+1)=p[k]:=by
  unfold ru;rw [C6 hN p k hk];rfl
 have hbl:k≠0→dJ (ru p k)=0∧below (p.take k) p[k]=decide (MB p[k] < MB (ru p k)):=by
  intro h0;obtain ⟨j,rfl⟩:∃ j,k=j+1:=⟨k - 1,by omega⟩;have hj:j < p.length:=by omega
  have e:(p.take (j+1)).getLast?=some p[j]:=C6 hN p j hj;unfold ru below;rw [e];refine ⟨hP _ ?_,rfl⟩;exact List.mem_of_getLast? e
 have hb0:k=0→below (p.take k) p[k]=false:=fun h=>by subst h; rfl
 rw [r8 p hk,hpl];unfold yg;generalize ru p k=q at *;generalize p[k]=c at *;generalize p.take k=pk at *;have t80:Pq N (decide ((k:Int)≥256),5)=some 0:=by rw [mD,decide_eq_false (by omega)]; rfl
 have t108:Pr N (c.1,c.2.1,c.2.2.1,c.2.2.2.1,c.2.2.2.2)=some (gU c):=Pz hN c;have t78:US N [0,gU c]=some (gU c):=by
  rw [oD hN [0,gU c] (by simp)];show some (if (0:Int)=0 then (if gU c=0 then aU [] else gU c) else 0)=some (gU c);rw [if_pos rfl];by_cases e:gU c=0
  ·rw [if_pos e,e]; rfl
  ·rw [if_neg e]
 have z2:(bif allFit (fits xq) [AV.int .i64 0,AV.int .i64 (gU c)] then some (map kN [AV.int .i64 0,AV.int .i64 (gU c)]) else none:Option kM)=some [0,gU c]:=rfl;have H11:gU c=0→(bif decide ((k:Int) > 0) then (Ew N (c.1,c.2.1,c.2.2.1,c.2.2.2.1,c.2.2.2.2)).bind fun y7=>(Ew N (q.1,q.2.1,q.2.2.1,q.2.2.2.1,q.2.2.2.2)).bind fun y8=>some (decide (y7 < y8),bp (bn pk),(),(k:Int),q.1,q.2.1,q.2.2.1,q.2.2.2.1,q.2.2.2.2,(),(0:Int)) else some (false,bp (bn pk),(),(k:Int),q.1,q.2.1,q.2.2.1,q.2.2.2.1,q.2.2.2.2,(),(0:Int)):Option (Bool × (List (aF × Bool)) × Unit × Int × Int × Int × Bool × Bool × Int × Unit × Int))=some (below pk c,bp (bn pk),(),(k:Int),q.1,q.2.1,q.2.2.1,q.2.2.2.1,q.2.2.2.2,(),(0:Int)):=fun hc=>by
  by_cases h0:k=0
  ·rw [hb0 h0,decide_eq_false (by omega)]; rfl
  ·obtain ⟨e1,e2⟩:=hbl h0;rw [e2,decide_eq_true (by omega),show Ew N (c.1,c.2.1,c.2.2.1,c.2.2.2.1,c.2.2.2.2)=_ from GG hN c (tz hc),show Ew N (q.1,q.2.1,q.2.2.1,q.2.2.2.1,q.2.2.2.2)=_ from GG hN q e1];rfl
 by_cases hc:gU c=0
 ·have JS:=tz hc;have R6:=r7 JS;have hcn:=fL JS;have mln:(bV c).length=c.2.2.2.2.toNat:=iD c _;have r1:=P9 hN p k c a1 (bn pk) () (k:Int) q JS (by omega);have Ih:(gU c != 0)=false:=by rw [hc]; rfl
  have aix:(ar (map gn (bp (bn pk)))).length=(bn pk).length:=by rw [bN.ent]; simp [bp]
  simp only [if_pos hc];simp only [pN,rm,aao,a7 hk,ay hk,aaO,a1,a2,aau,aaB,cond_true,beq_self_eq_true,t80,t108,z2,t78,Ih,cond_false,bN.cells,bN.dP,cL,cM,aad];rw [H11 hc];cases hbw:below pk c with
  |true=>rfl
  |false=>
   simp only [aad,cond_false,bN.cells,bN.dP,cL,cM,aau,cond_true,r1,abj,if_false];by_cases h9:∃ b∈bV c,b∈bn pk
   ·simp only [if_pos h9,aad,abB,Sum.elim_inr,bN.cells,bN.dP,cL,cM,aau,cond_true];rfl
   ·simp only [if_neg h9,aad,abB,Sum.elim_inr,bN.cells,bN.dP,cL,cM,aau,cond_true,aix];have w:wrap .i64 (((bn pk).length:Int)+c.2.2.2.2)=(((bn pk).length+(bV c).length:Nat):Int):=by rw [fT ⟨by omega,by omega⟩]; omega
    have r2:=VD hN p k c a1 (bn pk) ((k:Int),bp (bn pk),(),(k:Int),q) rfl (k:Int) q 0 JS (fun b hb hq=>h9 ⟨b,hb,hq⟩);rw [w];by_cases h4:(bn pk).length+(bV c).length > 4096
    ·rw [decide_eq_true (show (((bn pk).length+(bV c).length:Nat):Int) > 4096 by omega)];simp only [if_pos h4,aad,bN.cells,bN.dP,cL,cM,aau,cond_true];rfl
    ·rw [decide_eq_false (show ¬ (((bn pk).length+(bV c).length:Nat):Int) > 4096 by omega)];simp only [if_neg h4,if_true,aad,bN.cells,bN.dP,cL,cM,aau,cond_true,cond_false,r2,bw (show k < 9223372036854775807 by omega)];rfl
 ·have Ih:(gU c != 0)=true:=bne_iff_ne.2 hc;simp only [if_neg hc];simp only [pN,rm,aao,a7 hk,ay hk,aaO,a1,a2,aau,aaB,cond_true,beq_self_eq_true,t80,t108,z2,t78,Ih,bN.cells,bN.dP,cL,cM,aad]
theorem Ks (p:List cQ):T48 N p=some (nR p):=by
 rw [aae];unfold nR;rw [aao];by_cases hp:p.length > 256
 ·rw [if_pos hp,decide_eq_true (by omega)]; rfl
 ·rw [if_neg hp,decide_eq_false (by omega),cond_false];have key:=xy (rd:=pN N p) (EB p) (fun k=>((k:Int),bp (bn (p.take k)),(),(k:Int),ru p k)) (Sum.elim (fun o66=>o66.1) (fun _=>0)) (fun k=>∀ q∈p.take k,dJ q=0) (fun k hk hP=>by
   rw [kR] at hk;have st:=Qa hN p k hk (by omega) hP;rw [yO p hk];refine ⟨fun e=>⟨?_,fun q hq=>?_⟩,fun e=>?_⟩
   ·rw [st,if_pos e]
   ·rw [abA,abu hk] at hq;rcases abC.1 hq with hq|hq
    ·exact hP q hq
    ·have:q=p[k]:=by simpa using hq
     subst this;exact tz (r9 e).1
   ·rw [st,if_neg e];exact ⟨_,rfl,rfl⟩) (fun _=>by
   rw [kR];refine ⟨.inr (bp (bn (p.take p.length)),(),(p.length:Int),ru p p.length),?_,rfl⟩;simp only [pN,rm,aao,bO,cond_false,bN.cells,bN.dP,cL,cM,aau,cond_true,aad]) N 0 (abo _) (by rw [kR]; unfold fC at hN; omega) (fun q hq=>by simp at hq)
  obtain ⟨x,r,gx⟩:=key;rw [abp] at gx;have r':az (pN N p) N (0,([]:List (aF × Bool)),(),0,0,0,false,false,0)=some x:=r;have z:((bif (allFit (fits bi) (ah ([]:List (AV × AV)))&&true) then some (0,(map cD (ah ([]:List (AV × AV)))),(),0,0,0,false,false,0) else none:Option (Int × (List (XB × Bool)) × Unit × Int × Int × Int × Bool × Bool × Int)).bind fun fT=>bif (dP ([]:List (AV × AV))&&true) then some fT else none)=some (0,([]:List (aF × Bool)),(),0,0,0,false,false,0):=rfl;rw [z,aad,r',aad,← gx];cases x <;> rfl
end
end Go.Proofs.YtldcljfjjoidhaaGreatDoor
namespace Go.Proofs.YtldcljfjjoidhaaGreatDoor
open Go Go.Am
open List (map)
open Int (toNat)
open Go.IntKind (wrap)
open Go.Am.aO (fits)
set_option maxRecDepth 100000
def gK (b:aF):Int × Int:=(wrap .i64 (b.1+b.2.2),wrap .i64 (b.2.1+1))
def fO (b:aF):Int × Int:=(b.1,b.2.1)
theorem C7 (N:Nat) (b:aF):Gl N b=some (b.1,b.2.1,gK b):=by rw [J7]; rfl
theorem VE (N:Nat) (b:aF):PW N b=some (fO b):=by rw [Vs]; rfl
theorem VF (N:Nat) (b:aF):PX N b=some (gK b):=by rw [Vu]; rfl
def gL (b:aF):Int:=if aK (fO b)≠0 then aK (fO b) else if b.2.2≠-1∧b.2.2≠1 then 13 else aK (gK b)
theorem I8 {N:Nat} (hN:fC N) (p:Int × Int):LO N p=some (aU [EU p.1 (-100000) 100000,EU p.2 (-100000) 100000]):=by
 rw [J5];simp only [Gz,aad,beq_self_eq_true,aau,cond_true];rw [CZ];simp only [aad];rw [kl hN _ (by simp)];rfl
theorem Qb (b:aF) (h0:aK (fO b)=0) (h1:b.2.2=-1∨b.2.2=1):aU [EU (gK b).1 (-100000) 100000,EU (gK b).2 (-100000) 100000]=aK (gK b):=by
 unfold aK fO at h0;simp only at h0;split at h0
 ·cases h0
 ·rename_i hr;split at h0
  ·rename_i hp;have e1:(gK b).1=b.1+b.2.2:=fT (by omega);have e2:(gK b).2=b.2.1+1:=fT (by omega);unfold aK;rw [e1,e2];have hp2:(b.1+b.2.2+(b.2.1+1)) % 2=0:=by omega
   rw [if_pos hp2];unfold EU;simp only [aU];by_cases c1:b.1+b.2.2 < -100000∨b.1+b.2.2 > 100000
   ·have c:b.1+b.2.2 < -100000∨b.1+b.2.2 > 100000∨b.2.1+1 < -100000∨b.2.1+1 > 100000:=by omega
    rw [if_pos c,if_pos c1]; rfl
   ·rw [if_neg c1];by_cases c2:b.2.1+1 < -100000∨b.2.1+1 > 100000
    ·have c:b.1+b.2.2 < -100000∨b.1+b.2.2 > 100000∨b.2.1+1 < -100000∨b.2.1+1 > 100000:=by omega
     rw [if_pos c,if_pos c2]; rfl
    ·have c:¬ (b.1+b.2.2 < -100000∨b.1+b.2.2 > 100000∨b.2.1+1 < -100000∨b.2.1+1 > 100000):=by omega
     rw [if_neg c,if_neg c2]; rfl
  ·cases h0
theorem Qd {N:Nat} (hN:fC N) (b:aF):O0 N b=some (gL b):=by
 rw [Uk];have q1:Gk N (b.1,b.2.1)=some (aK (fO b)):=vS hN _;simp only [q1,lT,aad,beq_self_eq_true,aau,cond_true,C7];have q2:∀ s t:Bool,((bif s then ((bif allFit (fits xq) [AV.int .i64 (aK (fO b)),AV.int .i64 (if t=true then 13 else 0)]&&true then some (map kN [AV.int .i64 (aK (fO b)),AV.int .i64 (if t=true then 13 else 0)]) else none:Option kM).bind fun x=>(xZ N x).bind fun y=>some y) else ((bif allFit (fits xq) [AV.int .i64 (aK (fO b)),AV.int .i64 (if false=true then 13 else 0)]&&true then some (map kN [AV.int .i64 (aK (fO b)),AV.int .i64 (if false=true then 13 else 0)]) else none:Option kM).bind fun x=>(xZ N x).bind fun y=>some y)):Option Int)=some (aU [aK (fO b),if s&&t then 13 else 0]):=fun s t=>by
  rw [CZ,CZ];simp only [aad];rw [kl hN _ (by simp),kl hN _ (by simp)];cases s <;> cases t <;> rfl
 rw [q2,aad];have q3:LO N ((gK b).1,(gK b).2)=_:=I8 hN (gK b);unfold gL;simp only [aU];by_cases h0:aK (fO b)=0
 ·by_cases h1:b.2.2=-1∨b.2.2=1
  ·have hb:(b.2.2 != -1&&b.2.2 != 1)=false:=by rcases h1 with h | h <;> rw [h] <;> rfl
   rw [hb];have hn:¬ (b.2.2≠-1∧b.2.2≠1):=by omega
   rw [if_pos h0,if_neg (show ¬ aK (fO b)≠0 from fun c=>c h0),if_neg hn,← Qb b h0 h1];simp only [abj,if_false,if_true,bne_self_eq_false,cond_false,q3,aad]
  ·have hb:(b.2.2 != -1&&b.2.2 != 1)=true:=by
    rw [Bool.and_eq_true]; exact ⟨bne_iff_ne.2 (by omega),bne_iff_ne.2 (by omega)⟩
   have hn:b.2.2≠-1∧b.2.2≠1:=by omega
   rw [hb,if_pos h0,if_neg (show ¬ aK (fO b)≠0 from fun c=>c h0),if_pos hn];rfl
 ·have hb:(aK (fO b) != 0)=true:=bne_iff_ne.2 h0;rw [if_neg h0,if_pos h0,hb];rfl
def less (a b:aF):Bool:=if a.2.1≠b.2.1 then decide (a.2.1 < b.2.1) else if a.1≠b.1 then decide (a.1 < b.1) else decide (a.2.2 < b.2.2)
theorem C8 (N:Nat) (a b:aF):XD N (a,b)=some (less a b):=by
 rw [PZ];unfold less;by_cases h1:a.2.1=b.2.1
 ·by_cases h2:a.1=b.1
  ·simp [h1,h2]
  ·have hb:(a.1 != b.1)=true:=bne_iff_ne.2 h2;simp [h1,h2,hb]
 ·have hb:(a.2.1 != b.2.1)=true:=bne_iff_ne.2 h1;simp [h1,hb]
def A7 (a b:Int):Int:=if a < b then -1 else if a > b then 1 else 0
theorem VG (N:Nat) (a b:Int):LP N (a,b)=some (A7 a b):=by
 rw [Us];simp only [Uq,bne_self_eq_false,aad,cond_false];unfold A7;by_cases h1:a < b
 ·simp [h1]
 ·by_cases h2:a > b <;> simp [h1,h2]
theorem I9 {N:Nat} (hN:fC N) (l:List Int) (hl:l.length≤9223372036854775806):Ul N l=some (aU l):=by
 obtain ⟨o,h1,h2⟩:=pI (rd:=yH N l) l (fun k hk=>by
  have hd:=gd lS l k hk;have e1:gD (ae (map lS l) k)=l[k]:=by rw [hd]; rfl
  have e2:fits p3 (ae (map lS l) k)=true:=by rw [hd]; rfl
  simp only [yH,aao,aaO,e1,e2,bw (show k < 9223372036854775807 by omega),a7 hk,ay hk,aau,cond_true];by_cases hz:l[k]=0
  ·simp [hz]
  ·simp [hz,Bool.cond_eq_ite]) (by simp only [yH,aao,bO,cond_false]) N (by unfold fC at hN; omega)
 rw [Un,h1,aad];rcases o with o|o
 ·simpa using h2
 ·simpa using h2
def yh (a b:aF):Int:=aU [A7 a.2.1 b.2.1,A7 a.1 b.1,A7 a.2.2 b.2.2]
theorem A8 {N:Nat} (hN:fC N) (a b:aF):Eo N (a,b)=some (yh a b):=by
 rw [Ut];simp only [VG,aad,beq_self_eq_true,aau,cond_true];have h3:∀ x y z:Int,((bif allFit (fits p3) [AV.int .i64 x,AV.int .i64 y,AV.int .i64 z]&&true then some (map gD [AV.int .i64 x,AV.int .i64 y,AV.int .i64 z]) else none:Option kM))=some [x,y,z]:=fun x y z=>rfl
 rw [h3];simp only [aad];rw [I9 hN _ (by simp)];rfl
theorem C9 (a b:aF):decide (yh a b≥0)=!less a b:=by
 unfold yh less A7;simp only [aU];by_cases h1:a.2.1 < b.2.1
 ·have:a.2.1≠b.2.1:=by omega
  simp [h1,this]
 ·by_cases h2:a.2.1 > b.2.1
  ·have:a.2.1≠b.2.1:=by omega
   simp [h1,h2,this]
  ·have:a.2.1=b.2.1:=by omega
   simp only [h1,h2,this,if_false,if_true,ne_eq,not_true_eq_false];by_cases h3:a.1 < b.1
   ·have:a.1≠b.1:=by omega
    simp [h3,this]
   ·by_cases h4:a.1 > b.1
    ·have:a.1≠b.1:=by omega
     simp [h3,h4,this]
    ·have:a.1=b.1:=by omega
     simp only [this,if_false,if_true,not_true_eq_false,Int.lt_irrefl,gt_iff_lt];by_cases h5:a.2.2 < b.2.2
     ·simp [h5]
     ·by_cases h6:b.2.2 < a.2.2 <;> simp [h5,h6]
def ED (l:List aF) (k:Nat):Int:=if gL (l.getD k (0,0,0))≠0 then gL (l.getD k (0,0,0)) else if 0 < k∧less (l.getD (k - 1) (0,0,0)) (l.getD k (0,0,0))=false then 11 else 0
def dC (l:List aF):Int:=if l.length > 4096 then 5 else aU ((abq l.length).map (ED l))
theorem yQ {N:Nat} (hN:fC N) (l:List aF):Uu N l=some (dC l):=by
 rw [Zm];simp only [aao];unfold dC;by_cases h:l.length > 4096
 ·have h':(l.length:Int) > 4096:=by omega
  simp [h,h']
 ·have h':¬ (l.length:Int) > 4096:=by omega
  have key:=jz (rd:=AJ N l) ((abq l.length).map (ED l)) (fun k hk=>by
   have hk:k < l.length:=by simpa using hk
   obtain ⟨a1,a2⟩:=gl l hk;rw [List.getElem_map,List.getElem_range];have e1:l.getD k (0,0,0)=l[k]:=by simp [hk]
   unfold ED;rw [e1];have q1:O0 N (l[k].1,l[k].2.1,l[k].2.2)=_:=Qd hN l[k];have two:∀ x y:Int,((bif allFit (fits xq) [AV.int .i64 x,AV.int .i64 y]&&true then some (map kN [AV.int .i64 x,AV.int .i64 y]) else none:Option kM))=some [x,y]:=fun x y=>rfl
   have q5:∀ x y:Int,xZ N [x,y]=some (aU [x,y]):=fun x y=>kl hN _ (by simp)
   by_cases Co:k=0
   ·subst Co;simp only [AJ,aao,aaO,a1,a2,a7 hk,ay hk,aau,cond_true,q1,aad,two,q5,lT,bw (show 0 < 9223372036854775807 by omega),show decide (((0:Nat):Int) > 0)=false from rfl,cond_false];by_cases h0:gL l[0]=0
    ·simp [h0,aU]
    ·have hb:(gL l[0] != 0)=true:=bne_iff_ne.2 h0;simp [h0,hb,aU]
   ·have L8:k - 1 < l.length:=by omega
    obtain ⟨b1,b2⟩:=gl l L8;have e2:l.getD (k - 1) (0,0,0)=l[k - 1]:=by simp [L8]
    rw [e2];have ew:wrap .i64 ((k:Int) - 1)=((k - 1:Nat):Int):=by rw [fT (by omega)]; omega
    have em:(if ((k - 1:Nat):Int) > 0 then ((k - 1:Nat):Int) else 0)=((k - 1:Nat):Int):=by split <;> omega
    have hp:decide ((k:Int) > 0)=true:=decide_eq_true (by omega);have q2:Eo N ((l[k - 1].1,l[k - 1].2.1,l[k - 1].2.2),(l[k].1,l[k].2.1,l[k].2.2))=_:=A8 hN l[k - 1] l[k];simp only [AJ,aao,aaO,a1,a2,a7 hk,ay hk,aau,cond_true,q1,aad,hp,ew,em,b1,b2,ay L8,q2,lT,C9,two,q5,bw (show k < 9223372036854775807 by omega)];by_cases h0:gL l[k]=0
    ·cases less l[k - 1] l[k] with
     |true=>simp [h0,aU]
     |false=>simp [h0,aU,show 0 < k by omega]
    ·have hb:(gL l[k] != 0)=true:=bne_iff_ne.2 h0;simp [h0,hb,aU]) (by
   rw [aao,abv];simp only [AJ,aao,bO,cond_false]) N (by unfold fC at hN; rw [aao,abv]; omega)
  rw [if_neg h];simp only [h',decide_false,cond_false,key,aad];split <;> simp_all
end Go.Proofs.YtldcljfjjoidhaaGreatDoor
namespace Go.Proofs.YtldcljfjjoidhaaGreatDoor
open Go Go.Am Go.Sort
open List (map)
open Int (toNat)
open Go.IntKind (wrap)
open Go.Am.aO (fits)
set_option maxRecDepth 100000
def ltK:Int × Int→Int × Int→Bool:=ltOf MA
def iM:List aF→List XA
 |[]=>[]
 |b :: l=>fO b :: gK b :: iM l
theorem A9:∀ l:List aF,(iM l).length=2 * l.length
 |[]=>rfl
 |b :: l=>by rw [iM,abn,abn,A9 l,abn]; omega
theorem uL:∀ (l:List aF) (k:Nat) (h:k / 2 < l.length) (h2:k < (iM l).length),(iM l)[k]=if k % 2=0 then fO l[k / 2] else gK l[k / 2]
 |[],k,h,_=>absurd h (Nat.not_lt_zero _)
 |b :: l,0,_,_=>rfl
 |b :: l,1,_,_=>rfl
 |b :: l,k+2,h,h2=>by
  have e:(k+2) / 2=k / 2+1:=by omega
  have e2:(k+2) % 2=k % 2:=by omega
  have hl:k / 2 < l.length:=by rw [e,abn] at h; omega
  have s7:k < (iM l).length:=by rw [A9]; omega
  have ih:=uL l k hl s7;simp only [e2];have g1:(iM (b :: l))[k+2]=(iM l)[k]:=rfl;have g2:(b :: l)[(k+2) / 2]=l[k / 2]:=by
   have:∀ i (hi:i < (b :: l).length) (HM:i=k / 2+1),(b :: l)[i]=l[k / 2]:=by
    intro i hi HM; subst HM; rfl
   exact this _ h e
  rw [g1,g2,ih]
def nS (l:List aF):List XA:=Gv ltK (0,0) (iM l)
section
variable {N:Nat} (hN:fC N)
include hN
section
variable (F st:List XA) (hn:st.length=F.length) (hF:F.length≤2000000)
include hn hF
end
end
end Go.Proofs.YtldcljfjjoidhaaGreatDoor
namespace Go.Proofs.YtldcljfjjoidhaaGreatDoor
open Go Go.Am Go.Sort
open List (map)
open Int (toNat)
open Go.IntKind (wrap)
open Go.Am.aO (fits)
set_option maxRecDepth 100000
theorem GH {c:cQ} (h:gU c=0) {k:Nat} (hk:k≤c.2.2.2.2.toNat):aK (au c k)=0:=by
 have h1:=tz h;unfold gU at h;rw [if_pos h1] at h;have:=dz.1 h (aK (au c k)) (aby.2 ⟨au c k,aby.2 ⟨k,abz.2 (by omega),rfl⟩,rfl⟩);exact this
theorem VH {b:aF} (h0:aK (fO b)=0) (h1:b.2.2=-1∨b.2.2=1):gK b=(b.1+b.2.2,b.2.1+1):=by
 have:=eO h0;unfold fO at this;simp only at this;unfold gK;rw [fT (by omega),fT (by omega)]
theorem jC (p:Int × Int):aK p=0↔(-100000≤p.1∧p.1≤100000∧-100000≤p.2∧p.2≤100000)∧(p.1+p.2) % 2=0:=by
 unfold aK;constructor
 ·intro h;split at h
  ·simp at h
  ·split at h
   ·omega
   ·simp at h
 ·rintro ⟨h1,h2⟩;rw [if_neg (by omega),if_pos h2]
theorem Qe {c:cQ} (h:gU c=0) {k:Nat} (hk:k < c.2.2.2.2.toNat):gL (e8 c k)=0:=by
 have k1:=GH h (show k≤c.2.2.2.2.toNat by omega);have k2:=GH h (show k+1≤c.2.2.2.2.toNat by omega);have hs:((au c (k+1)).1=(au c k).1+1∨(au c (k+1)).1=(au c k).1 - 1)∧((au c (k+1)).2=(au c k).2+1∨(au c (k+1)).2=(au c k).2 - 1):=by
  unfold au sg;obtain ⟨x,y,r,u,n⟩:=c;simp only;rcases Nat.mod_two_eq_zero_or_one k with hm|hm
  ·have PA:(k+1) % 2=1:=by omega
   rw [hm,PA];cases r <;> cases u <;> simp <;> omega
  ·have PA:(k+1) % 2=0:=by omega
   rw [hm,PA];cases r <;> cases u <;> simp <;> omega
 unfold e8;generalize au c k=a at *;generalize au c (k+1)=b at *;obtain ⟨a1,a2⟩:=a;obtain ⟨b1,b2⟩:=b;simp only at hs;have e:∀ d:aF,aK (fO d)=0→(d.2.2=-1∨d.2.2=1)→aK (d.1+d.2.2,d.2.1+1)=0→gL d=0:=by
  intro d h0 h1 h2;unfold gL;rw [if_neg (by simp [h0]),if_neg (by omega),VH h0 h1];exact h2
 unfold kQ;simp only;by_cases hh:a2 > b2
 ·rw [if_pos hh];refine e _ k2 (by simp only; omega) ?_;simp only;rw [show b1+(a1 - b1)=a1 by omega,show b2+1=a2 by omega];exact k1
 ·rw [if_neg hh];refine e _ k1 (by simp only; omega) ?_;simp only;rw [show a1+(b1 - a1)=b1 by omega,show a2+1=b2 by omega];exact k2
theorem lJ {b:aF} (h:gL b=0):aK (fO b)=0∧(b.2.2=-1∨b.2.2=1)∧aK (gK b)=0:=by
 unfold gL at h;by_cases h0:aK (fO b)=0
 ·rw [if_neg (by simp [h0])] at h;by_cases h1:b.2.2≠-1∧b.2.2≠1
  ·rw [if_pos h1] at h; simp at h
  ·rw [if_neg h1] at h;exact ⟨h0,by omega,h⟩
 ·rw [if_pos h0] at h;exact absurd h h0
theorem lV {c:cQ} {b:aF}:b∈bV c↔∃ k,k < c.2.2.2.2.toNat∧e8 c k=b:=by
 unfold bV dQ;simp [aby,abz]
theorem Qf {p:List cQ} (h:nR p=0):p.length≤256∧(∀ k (hk:k < p.length),yg (p.take k) p[k]=0):=by
 unfold nR at h;by_cases hp:p.length > 256
 ·rw [if_pos hp] at h; simp at h
 ·rw [if_neg hp] at h;exact ⟨by omega,fun k hk=>Kq h hk⟩
theorem xz (c:cQ):∀ k,(dQ c k).Nodup
 |0=>by simp [dQ]
 |k+1=>by
  rw [mG,List.nodup_append];refine ⟨xz c k,by simp,?_⟩;intro a ha b hb e;rw [List.mem_singleton] at hb;subst hb; subst e;exact GF c k ha
theorem Ba {p:List cQ} (h:nR p=0):∀ k,k≤p.length→(bn (p.take k)).Nodup∧(bn (p.take k)).length≤4096:=by
 intro k
 induction k with
 |zero=>intro _; simp [bn]
 |succ k ih=>
  intro hk;have jf:k < p.length:=by omega
  obtain ⟨i1,i2⟩:=ih (by omega);obtain ⟨e1,e2,e3,e4⟩:=r9 ((Qf h).2 k jf);rw [r8 p jf];refine ⟨?_,by rw [abi]; exact e4⟩;rw [List.nodup_append];refine ⟨i1,xz _ _,?_⟩;intro a ha b hb e;subst e;exact e3 a hb ha
def Bb (p:List cQ):List aF:=Gv (ltOf gj) (0,0,0) (bn p)
theorem vZ (p:List cQ):xx (ltOf gj) (Bb p)∧∀ x,x∈Bb p↔x∈bn p:=jB oH Ey (0,0,0) (bn p)
theorem uR (a b:aF):ltOf gj a b=less a b:=by
 have h1:=GB 0 a b;have h2:=C8 0 a b;rw [h1] at h2;exact Option.some.inj h2
theorem km {α:Type} {lt:α→α→Bool} (hw:SWO lt) {l:List α} (h:xx lt l):l.Nodup:=by
 refine List.Pairwise.imp ?_ h;intro a b Mz e;subst e;rw [hw.1 a] at Mz;cases Mz
theorem Da {p:List cQ} (h:(bn p).Nodup):(bn p).mergeSort (fun x y=>!(ltOf gj) y x)=Bb p:=by
 obtain ⟨s1,s2⟩:=Gx oH (bn p);obtain ⟨n1,IQ⟩:=vZ p;refine yL oH ?_ n1 (fun x=>by rw [s2,IQ]);have hn:((bn p).mergeSort (fun x y=>!(ltOf gj) y x)).Nodup:=(List.mergeSort_perm (bn p) _).nodup_iff.2 h;refine List.Pairwise.imp₂ ?_ s1 hn;intro a b Mz cK;cases hc:ltOf gj a b with
 |true=>rfl
 |false=>exact absurd (Ey a b hc Mz) cK
theorem Qg {p:List cQ} (h:(bn p).Nodup):(Bb p).length=(bn p).length:=by
 rw [← Da h,abD]
theorem Ja {l:List aF} {k:Int × Int}:k∈iM l↔∃ b∈l,k=fO b∨k=gK b:=by
 induction l with
 |nil=>simp [iM]
 |cons b l ih=>
  simp only [iM,List.mem_cons,ih];constructor
  ·rintro (h|h|⟨d,hd,h⟩)
   ·exact ⟨b,.inl rfl,.inl h⟩
   ·exact ⟨b,.inl rfl,.inr h⟩
   ·exact ⟨d,.inr hd,h⟩
  ·rintro ⟨d,rfl|hd,h|h⟩
   ·exact .inl h
   ·exact .inr (.inl h)
   ·exact .inr (.inr ⟨d,hd,.inl h⟩)
   ·exact .inr (.inr ⟨d,hd,.inr h⟩)
theorem Bc {l:List aF} {k:Int × Int}:k∈nS l↔∃ b∈l,k=fO b∨k=gK b:=by
 rw [← Ja];exact (jB L5 Vn (0,0) (iM l)).2 k
theorem Bd (l:List aF):(nS l).length≤2 * l.length:=by
 rw [← A9];unfold nS Gv;have:∀ (l a:List XA),(l.foldl (fun s k=>tw ltK (0,0) k s) a).length≤l.length+a.length:=by
  intro l
  induction l with
  |nil=>intro a; simp
  |cons x l ih=>
   intro a;have h1:=ih (tw ltK (0,0) x a);have h2:=Gw (lt:=ltK) (0,0) x a;rw [List.foldl_cons,abn];omega
 exact this (iM l) []
section
variable {N:Nat} (hN:fC N)
include hN
def hM (l:List aF):List (XA × Bool):=l.foldl (fun m b=>qe (gK b) true m) []
end
end Go.Proofs.YtldcljfjjoidhaaGreatDoor
