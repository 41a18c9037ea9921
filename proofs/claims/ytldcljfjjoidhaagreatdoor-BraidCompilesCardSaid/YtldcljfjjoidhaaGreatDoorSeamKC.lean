/- Plain laws: a net in order,each bar once (reference). -/
import Derived.Test.YtldcljfjjoidhaaGreatDoorSeamKB
import Derived.Test.YtldcljfjjoidhaaGreatDoorBraV
import Derived.Test.YtldcljfjjoidhaaGreatDoorAmKL
import Derived.Test.YtldcljfjjoidhaaGreatDoorBraLp
set_option linter.all false
namespace Go.Proofs.YtldcljfjjoidhaaGreatDoor
open Go Go.Am Go.Sort
open List (map)
open Int (toNat)
open Go.IntKind (wrap)
open Go.Am.aR (fits)
set_option maxRecDepth 100000
theorem ke {V X:Type} {rd:V→Option (V ⊕ X)} (m:Nat) (E:Nat→V) (b:Nat→Bool) (y:Nat→X) (x:X)
  (h:∀ k,k < m→rd (E k)=some (if b k then .inr (y k) else .inl (E (k+1)))) (h0:rd (E m)=some (.inr x)) (n:Nat) (hn:m < n) :
  aL rd n (E 0)=some (match (List.range m).find? b with | some j=>y j | none=>x):=by
 have key:=lE (rd:=rd) (S:=Unit) (Y:=Nat) (List.range m) (fun _ k=>E k) (fun _ i=>if b i then .inr i else .inl ()) (fun _=>x) y (fun _ _=>True)
  (fun s k hk _=>by
   have hk:k < m:=by simpa using hk
   refine ⟨?_,fun _ _=>trivial⟩
   rw [List.getElem_range,h k hk]
   cases b k <;> rfl) (fun _ _=>by rw [List.length_range]; exact h0) n () 0 (Nat.zero_le _) (by simpa using hn) trivial
 rw [List.drop_zero] at key
 refine key.trans (congrArg some ?_)
 clear key h h0 hn
 generalize List.range m=l
 induction l with
 | nil=>rfl
 | cons a l ih=>
  simp only [foldI,List.find?_cons]
  cases b a with
  | true=>rfl
  | false=>simp only [Bool.false_eq_true,if_false,Sum.elim_inl]; exact ih
theorem M8 (a b:dv):(a.1 == b.1&&(a.2.1 == b.2.1&&(a.2.2 == b.2.2&&true)))=decide (a=b):=by
 rw [Bool.eq_iff_iff]
 simp [Prod.ext_iff]
theorem Eh (N:Nat) (a b:dv):T6 N (a,b)=some ((ltOf kV) a b):=by
 rw [M7,uN]
 by_cases h1:a.2.1=b.2.1
 ·by_cases h2:a.1=b.1
  ·simp [h1,h2]
  ·have hb:(a.1 != b.1)=true:=bne_iff_ne.2 h2
   simp [h1,h2,hb]
 ·have hb:(a.2.1 != b.2.1)=true:=bne_iff_ne.2 h1
  simp [h1,hb]
theorem Gw (l:List dv) (a b:Nat):eR a b (map af l)=map af ((l.take b).drop a):=by simp [eR,List.map_take,List.map_drop]
section
variable {N:Nat} (hN:fL N)
include hN
theorem W2 (l s:List dv) (i:Nat) (hi:i < l.length) (hl:l.length≤1000000) (hs:s.length≤2000000):aL (nB N l (s,(i:Int))) N 0=some ((s.takeWhile fun x=>(ltOf kV) x l[i]).length:Int):=by
 obtain ⟨z1,z2⟩:=gl l hi
 have q:=ke (rd:=nB N l (s,(i:Int))) s.length (fun k=>(k:Int)) (fun k=>!(ltOf kV) (s.getD k (0,0,0)) l[i]) (fun k=>(k:Int)) (s.length:Int) (fun k hk=>by
  obtain ⟨a1,a2⟩:=gl s hk
  have e:s.getD k (0,0,0)=s[k]:=by simp [hk]
  rw [e]
  have hb:T6 N ((s[k].1,s[k].2.1,s[k].2.2),(l[i].1,l[i].2.1,l[i].2.2))=some ((ltOf kV) s[k] l[i]):=Eh N s[k] l[i]
  simp only [nB,List.length_map,Int.toNat_natCast,a1,a2,z1,z2,a8 hk,aB hk,aB hi,Bool.and_self,cond_true,bE (show k < 9223372036854775807 by omega),hb,Option.bind_some]
  cases (ltOf kV) s[k] l[i] <;> rfl) (by
  simp only [nB,List.length_map,bO,cond_false,Option.bind_some]) N (by unfold fL at hN; omega)
 have q':aL (nB N l (s,(i:Int))) N 0=_:=q
 rw [q']
 have:=RC s (fun x=>(ltOf kV) x l[i]) (0,0,0)
 rw [← this]
 cases (List.range s.length).find? fun j=>!(ltOf kV) (s.getD j (0,0,0)) l[i] <;> rfl
theorem M9 (l:List dv) (s:List dv) (k:Nat) (hl:l.length≤1000000) (hs:s.length≤2000000) (hk:k < l.length):uO N l (s,(k:Int))=some (.inl (uK (ltOf kV) (0,0,0) l[k] s,((k+1:Nat):Int))):=by
 obtain ⟨a1,a2⟩:=gl l hk
 have oJ:=W2 hN l s k hk hl hs
 have hle:(s.takeWhile fun x=>(ltOf kV) x l[k]).length≤s.length:=(List.takeWhile_sublist _).length_le
 unfold uK
 simp only
 generalize (s.takeWhile fun x=>(ltOf kV) x l[k]).length=a at *
 generalize l[k]=o at *
 have hc:((bif ((a:Int) == (s.length:Int)) then some true else bif (decide ((0:Int)≤(a:Int)∧(a:Int) < (s.length:Int))&&fits ay (ah (map af s) a)) then some (!(((aw (ah (map af s) a)).1 == o.1)&&(((aw (ah (map af s) a)).2.1 == o.2.1)&&(((aw (ah (map af s) a)).2.2 == o.2.2)&&true)))) else none):Option Bool)=some (decide (a=s.length∨s.getD a (0,0,0)≠o)):=by
  by_cases h:a=s.length
  ·have hb:((a:Int) == (s.length:Int))=true:=by simp [h]
   rw [hb]; simp [h]
  ·have Ae:a < s.length:=by omega
   obtain ⟨b1,b2⟩:=gl s Ae
   have hb:((a:Int) == (s.length:Int))=false:=beq_false_of_ne (by omega)
   have e:s.getD a (0,0,0)=s[a]:=by simp [Ae]
   rw [hb,b1,b2,aB Ae,e,M8]
   simp only [Bool.and_self,cond_true,cond_false]
   congr 1
   simp [h]
 have c1:decide ((0:Int)≤(a:Int)∧(a:Int)≤(s.length:Int))=true:=decide_eq_true (by omega)
 have ht:(List.take a s).length=a:=by rw [List.length_take]; omega
 have hbn:∀ x:Nat,x≤4000000→decide (x * 24≤140737488355328)=true:=fun x hx=>decide_eq_true (by omega)
 have z0:∀ x:List dv,[AV.agg [AV.int .i64 o.1,AV.int .i64 o.2.1,AV.int .i64 o.2.2]]++map af x=map af ([o]++x):=fun x=>rfl
 have z1:∀ x y:List dv,(map af x++[AV.agg [AV.int .i64 o.1,AV.int .i64 o.2.1,AV.int .i64 o.2.2]])++map af y=map af (x++[o]++y):=fun x y=>by rw [List.map_append,List.map_append]; rfl
 simp only [uO,jQ,xg,List.length_map,a8 hk,Int.toNat_natCast,a1,a2,aB hk,Bool.and_self,cond_true,Option.bind_some,oJ,hc]
 by_cases hi:a=s.length∨s.getD a (0,0,0)≠o
 ·rw [if_pos hi]
  simp only [hi,decide_true,cond_true,c1,Bool.and_self,Bool.and_true,Gw,List.drop_zero,List.take_length,beq_self_eq_true]
  by_cases h0:a=0
  ·subst h0
   simp only [List.take_zero,List.map_nil,List.isEmpty_nil,cond_true,List.nil_append,List.length_singleton,List.length_map,List.length_drop,decide_true,hbn (1+s.length) (by omega),Bool.and_self,z0,fy,fj,Option.bind_some,List.drop_zero,Bool.and_true,bE (show k < 9223372036854775807 by omega)]
  ·have cD:List.isEmpty (map af (List.take a s))=false:=by
    cases hd:List.take a s with
    | nil=>rw [hd] at ht; simp at ht; omega
    | cons x y=>rfl
   simp only [cD,cond_false,List.nil_append,List.length_append,List.length_singleton,List.length_map,List.length_drop,ht,Nat.zero_add,hbn a (by omega),hbn (a+1) (by omega),hbn (a+1+(s.length - a)) (by omega),decide_true,cond_true,Bool.and_self,z1,fy,fj,Option.bind_some,Bool.and_true,bE (show k < 9223372036854775807 by omega)]
 ·rw [if_neg hi]
  simp only [hi,decide_false,cond_false,fy,fj,Bool.and_true,cond_true,Option.bind_some,bE (show k < 9223372036854775807 by omega)]
theorem Sd (l:List dv) (hl:l.length≤1000000):T62 N l=some (MK (ltOf kV) (0,0,0) l):=by
 rw [WV]
 have key:=mq (rd:=uO N l) l (fun s k=>(s,(k:Int))) (fun s k=>uK (ltOf kV) (0,0,0) k s) (fun s=>s) (fun s k=>s.length≤k∧k≤l.length) (fun s k hk hs=>by
  refine ⟨M9 hN l s k hl (by omega) hk,?_⟩
  have:=ML (lt:=(ltOf kV)) (0,0,0) l[k] s
  omega) (fun s _=>by
  simp only [uO,jQ,xg,List.length_map,bO,cond_false,fy,fj,Bool.and_true,cond_true,Option.bind_some]) N [] 0 (Nat.zero_le _) (by unfold fL at hN; omega) ⟨Nat.le_refl _,Nat.zero_le _⟩
 have pW:aL (uO N l) N ([],0)=_:=key
 have z:((bif (allFit (fits ay) ([]:List AV)&&true) then some ((map aw ([]:List AV)),0) else none:Option ((List dv) × Int)).bind fun T3=>some T3)=some ([],0):=rfl
 rw [z,Option.bind_some,pW,List.drop_zero,Option.bind_some]
 simp only [fy,fj,cond_true]
 rfl
end
end Go.Proofs.YtldcljfjjoidhaaGreatDoor
namespace Go.Proofs.YtldcljfjjoidhaaGreatDoor
open Go Go.Am Go.Sort
open List (map)
open Int (toNat)
open Go.IntKind (wrap)
open Go.Am.aR (fits)
set_option maxRecDepth 100000
theorem Ei (l:List dv) (p:dv) (x y z:Int) (h:p=(x,y,z)):map af l++[AV.agg [AV.int .i64 x,AV.int .i64 y,AV.int .i64 z]]=map af (l++[p]):=by subst h; rw [List.map_append]; rfl
section
variable {N:Nat} (hN:fL N)
include hN
theorem Se (l:List dq) {k:Nat} (hk:k < l.length):cb (ah (map aU l) k)=l[k]∧fits qD (ah (map aU l) k)=true:=by
 rw [fH aU l k hk]
 exact ⟨aeK _,aeJ _⟩
theorem W3 (p:List dq) (i:Nat) (hi:i < p.length) (acc:List dv) (u:Unit) (hc:cX p[i]=0) (ha:acc.length≤1000000000) :
  aL (nC N p (u,(i:Int),acc)) N (0,acc,p[i].1,p[i].2.1,p[i].2.2.1,p[i].2.2.2.1,p[i].2.2.2.2,())=some (acc++dJ p[i],p[i].1,p[i].2.1,p[i].2.2.1,p[i].2.2.2.1,p[i].2.2.2.2,()):=by
 have a:=Se hN p hi
 generalize p[i]=c at *
 obtain ⟨h1,h2,h3⟩:=fk hc
 have key:=cW (rd:=nC N p (u,(i:Int),acc)) c.2.2.2.2.toNat (fun k=>((k:Int),acc++e7 c k,c.1,c.2.1,c.2.2.1,c.2.2.2.1,c.2.2.2.2,())) (acc++dJ c,c.1,c.2.1,c.2.2.1,c.2.2.2.1,c.2.2.2.2,()) (fun k hk=>by
  have cu:decide ((k:Int) < c.2.2.2.2)=true:=decide_eq_true (by omega)
  have t1:=gX N c k h1 (by omega)
  have t2:=gX N c (k+1) h1 (by omega)
  have q1:=iu c hc k (by omega)
  have q2:=iu c hc (k+1) (by omega)
  have hl:(acc++e7 c k).length=acc.length+k:=by rw [List.length_append,iY]
  have hb:decide ((acc.length+k+1) * 24≤140737488355328)=true:=decide_eq_true (by omega)
  have eb:jL c k=mu (bw c k) (bw c (k+1)):=rfl
  have es:acc++e7 c (k+1)=(acc++e7 c k)++[jL c k]:=by rw [ox,List.append_assoc]
  rw [es]
  simp only [nC,oz,Int.toNat_natCast,a.1,cu,cond_true,t1,bE (show k < 9223372036854775807 by omega),t2,Option.bind_some,beq_self_eq_true,Bool.and_self]
  unfold mu at eb
  generalize bw c k=x at *
  generalize bw c (k+1)=y at *
  by_cases EN:x.2 > y.2
  ·rw [if_pos EN] at eb
   have w:wrap .i64 (x.1 - y.1)=x.1 - y.1:=gk ⟨by omega,by omega⟩
   have sn:=Ei (acc++e7 c k) (jL c k) y.1 y.2 (x.1 - y.1) eb
   simp only [EN,decide_true,cond_true,fy,fj,List.length_map,hl,Nat.beq_refl,Bool.and_self,Bool.and_true,Option.bind_some,w,hb,sn,List.length_append,List.length_singleton,iY]
  ·rw [if_neg EN] at eb
   have w:wrap .i64 (y.1 - x.1)=y.1 - x.1:=gk ⟨by omega,by omega⟩
   have sn:=Ei (acc++e7 c k) (jL c k) x.1 x.2 (y.1 - x.1) eb
   simp only [EN,decide_true,decide_false,cond_true,cond_false,fy,fj,List.length_map,hl,Nat.beq_refl,Bool.and_self,Bool.and_true,Option.bind_some,w,hb,sn,List.length_append,List.length_singleton,iY]) (by
  have qi:decide (((c.2.2.2.2.toNat:Nat):Int) < c.2.2.2.2)=false:=decide_eq_false (by omega)
  simp only [nC,oz,Int.toNat_natCast,a.1,qi,cond_false,fy,fj,List.length_map,Nat.beq_refl,Bool.and_self,Bool.and_true,cond_true,Option.bind_some]
  rfl) N 0 (Nat.zero_le _) (by unfold fL at hN; omega)
 have e0:acc++e7 c 0=acc:=by simp [e7]
 rw [e0] at key
 exact key
theorem Sf (p:List dq) (h:∀ c∈p,cX c=0) (hp:p.length≤1000000):aL (lL N p) N ((),0,[])=some ((),cT p):=by
 refine cW (rd:=lL N p) p.length (fun k=>((),(k:Int),cT (p.take k))) ((),cT p) (fun k hk=>?_) ?_ N 0 (Nat.zero_le _) (by unfold fL at hN; omega)
 ·have a:=Se hN p hk
  have e0:=h p[k] (List.getElem_mem hk)
  have hl:=p0 (p.take k) (fun c hc=>h c (List.mem_of_mem_take hc))
  rw [List.length_take,Nat.min_eq_left (Nat.le_of_lt hk)] at hl
  have b:=W3 hN p k hk (cT (p.take k)) () e0 (by omega)
  rw [qF p hk]
  simp only [lL,List.length_map,a8 hk,aB hk,Int.toNat_natCast,a.1,a.2,fy,fj,Nat.beq_refl,Bool.and_self,Bool.and_true,cond_true,Option.bind_some,b,bE (show k < 9223372036854775807 by omega)]
 ·simp only [lL,List.length_map,bO,cond_false,fy,fj,Nat.beq_refl,Bool.and_self,Bool.and_true,cond_true,Option.bind_some,List.take_length]
theorem Jn (l:List dv):bg (map af l)=true:=by
 induction l with
 | nil=>rfl
 | cons x l ih=>exact ih
theorem Sg (p:List dq) (h:∀ c∈p,cX c=0) (hp:p.length≤1000000):T91 N p=some ((cT p).mergeSort fun x y=>!(ltOf kV) y x):=by
 have z2:((bif ((Nat.beq 0 (([]:List AV)).length&&Nat.beq 0 (([]:List AV)).length)&&(allFit (fits ay) ([]:List AV)&&true)) then some ((),0,(map aw ([]:List AV))) else none:Option (Unit × Int × dY)).bind fun w23=>some w23)=some ((),0,[]):=rfl
 have hl:=p0 p h
 have es:nu ay kV (map af (cT p))=map af ((cT p).mergeSort fun x y=>!(ltOf kV) y x):=by
  unfold nu
  rw [show map ay.bA (map af (cT p))=cT p from fj _]
  rfl
 have hb:decide ((cT p).length≤140737488355328)=true:=decide_eq_true (by omega)
 rw [W1,z2,Option.bind_some,Sf hN p h hp,Option.bind_some]
 simp only [es,List.length_map,List.length_mergeSort,decide_true,hb,Jn hN,fy,fj,Bool.and_self,cond_true]
end
end Go.Proofs.YtldcljfjjoidhaaGreatDoor
namespace Go.Proofs.YtldcljfjjoidhaaGreatDoor
open Go Go.Am Go.Sort
open List (map)
open Int (toNat)
open Go.IntKind (wrap)
open Go.Am.aR (fits)
set_option maxRecDepth 100000
section
variable {N:Nat} (hN:fL N)
include hN
theorem W4 (l:List dq) (c:dq):map aU l++[AV.agg [AV.int .i64 c.1,AV.int .i64 c.2.1,AV.bool c.2.2.1,AV.bool c.2.2.2.1,AV.int .i64 c.2.2.2.2]]=map aU (l++[c]):=by rw [List.map_append]; rfl
theorem W5 (p:List dq) (hp:p.length≤1000000):T28 N p=some p:=by
 have key:=cW (rd:=zA N p) p.length (fun k=>(p.take k,(k:Int))) p (fun k hk=>by
  obtain ⟨a1,a2⟩:=Eg hN p hk
  have hl:(p.take k).length=k:=by rw [List.length_take]; omega
  have hb:decide ((k+1) * 32≤140737488355328)=true:=decide_eq_true (by omega)
  have sn:=W4 hN (p.take k) p[k]
  have es:p.take (k+1)=p.take k++[p[k]]:=by rw [List.take_add_one,List.getElem?_eq_getElem hk]; rfl
  rw [es]
  simp only [zA,xe,List.length_map,Int.toNat_natCast,a8 hk,aB hk,a1,a2,Bool.and_self,Bool.and_true,cond_true,decide_true,hl,hb,sn,qU,qV,Option.bind_some,List.length_append,List.length_singleton,bE (show k < 9223372036854775807 by omega)]) (by
  simp only [zA,xe,List.length_map,bO,cond_false,qU,qV,Bool.and_true,cond_true,Option.bind_some,decide_true,List.take_length]) N 0 (Nat.zero_le _) (by unfold fL at hN; omega)
 have pW:aL (zA N p) N ([],0)=some p:=key
 have z:((bif (allFit (fits qD) ([]:List AV)&&true) then some ((map cb ([]:List AV)),0) else none:Option (fK × Int)).bind fun w6=>bif (decide (0=(map aU w6.1).length)&&true) then some w6 else none)=some ([],0):=rfl
 rw [WH,z,Option.bind_some,pW,Option.bind_some]
 simp only [qU,qV,cond_true]
def wC (p:List dq) (i:Nat):Bool:=i == 0 || !decide (bw (p.getD (i - 1) (0,0,false,false,0)) (p.getD (i - 1) (0,0,false,false,0)).2.2.2.2.toNat=((p.getD i (0,0,false,false,0)).1,(p.getD i (0,0,false,false,0)).2.1))
def Cv (p:List dq) (k:Nat):List Int:=((List.range k).filter (wC p)).map fun i:Nat=>(i:Int)
theorem Ej (p:List dq) (k:Nat):Cv p (k+1)=if wC p k then Cv p k++[(k:Int)] else Cv p k:=by
 unfold Cv
 rw [List.range_succ,List.filter_append,List.map_append]
 cases h:wC p k <;> simp [h]
theorem Sh (p:List dq) (k:Nat):(Cv p k).length≤k:=by
 unfold Cv
 rw [List.length_map]
 have:=List.length_filter_le (wC p) (List.range k)
 rwa [List.length_range] at this
theorem T7 (l:List Int) (x:Int):map cC l++[AV.int .i64 x]=map cC (l++[x]):=by rw [List.map_append]; rfl
theorem Si (q:Int × Int) (x y:Int):(!((q.1 == x)&&(q.2 == y)))=!decide (q=(x,y)):=by
 congr 1
 rw [Bool.eq_iff_iff]
 simp [Prod.ext_iff]
theorem Na (p:List dq) (h:∀ c∈p,cX c=0) (hp:p.length≤1000000):T46 N p=some (Cv p p.length):=by
 have key:=cW (rd:=uP N p) p.length (fun k=>(Cv p k,(k:Int))) (Cv p p.length) (fun k hk=>by
  obtain ⟨a1,a2⟩:=Eg hN p hk
  have hl:=Sh hN p k
  have hb:decide (((Cv p k).length+1) * 8≤140737488355328)=true:=decide_eq_true (by omega)
  rw [Ej hN]
  by_cases h0:k=0
  ·subst h0
   have e:wC p 0=true:=rfl
   have b0:((0:Int) == 0)=true:=rfl
   have w1:wrap .i64 (0+1)=1:=rfl
   have i0:decide ((0:Int)≤0∧(0:Int) < (p.length:Int))=true:=decide_eq_true (by omega)
   have l0:decide ((0:Int) < (p.length:Int))=true:=decide_eq_true (by omega)
   rw [e,if_pos rfl]
   simp only [uP,List.length_map,Int.natCast_zero,Int.toNat_zero,l0,i0,a1,a2,b0,Bool.and_self,Bool.and_true,cond_true,decide_true,hb,T7 hN,EL,EM,Option.bind_some,List.length_append,List.length_singleton,w1]
   rfl
  ·obtain ⟨j,rfl⟩:∃ j,k=j+1:=⟨k - 1,by omega⟩
   have hj:j < p.length:=by omega
   obtain ⟨b1,b2⟩:=Eg hN p hj
   have hm:wrap .i64 (((j+1:Nat):Int) - 1)=(j:Int):=by rw [gk ⟨by omega,by omega⟩]; omega
   have b0:(((j+1:Nat):Int) == 0)=false:=beq_false_of_ne (by omega)
   have e56:=RI hN p[j] (h p[j] (List.getElem_mem hj))
   have e:wC p (j+1)=!decide (bw p[j] p[j].2.2.2.2.toNat=(p[j+1].1,p[j+1].2.1)):=by
    unfold wC
    have g1:p.getD (j+1 - 1) (0,0,false,false,0)=p[j]:=by simp [hj]
    have g2:p.getD (j+1) (0,0,false,false,0)=p[j+1]:=by simp [hk]
    rw [g1,g2]
    rfl
   rw [e]
   simp only [uP,List.length_map,Int.toNat_natCast,a8 hk,aB hk,aB hj,hm,a1,a2,b1,b2,b0,Bool.and_self,Bool.and_true,cond_true,cond_false,beq_self_eq_true,e56,Si hN,EL,EM,decide_true,Option.bind_some]
   cases decide (bw p[j] p[j].2.2.2.2.toNat=(p[j+1].1,p[j+1].2.1)) with
   | true=>simp only [Bool.not_true,cond_false,Bool.false_eq_true,if_false,decide_true,EL,EM,Option.bind_some,cond_true,Bool.and_true,Bool.and_self,bE (show j+1 < 9223372036854775807 by omega)]
   | false=>simp only [Bool.not_false,cond_true,if_true,hb,T7 hN,EL,EM,decide_true,List.length_append,List.length_singleton,Option.bind_some,Bool.and_true,Bool.and_self,bE (show j+1 < 9223372036854775807 by omega)]) (by
  simp only [uP,List.length_map,bO,cond_false,EL,EM,Bool.and_true,cond_true,Option.bind_some,decide_true]) N 0 (Nat.zero_le _) (by unfold fL at hN; omega)
 have pW:aL (uP N p) N ([],0)=_:=key
 have z:((bif (allFit (fits p3) ([]:List AV)&&true) then some ((map fx ([]:List AV)),0) else none:Option (lW × Int)).bind fun JM=>bif (decide (0=(map cC JM.1).length)&&true) then some JM else none)=some ([],0):=rfl
 rw [WZ,z,Option.bind_some,pW,Option.bind_some]
 simp only [EL,EM,cond_true]
end
end Go.Proofs.YtldcljfjjoidhaaGreatDoor
namespace Go.Proofs.YtldcljfjjoidhaaGreatDoor
open Go Go.Am Go.Sort
open List (map)
open Int (toNat)
open Go.IntKind (wrap)
open Go.Am.aR (fits)
set_option maxRecDepth 100000
theorem oA {α:Type} (P:α→Prop) [DecidablePred P] (e:Int) (he:e≠0):∀ l:List α,aJ (l.map fun x=>if P x then e else 0)=if ∃ x∈l,P x then e else 0
 | []=>by simp [aJ]
 | a :: l=>by
  rw [List.map_cons,aJ,oA P e he l]
  by_cases h:P a
  ·have:∃ x∈a :: l,P x:=⟨a,by simp,h⟩
   rw [if_pos h,if_neg he,if_pos this]
  ·rw [if_neg h,if_pos rfl]
   by_cases h2:∃ x∈l,P x
   ·obtain ⟨x,hx,hp⟩:=h2
    rw [if_pos ⟨x,hx,hp⟩,if_pos ⟨x,by simp [hx],hp⟩]
   ·rw [if_neg h2,if_neg]
    rintro ⟨x,hx,hp⟩
    rcases List.mem_cons.1 hx with rfl | hx
    ·exact h hp
    ·exact h2 ⟨x,hx,hp⟩
def Oj (c:dq):Int:=if c.2.2.2.1 then c.2.1 else c.2.1 - 1
def below (p:List dq) (c:dq):Bool:=match p.getLast? with
 | some q=>decide (Oj c < Oj q)
 | none=>false
def zH (p:List dq) (c:dq):Int:=if ju c=0 then (if below p c=true then 11 else if ∃ b∈dJ c,b∈cT p then 9 else if (cT p).length+(dJ c).length > 4096 then 4 else 0) else ju c
theorem uQ {c:dq} (h:ju c=0):cX c=0:=by
 unfold ju at h
 by_cases h1:cX c=0
 ·exact h1
 ·rw [if_neg h1] at h; exact h
theorem qG {p:List dq} {c:dq} (h:zH p c=0):ju c=0∧below p c=false∧(∀ b∈dJ c,b∉cT p)∧(cT p).length+(dJ c).length≤4096:=by
 unfold zH at h
 by_cases h1:ju c=0
 ·rw [if_pos h1] at h
  by_cases h2:below p c=true
  ·rw [if_pos h2] at h; exact absurd h (by decide)
  ·rw [if_neg h2] at h
   by_cases h3:∃ b∈dJ c,b∈cT p
   ·rw [if_pos h3] at h; exact absurd h (by decide)
   ·rw [if_neg h3] at h
    by_cases h4:(cT p).length+(dJ c).length > 4096
    ·rw [if_pos h4] at h; exact absurd h (by decide)
    ·exact ⟨h1,by simpa using h2,fun b hb hq=>h3 ⟨b,hb,hq⟩,by omega⟩
 ·rw [if_neg h1] at h; exact absurd h h1
def Cw (p:List dq):List Int:=(List.range p.length).map fun k=>zH (p.take k) (p.getD k (0,0,false,false,0))
def iw (p:List dq):Int:=if p.length > 256 then 5 else aJ (Cw p)
theorem lM (p:List dq):(Cw p).length=p.length:=by simp [Cw]
theorem Cx (p:List dq) {k:Nat} (hk:k < p.length):(Cw p)[k]'(by rw [lM]; exact hk)=zH (p.take k) p[k]:=by simp [Cw,hk]
theorem zI {V X:Type} {rd:V→Option (V ⊕ X)} (l:List Int) (E:Nat→V) (fin:X) (ex:Int→X) (P:Nat→Prop)
  (h:∀ k (hk:k < l.length),P k→rd (E k)=some (if l[k]=0 then .inl (E (k+1)) else .inr (ex l[k]))∧(l[k]=0→P (k+1))) (h0:P l.length→rd (E l.length)=some (.inr fin)) (n:Nat) (hn:l.length < n) (hP:P 0) :
  aL rd n (E 0)=some (if aJ l=0 then fin else ex (aJ l)):=by
 have key:=lE (rd:=rd) (S:=Unit) (Y:=Int) l (fun _ k=>E k) (fun _ x=>if x=0 then .inl () else .inr x) (fun _=>fin) ex (fun _ k=>P k)
  (fun s k hk hp=>by
   obtain ⟨h1,h2⟩:=h k hk hp
   refine ⟨by rw [h1]; by_cases e:l[k]=0 <;> simp [e],fun s' hs=>?_⟩
   by_cases e:l[k]=0
   ·exact h2 e
   ·rw [if_neg e] at hs; cases hs) (fun _ hp=>h0 hp) n () 0 (Nat.zero_le _) (by omega) hP
 rw [List.drop_zero] at key
 refine key.trans (congrArg some ?_)
 clear key h h0 hn hP
 induction l with
 | nil=>rfl
 | cons x l ih=>
  simp only [foldI,aJ]
  by_cases e:x=0
  ·simp only [e,if_true,Sum.elim_inl]; exact ih
  ·simp [e]
theorem HO {p:List dq} (h:aJ (Cw p)=0) {k:Nat} (hk:k < p.length):zH (p.take k) p[k]=0:=by
 rw [← Cx p hk]
 exact fP.1 h _ (List.getElem_mem _)
theorem Cy {p:List dq} (h:iw p=0):p.length≤256∧(∀ c∈p,cX c=0):=by
 unfold iw at h
 by_cases h1:p.length > 256
 ·rw [if_pos h1] at h; exact absurd h (by decide)
 ·rw [if_neg h1] at h
  refine ⟨by omega,fun c hc=>?_⟩
  obtain ⟨k,hk,rfl⟩:=List.getElem_of_mem hc
  exact uQ (qG (HO h hk)).1
theorem Jo (l:List dq) (a b:Nat):eR a b (map ax l)=map ax ((l.take b).drop a):=by simp [eR,List.map_take,List.map_drop]
section
variable {N:Nat} (hN:fL N)
include hN
theorem HP (c:dq) (h:cX c=0):RM N c=some (Oj c):=by
 obtain ⟨h1,h2,h3⟩:=fk h
 have AF:=fm h1
 simp only at AF
 rw [WC]
 unfold Oj
 rw [gk ⟨by omega,by omega⟩]
 cases c.2.2.2.1 <;> rfl
theorem Sj (A B:List dv) (j:Nat) (hj:j < B.length) (hA:A.length≤1000000000):aL (lI N A B (j:Int)) N 0=some (if B[j]∈A then .inl 9 else .inr ()):=by
 obtain ⟨b1,b2⟩:=gl B hj
 have key:=iW (rd:=lI N A B (j:Int)) (A.map fun x=>if x=B[j] then (9:Int) else 0) (fun k hk=>by
  have hk:k < A.length:=by simpa using hk
  obtain ⟨a1,a2⟩:=gl A hk
  have e:(A.map fun x=>if x=B[j] then (9:Int) else 0)[k]'(by simpa using hk)=if A[k]=B[j] then (9:Int) else 0:=by simp
  rw [e]
  simp only [lI,List.length_map,Int.toNat_natCast,a8 hk,aB hk,aB hj,a1,a2,b1,b2,M8,Bool.and_self,cond_true,bE (show k < 9223372036854775807 by omega)]
  by_cases h:A[k]=B[j]
  ·rw [decide_eq_true h,if_pos h]; rfl
  ·rw [decide_eq_false h,if_neg h]; rfl) (by
  simp only [lI,List.length_map,bO,cond_false]) N (by rw [List.length_map]; unfold fL at hN; omega)
 rw [key,oA (fun x=>x=B[j]) 9 (by decide) A]
 have e:(∃ x,x∈A∧x=B[j])↔B[j]∈A:=⟨fun ⟨x,hx,e⟩=>e ▸ hx,fun h=>⟨_,h,rfl⟩⟩
 by_cases h:B[j]∈A
 ·rw [if_pos h,if_pos (e.2 h)]; rfl
 ·rw [if_neg h,if_neg (fun q=>h (e.1 q))]; rfl
theorem Nb (A B:List dv) (hA:A.length≤1000000000) (hB:B.length≤1000000000):aL (pY N A B) N 0=some (if ∃ b∈B,b∈A then .inl 9 else .inr ()):=by
 have key:=iW (rd:=pY N A B) (B.map fun x=>if x∈A then (9:Int) else 0) (fun k hk=>by
  have hk:k < B.length:=by simpa using hk
  have e:(B.map fun x=>if x∈A then (9:Int) else 0)[k]'(by simpa using hk)=if B[k]∈A then (9:Int) else 0:=by simp
  rw [e]
  simp only [pY,List.length_map,a8 hk,cond_true,Sj hN A B k hk hA,Option.bind_some,bE (show k < 9223372036854775807 by omega)]
  by_cases h:B[k]∈A
  ·simp only [h,if_true]; rfl
  ·simp only [h,if_false]; rfl) (by
  simp only [pY,List.length_map,bO,cond_false]) N (by rw [List.length_map]; unfold fL at hN; omega)
 rw [key,oA (fun x=>x∈A) 9 (by decide) B]
 by_cases h:∃ b∈B,b∈A
 ·rw [if_pos h,if_pos h]; rfl
 ·rw [if_neg h,if_neg h]; rfl
theorem Nc (p:List dq) (c:dq) (h:∀ q∈p,cX q=0) (hp:p.length≤1000000):MP N (p,c)=some (zH p c):=by
 have q54:T54 N (c.1,c.2.1,c.2.2.1,c.2.2.2.1,c.2.2.2.2)=_:=RJ hN c
 rw [RQ,q54,Option.bind_some]
 unfold zH
 by_cases hc:ju c=0
 ·have Hl:=uQ hc
  have q60:RM N (c.1,c.2.1,c.2.2.1,c.2.2.2.1,c.2.2.2.2)=_:=HP hN c Hl
  have ae0:Jf N (c.1,c.2.1,c.2.2.1,c.2.2.2.1,c.2.2.2.2)=_:=Bj hN c Hl
  have Oa:=p0 p h
  have OF:=qE Hl
  have q44:=HI hN p h hp
  have qo:=Nb hN (cT p) (dJ c) (by omega) (by omega)
  rw [if_pos hc,hc]
  have qa:((bif (decide (((((map ax p)).length:Nat):Int) > 0)) then bif (decide ((0:Int)≤(wrap .i64 (((((map ax p)).length:Nat):Int) - 1))∧(wrap .i64 (((((map ax p)).length:Nat):Int) - 1)) < (((map ax p)).length:Int))&&fits df (ah (map ax p) (toNat (wrap .i64 (((((map ax p)).length:Nat):Int) - 1))))) then (RM N (c.1,c.2.1,c.2.2.1,c.2.2.2.1,c.2.2.2.2)).bind fun y2=>(RM N ((bC (ah (map ax p) (toNat (wrap .i64 (((((map ax p)).length:Nat):Int) - 1))))).1,(bC (ah (map ax p) (toNat (wrap .i64 (((((map ax p)).length:Nat):Int) - 1))))).2.1,(bC (ah (map ax p) (toNat (wrap .i64 (((((map ax p)).length:Nat):Int) - 1))))).2.2.1,(bC (ah (map ax p) (toNat (wrap .i64 (((((map ax p)).length:Nat):Int) - 1))))).2.2.2.1,(bC (ah (map ax p) (toNat (wrap .i64 (((((map ax p)).length:Nat):Int) - 1))))).2.2.2.2)).bind fun y3=>(some (decide (y2 < y3))) else none else (some false)):Option Bool)=some (below p c):=by
   cases p with
   | nil=>rfl
   | cons a l=>
    have hk:l.length < (a :: l).length:=by simp
    obtain ⟨a1,a2⟩:=Eg hN (a :: l) hk
    have hm:wrap .i64 (((((map ax (a :: l))).length:Nat):Int) - 1)=(l.length:Int):=by
     rw [List.length_map,List.length_cons,gk ⟨by omega,by simp at hp; omega⟩]; omega
    have hg:decide (((((map ax (a :: l))).length:Nat):Int) > 0)=true:=by rw [List.length_map,List.length_cons]; exact decide_eq_true (by omega)
    have hb:below (a :: l) c=decide (Oj c < Oj (a :: l)[l.length]):=by
     unfold below
     rw [List.getLast?_eq_getElem?]
     simp
    have ae1:RM N ((a :: l)[l.length].1,(a :: l)[l.length].2.1,(a :: l)[l.length].2.2.1,(a :: l)[l.length].2.2.2.1,(a :: l)[l.length].2.2.2.2)=_:=HP hN _ (h _ (List.getElem_mem hk))
    rw [hm,hg,Int.toNat_natCast,a1,a2,hb,q60,ae1]
    rw [aB (by rw [List.length_map]; exact hk)]
    rfl
  simp only [beq_self_eq_true,Bool.and_self,cond_true]
  rw [qa,Option.bind_some]
  cases hb:below p c with
  | true=>rfl
  | false=>
   simp only [cond_false,Option.bind_some,bne_self_eq_false,wz,wA,Bool.and_true,cond_true,q44,ae0,qo,List.length_map,Bool.false_eq_true,if_false]
   by_cases h9:∃ b∈dJ c,b∈cT p
   ·rw [if_pos h9,if_pos h9]; rfl
   ·rw [if_neg h9,if_neg h9,gk ⟨by omega,by omega⟩]
    by_cases h4:(cT p).length+(dJ c).length > 4096
    ·rw [if_pos h4,decide_eq_true (by omega)]; rfl
    ·rw [if_neg h4,decide_eq_false (by omega)]; rfl
 ·have W6:(ju c == 0)=false:=beq_false_of_ne hc
  have IF:(ju c != 0)=true:=bne_iff_ne.2 hc
  rw [if_neg hc,W6]
  simp only [cond_false,Option.bind_some,IF,cond_true]
theorem Sk (p:List dq):T31 N p=some (iw p):=by
 rw [WE]
 unfold iw
 rw [List.length_map]
 by_cases hp:p.length > 256
 ·rw [if_pos hp,decide_eq_true (by omega)]; rfl
 ·rw [if_neg hp,decide_eq_false (by omega),cond_false]
  have key:=zI (rd:=zz N p) (X:=Int ⊕ Unit) (Cw p) (fun k=>(k:Int)) (.inr ()) (fun x=>.inl x) (fun k=>∀ q∈p.take k,cX q=0) (fun k hk hP=>by
   rw [lM] at hk
   obtain ⟨a1,a2⟩:=Eg hN p hk
   have q:=Nc hN (p.take k) p[k] hP (by rw [List.length_take]; omega)
   have c1:decide ((0:Int)≤(k:Int)∧(k:Int)≤(p.length:Int))=true:=decide_eq_true (by omega)
   rw [Cx p hk]
   refine ⟨?_,fun e q hq=>?_⟩
   ·simp only [zz,List.length_map,Int.toNat_natCast,a8 hk,aB hk,c1,a1,a2,Jo,List.drop_zero,wz,wA,Bool.and_self,Bool.and_true,cond_true,Option.bind_some,bE (show k < 9223372036854775807 by omega)]
    rw [show MP N (p.take k,p[k].1,p[k].2.1,p[k].2.2.1,p[k].2.2.2.1,p[k].2.2.2.2)=_ from q,Option.bind_some,HN]
    split <;> rfl
   ·rw [List.take_add_one,List.getElem?_eq_getElem hk] at hq
    rcases List.mem_append.1 hq with hq | hq
    ·exact hP q hq
    ·have:q=p[k]:=by simpa using hq
     subst this
     exact uQ (qG e).1) (fun _=>by
   rw [lM]
   simp only [zz,List.length_map,bO,cond_false]) N (by rw [lM]; unfold fL at hN; omega) (fun q hq=>by simp at hq)
  rw [show aL (zz N p) N 0=_ from key,Option.bind_some]
  by_cases h:aJ (Cw p)=0
  ·rw [if_pos h,h]; rfl
  ·rw [if_neg h]; rfl
end
end Go.Proofs.YtldcljfjjoidhaaGreatDoor
namespace Go.Proofs.YtldcljfjjoidhaaGreatDoor
open Go Go.Am Go.Sort
open List (map)
open Int (toNat)
open Go.IntKind (wrap)
open Go.Am.aR (fits)
set_option maxRecDepth 100000
abbrev ekB:EK:=.st (.cons 0 1 false .int (.cons 1 1 false .int (.cons 2 1 false .int .nil)))
abbrev nkB (b:dv):AV:=.agg [.int .i64 b.1,.int .i64 b.2.1,.int .i64 b.2.2]
theorem Sl (a b:dv):ED ekB (nkB a) (nkB b)=some (decide (a=b)):=by
 obtain ⟨a1,a2,a3⟩:=a
 obtain ⟨b1,b2,b3⟩:=b
 have e:lS ekB (nkB (a1,a2,a3)) (nkB (b1,b2,b3))=some ((a1 == b1)&&((a2 == b2)&&((a3 == b3)&&true))):=rfl
 unfold ED
 rw [e]
 by_cases h1:a1=b1 <;> by_cases h2:a2=b2 <;> by_cases h3:a3=b3
 ·subst h1; subst h2; subst h3
  simp [EK.wide,mb,mS,oW]
 all_goals simp [h1,h2,h3]
theorem hY:iL ekB nkB AV.bool bi where
 key:=Sl
 pair:=fun _=>rfl
 exact:=fun _=>rfl
def gv (l:List dv):List (dv × Bool):=l.map fun b=>(b,true)
theorem Nd (l:List dv) (b:dv):(getM b (gv l)).getD false=decide (b∈l):=by
 unfold gv
 rw [Bc]
 by_cases h:b∈l <;> simp [h]
theorem Nf (l:List dv) (b:dv) (h:b∉l):si b true (gv l)=gv (l++[b]):=by
 have:getM b (gv l)=none:=by unfold gv; rw [Bc,if_neg h]
 rw [D5 this]
 unfold gv
 rw [List.map_append]
 rfl
theorem Bl (a b:Int × Int):min (mu a b).1 ((mu a b).1+(mu a b).2.2)=min a.1 b.1:=by
 unfold mu
 split <;> (simp only; omega)
theorem Ng (c:dq) (i j:Nat) (h:jL c i=jL c j):i=j:=by
 have h1:=Bl (bw c i) (bw c (i+1))
 have h2:=Bl (bw c j) (bw c (j+1))
 unfold jL at h
 rw [h,h2] at h1
 unfold bw sg at h1
 simp only at h1
 cases hr:c.2.2.1
 ·simp only [hr,Bool.false_eq_true,if_false] at h1; omega
 ·simp only [hr,if_true] at h1; omega
theorem Ek (c:dq) (k:Nat):jL c k∉e7 c k:=by
 intro h
 obtain ⟨j,hj,e⟩:=List.mem_map.1 h
 have:=Ng c j k e
 have:=List.mem_range.1 hj
 omega
section
variable {N:Nat} (hN:fL N)
include hN
theorem Nh (p:List dq) (i:Nat) (c:dq) (a:cb (ah (map aU p) i)=c) (acc:List dv) (u:Unit) (Jp:Int) (q:dq) (hc:cX c=0) (ha:acc.length≤1000000000) :
  aL (nA N p ((i:Int),gv acc,u,Jp,q)) N (0,gv acc,(),Jp,q.1,q.2.1,q.2.2.1,q.2.2.2.1,q.2.2.2.2,(),0,c.1,c.2.1,c.2.2.1,c.2.2.2.1,c.2.2.2.2) =
   some (if ∃ b∈dJ c,b∈acc then .inl (gv acc,(),Jp,q.1,q.2.1,q.2.2.1,q.2.2.2.1,q.2.2.2.2,(),9,c.1,c.2.1,c.2.2.1,c.2.2.2.1,c.2.2.2.2) else .inr (gv acc,(),Jp,q.1,q.2.1,q.2.2.1,q.2.2.2.1,q.2.2.2.2,(),0,c.1,c.2.1,c.2.2.1,c.2.2.2.1,c.2.2.2.2)):=by
 obtain ⟨h1,h2,h3⟩:=fk hc
 have ml:(dJ c).length=c.2.2.2.2.toNat:=iY c _
 have key:=zI (rd:=nA N p ((i:Int),gv acc,u,Jp,q)) ((dJ c).map fun x=>if x∈acc then (9:Int) else 0) (fun k=>((k:Int),gv acc,(),Jp,q.1,q.2.1,q.2.2.1,q.2.2.2.1,q.2.2.2.2,(),0,c.1,c.2.1,c.2.2.1,c.2.2.2.1,c.2.2.2.2))
  (.inr (gv acc,(),Jp,q.1,q.2.1,q.2.2.1,q.2.2.2.1,q.2.2.2.2,(),0,c.1,c.2.1,c.2.2.1,c.2.2.2.1,c.2.2.2.2)) (fun x=>.inl (gv acc,(),Jp,q.1,q.2.1,q.2.2.1,q.2.2.2.1,q.2.2.2.2,(),x,c.1,c.2.1,c.2.2.1,c.2.2.2.1,c.2.2.2.2)) (fun _=>True) (fun k hk _=>by
  refine ⟨?_,fun _=>trivial⟩
  rw [List.length_map,ml] at hk
  have cu:decide ((k:Int) < c.2.2.2.2)=true:=decide_eq_true (by omega)
  have t1:=gX N c k h1 (by omega)
  have t2:=gX N c (k+1) h1 (by omega)
  have q1:=iu c hc k (by omega)
  have q2:=iu c hc (k+1) (by omega)
  have eb:jL c k=mu (bw c k) (bw c (k+1)):=rfl
  have el:((dJ c).map fun x=>if x∈acc then (9:Int) else 0)[k]'(by rw [List.length_map,ml]; exact hk)=if jL c k∈acc then (9:Int) else 0:=by simp [dJ,e7]
  rw [el]
  simp only [nA,ov,Int.toNat_natCast,a,cu,cond_true,t1,bE (show k < 9223372036854775807 by omega),t2,Option.bind_some,beq_self_eq_true,Bool.and_self]
  unfold mu at eb
  have kk:=hY.keys (jL c k) (gv acc)
  have kg:=hY.getD (jL c k) false (gv acc)
  rw [Nd] at kg
  generalize bw c k=x at *
  generalize bw c (k+1)=y at *
  by_cases EN:x.2 > y.2
  ·rw [if_pos EN] at eb
   have w:wrap .i64 (x.1 - y.1)=x.1 - y.1:=gk ⟨by omega,by omega⟩
   generalize jL c k=bb at *
   subst eb
   simp only [EN,decide_true,cond_true,hY.cells,hY.bS,jl,jm,Bool.and_self,Bool.and_true,Option.bind_some,w,kk,kg]
   by_cases hm:(y.1,y.2,x.1 - y.1)∈acc
   ·simp only [hm,decide_true,if_true]; rfl
   ·simp only [hm,decide_false,if_false]; rfl
  ·rw [if_neg EN] at eb
   have w:wrap .i64 (y.1 - x.1)=y.1 - x.1:=gk ⟨by omega,by omega⟩
   generalize jL c k=bb at *
   subst eb
   simp only [EN,decide_false,cond_true,cond_false,hY.cells,hY.bS,jl,jm,Bool.and_self,Bool.and_true,Option.bind_some,w,kk,kg]
   by_cases hm:(x.1,x.2,y.1 - x.1)∈acc
   ·simp only [hm,decide_true,if_true]; rfl
   ·simp only [hm,decide_false,if_false]; rfl) (fun _=>by
  rw [List.length_map,ml]
  have qi:decide (((c.2.2.2.2.toNat:Nat):Int) < c.2.2.2.2)=false:=decide_eq_false (by omega)
  simp only [nA,ov,Int.toNat_natCast,a,qi,cond_false,hY.cells,hY.bS,jl,jm,Bool.and_self,Bool.and_true,cond_true,Option.bind_some]) N (by rw [List.length_map,ml]; unfold fL at hN; omega) trivial
 refine Eq.trans key (congrArg some ?_)
 rw [oA (fun x=>x∈acc) 9 (by decide) (dJ c)]
 by_cases h:∃ b∈dJ c,b∈acc
 ·rw [if_pos h,if_pos h]; rfl
 ·rw [if_neg h,if_neg h]; rfl
theorem Sm (p:List dq) (i:Nat) (c:dq) (a:cb (ah (map aU p) i)=c) (acc:List dv) (v1:Int × (List (dv × Bool)) × Unit × Int × dq) (hv:v1.1=(i:Int)) (Jp:Int) (q:dq) (e0:Int) (hc:cX c=0) (hn:∀ b∈dJ c,b∉acc) :
  aL (lJ N p v1) N (0,gv acc,(),Jp,q.1,q.2.1,q.2.2.1,q.2.2.2.1,q.2.2.2.2,(),e0,c.1,c.2.1,c.2.2.1,c.2.2.2.1,c.2.2.2.2,c.1,c.2.1,c.2.2.1,c.2.2.2.1,c.2.2.2.2) =
   some (gv (acc++dJ c),(),Jp,q.1,q.2.1,q.2.2.1,q.2.2.2.1,q.2.2.2.2,(),e0,c.1,c.2.1,c.2.2.1,c.2.2.2.1,c.2.2.2.2,c.1,c.2.1,c.2.2.1,c.2.2.2.1,c.2.2.2.2):=by
 obtain ⟨h1,h2,h3⟩:=fk hc
 have key:=cW (rd:=lJ N p v1) c.2.2.2.2.toNat (fun k=>((k:Int),gv (acc++e7 c k),(),Jp,q.1,q.2.1,q.2.2.1,q.2.2.2.1,q.2.2.2.2,(),e0,c.1,c.2.1,c.2.2.1,c.2.2.2.1,c.2.2.2.2,c.1,c.2.1,c.2.2.1,c.2.2.2.1,c.2.2.2.2))
  (gv (acc++dJ c),(),Jp,q.1,q.2.1,q.2.2.1,q.2.2.2.1,q.2.2.2.2,(),e0,c.1,c.2.1,c.2.2.1,c.2.2.2.1,c.2.2.2.2,c.1,c.2.1,c.2.2.1,c.2.2.2.1,c.2.2.2.2) (fun k hk=>by
  have cu:decide ((k:Int) < c.2.2.2.2)=true:=decide_eq_true (by omega)
  have t1:=gX N c k h1 (by omega)
  have t2:=gX N c (k+1) h1 (by omega)
  have q1:=iu c hc k (by omega)
  have q2:=iu c hc (k+1) (by omega)
  have eb:jL c k=mu (bw c k) (bw c (k+1)):=rfl
  have pn:jL c k∉acc++e7 c k:=by
   intro h
   rcases List.mem_append.1 h with h | h
   ·exact hn (jL c k) (List.mem_map.2 ⟨k,List.mem_range.2 hk,rfl⟩) h
   ·exact Ek c k h
  have es:acc++e7 c (k+1)=(acc++e7 c k)++[jL c k]:=by rw [ox,List.append_assoc]
  have kk:=hY.keys (jL c k) (gv (acc++e7 c k))
  have kp:=hY.put (jL c k) true (gv (acc++e7 c k))
  rw [Nf _ _ pn,← es] at kp
  simp only [lJ,ms,kd,hv,Int.toNat_natCast,a,cu,cond_true,t1,bE (show k < 9223372036854775807 by omega),t2,Option.bind_some,beq_self_eq_true,Bool.and_self]
  clear pn
  unfold mu at eb
  generalize gv (acc++e7 c (k+1))=S' at *
  generalize gv (acc++e7 c k)=S at *
  clear es
  generalize bw c k=x at *
  generalize bw c (k+1)=y at *
  by_cases EN:x.2 > y.2
  ·rw [if_pos EN] at eb
   have w:wrap .i64 (x.1 - y.1)=x.1 - y.1:=gk ⟨by omega,by omega⟩
   generalize jL c k=bb at *
   subst eb
   simp only [EN,decide_true,cond_true,hY.cells,hY.bS,jl,jm,Bool.and_self,Option.bind_some,w,kk,kp]
  ·rw [if_neg EN] at eb
   have w:wrap .i64 (y.1 - x.1)=y.1 - x.1:=gk ⟨by omega,by omega⟩
   generalize jL c k=bb at *
   subst eb
   simp only [EN,decide_false,cond_true,cond_false,hY.cells,hY.bS,jl,jm,Bool.and_self,Option.bind_some,w,kk,kp]) (by
  have qi:decide (((c.2.2.2.2.toNat:Nat):Int) < c.2.2.2.2)=false:=decide_eq_false (by omega)
  simp only [lJ,ms,kd,hv,Int.toNat_natCast,a,qi,cond_false,hY.cells,hY.bS,jl,jm,Bool.and_self,cond_true,Option.bind_some]
  rfl) N 0 (Nat.zero_le _) (by unfold fL at hN; omega)
 have e0':acc++e7 c 0=acc:=by simp [e7]
 rw [e0'] at key
 exact key
end
end Go.Proofs.YtldcljfjjoidhaaGreatDoor
namespace Go.Proofs.YtldcljfjjoidhaaGreatDoor
open Go Go.Am Go.Sort
open List (map)
open Int (toNat)
open Go.IntKind (wrap)
open Go.Am.aR (fits)
set_option maxRecDepth 100000
theorem vS {V X:Type} {rd:V→Option (V ⊕ X)} (l:List Int) (E:Nat→V) (g:X→Int) (P:Nat→Prop)
  (h:∀ k (hk:k < l.length),P k→(l[k]=0→rd (E k)=some (.inl (E (k+1)))∧P (k+1))∧(l[k]≠0→∃ x,rd (E k)=some (.inr x)∧g x=l[k])) (h0:P l.length→∃ x,rd (E l.length)=some (.inr x)∧g x=0) :
  ∀ n k,k≤l.length→l.length < n+k→P k→∃ x,aL rd n (E k)=some x∧g x=aJ (l.drop k)
 | 0,k,hk,hn,_=>by omega
 | n+1,k,hk,hn,hP=>by
  rw [bB]
  by_cases cu:k < l.length
  ·obtain ⟨h1,h2⟩:=h k cu hP
   rw [List.drop_eq_getElem_cons cu,aJ]
   by_cases e:l[k]=0
   ·obtain ⟨r,hp⟩:=h1 e
    rw [if_pos e,r]
    exact vS l E g P h h0 n (k+1) (by omega) (by omega) hp
   ·obtain ⟨x,r,gx⟩:=h2 e
    rw [if_neg e,r]
    exact ⟨x,rfl,gx⟩
  ·have:k=l.length:=by omega
   subst this
   obtain ⟨x,r,gx⟩:=h0 hP
   rw [r,List.drop_eq_nil_of_le (Nat.le_refl _)]
   exact ⟨x,rfl,gx⟩
def qb (p:List dq) (k:Nat):dq:=(p.take k).getLast?.getD (0,0,false,false,0)
section
variable {N:Nat} (hN:fL N)
include hN
theorem El (c:dq) (h:cX c=0):Cs N c=some (Oj c):=by
 obtain ⟨h1,h2,h3⟩:=fk h
 have t:=gX N c 1 h1 (by omega)
 rw [RS,show uH N ((c.1,c.2.1,c.2.2.1,c.2.2.2.1,c.2.2.2.2),1)=_ from t,Option.bind_some,beq_self_eq_true]
 simp only [Bool.and_self,cond_true]
 congr 1
 unfold bw sg Oj
 cases c.2.2.2.1
 ·simp; omega
 ·simp; omega
theorem Bm (p:List dq) (k:Nat) (hk:k < p.length):(p.take (k+1)).getLast?=some p[k]:=by
 have:p.take (k+1)=p.take k++[p[k]]:=by rw [List.take_add_one,List.getElem?_eq_getElem hk]; rfl
 rw [this,List.getLast?_concat]
theorem Ni (p:List dq) (k:Nat) (hk:k < p.length) (hp:p.length≤256) (hP:∀ q∈p.take k,cX q=0) :
  ow N p ((k:Int),gv (cT (p.take k)),(),(k:Int),qb p k)=some (if zH (p.take k) p[k]=0 then .inl (((k+1:Nat):Int),gv (cT (p.take (k+1))),(),((k+1:Nat):Int),qb p (k+1)) else .inr (.inl (zH (p.take k) p[k],gv (cT (p.take k)),(),(k:Int),qb p k))):=by
 obtain ⟨a1,a2⟩:=Se hN p hk
 have hl:=p0 (p.take k) hP
 rw [List.length_take,Nat.min_eq_left (Nat.le_of_lt hk)] at hl
 have XW:qb p (k+1)=p[k]:=by
  unfold qb
  rw [Bm hN p k hk]
  rfl
 have X3:k≠0→cX (qb p k)=0∧below (p.take k) p[k]=decide (Oj p[k] < Oj (qb p k)):=by
  intro h0
  obtain ⟨j,rfl⟩:∃ j,k=j+1:=⟨k - 1,by omega⟩
  have hj:j < p.length:=by omega
  have e:(p.take (j+1)).getLast?=some p[j]:=Bm hN p j hj
  unfold qb below
  rw [e]
  refine ⟨hP _ ?_,rfl⟩
  exact List.mem_of_getLast? e
 have W6:k=0→below (p.take k) p[k]=false:=fun h=>by subst h; rfl
 rw [qF p hk,XW]
 unfold zH
 generalize qb p k=q at *
 generalize p[k]=c at *
 generalize p.take k=pk at *
 have t80:MB N (decide ((k:Int)≥256),5)=some 0:=by rw [lH,decide_eq_false (by omega)]; rfl
 have t108:MC N (c.1,c.2.1,c.2.2.1,c.2.2.2.1,c.2.2.2.2)=some (ju c):=MN hN c
 have t78:Rl N [0,ju c]=some (ju c):=by
  rw [nw hN [0,ju c] (by simp)]
  show some (if (0:Int)=0 then (if ju c=0 then aJ [] else ju c) else 0)=some (ju c)
  rw [if_pos rfl]
  by_cases e:ju c=0
  ·rw [if_pos e,e]; rfl
  ·rw [if_neg e]
 have z2:(bif allFit (fits vO) [AV.int .i64 0,AV.int .i64 (ju c)] then some (map ka [AV.int .i64 0,AV.int .i64 (ju c)]) else none:Option lW)=some [0,ju c]:=rfl
 have H11:ju c=0→(bif decide ((k:Int) > 0) then (Cs N (c.1,c.2.1,c.2.2.1,c.2.2.2.1,c.2.2.2.2)).bind fun y7=>(Cs N (q.1,q.2.1,q.2.2.1,q.2.2.2.1,q.2.2.2.2)).bind fun y8=>some (decide (y7 < y8),gv (cT pk),(),(k:Int),q.1,q.2.1,q.2.2.1,q.2.2.2.1,q.2.2.2.2,(),(0:Int)) else some (false,gv (cT pk),(),(k:Int),q.1,q.2.1,q.2.2.1,q.2.2.2.1,q.2.2.2.2,(),(0:Int)):Option (Bool × (List (dv × Bool)) × Unit × Int × Int × Int × Bool × Bool × Int × Unit × Int))=some (below pk c,gv (cT pk),(),(k:Int),q.1,q.2.1,q.2.2.1,q.2.2.2.1,q.2.2.2.2,(),(0:Int)):=fun hc=>by
  by_cases h0:k=0
  ·rw [W6 h0,decide_eq_false (by omega)]; rfl
  ·obtain ⟨e1,e2⟩:=X3 h0
   rw [e2,decide_eq_true (by omega),show Cs N (c.1,c.2.1,c.2.2.1,c.2.2.2.1,c.2.2.2.2)=_ from El hN c (uQ hc),show Cs N (q.1,q.2.1,q.2.2.1,q.2.2.2.1,q.2.2.2.2)=_ from El hN q e1]
   rfl
 by_cases hc:ju c=0
 ·have Hl:=uQ hc
  have OF:=qE Hl
  have hcn:=fk Hl
  have mln:(dJ c).length=c.2.2.2.2.toNat:=iY c _
  have r1:=Nh hN p k c a1 (cT pk) () (k:Int) q Hl (by omega)
  have IF:(ju c != 0)=false:=by rw [hc]; rfl
  have ae3:(ab (map bi (gv (cT pk)))).length=(cT pk).length:=by rw [hY.ent]; simp [gv]
  simp only [if_pos hc]
  simp only [ow,pZ,List.length_map,a8 hk,aB hk,Int.toNat_natCast,a1,a2,Bool.and_self,Bool.and_true,cond_true,beq_self_eq_true,t80,t108,z2,t78,IF,cond_false,hY.cells,hY.bS,jl,jm,Option.bind_some]
  rw [H11 hc]
  cases hbw:below pk c with
  | true=>rfl
  | false=>
   simp only [Option.bind_some,cond_false,hY.cells,hY.bS,jl,jm,Bool.and_self,cond_true,r1,Bool.false_eq_true,if_false]
   by_cases h9:∃ b∈dJ c,b∈cT pk
   ·simp only [if_pos h9,Option.bind_some,Sum.elim_inl,Sum.elim_inr,hY.cells,hY.bS,jl,jm,Bool.and_self,cond_true]
    rfl
   ·simp only [if_neg h9,Option.bind_some,Sum.elim_inl,Sum.elim_inr,hY.cells,hY.bS,jl,jm,Bool.and_self,cond_true,ae3]
    have w:wrap .i64 (((cT pk).length:Int)+c.2.2.2.2)=(((cT pk).length+(dJ c).length:Nat):Int):=by rw [gk ⟨by omega,by omega⟩]; omega
    have r2:=Sm hN p k c a1 (cT pk) ((k:Int),gv (cT pk),(),(k:Int),q) rfl (k:Int) q 0 Hl (fun b hb hq=>h9 ⟨b,hb,hq⟩)
    rw [w]
    by_cases h4:(cT pk).length+(dJ c).length > 4096
    ·rw [decide_eq_true (show (((cT pk).length+(dJ c).length:Nat):Int) > 4096 by omega)]
     simp only [if_pos h4,Option.bind_some,hY.cells,hY.bS,jl,jm,Bool.and_self,cond_true]
     rfl
    ·rw [decide_eq_false (show ¬ (((cT pk).length+(dJ c).length:Nat):Int) > 4096 by omega)]
     simp only [if_neg h4,if_true,Option.bind_some,hY.cells,hY.bS,jl,jm,Bool.and_self,cond_true,cond_false,r2,bE (show k < 9223372036854775807 by omega)]
     rfl
 ·have IF:(ju c != 0)=true:=bne_iff_ne.2 hc
  simp only [if_neg hc]
  simp only [ow,pZ,List.length_map,a8 hk,aB hk,Int.toNat_natCast,a1,a2,Bool.and_self,Bool.and_true,cond_true,beq_self_eq_true,t80,t108,z2,t78,IF,hY.cells,hY.bS,jl,jm,Option.bind_some]
theorem Sn (p:List dq):T48 N p=some (iw p):=by
 rw [WQ]
 unfold iw
 rw [List.length_map]
 by_cases hp:p.length > 256
 ·rw [if_pos hp,decide_eq_true (by omega)]; rfl
 ·rw [if_neg hp,decide_eq_false (by omega),cond_false]
  have key:=vS (rd:=ow N p) (Cw p) (fun k=>((k:Int),gv (cT (p.take k)),(),(k:Int),qb p k)) (Sum.elim (fun o66=>o66.1) (fun _=>0)) (fun k=>∀ q∈p.take k,cX q=0) (fun k hk hP=>by
   rw [lM] at hk
   have st:=Ni hN p k hk (by omega) hP
   rw [Cx p hk]
   refine ⟨fun e=>⟨?_,fun q hq=>?_⟩,fun e=>?_⟩
   ·rw [st,if_pos e]
   ·rw [List.take_add_one,List.getElem?_eq_getElem hk] at hq
    rcases List.mem_append.1 hq with hq | hq
    ·exact hP q hq
    ·have:q=p[k]:=by simpa using hq
     subst this
     exact uQ (qG e).1
   ·rw [st,if_neg e]
    exact ⟨_,rfl,rfl⟩) (fun _=>by
   rw [lM]
   refine ⟨.inr (gv (cT (p.take p.length)),(),(p.length:Int),qb p p.length),?_,rfl⟩
   simp only [ow,pZ,List.length_map,bO,cond_false,hY.cells,hY.bS,jl,jm,Bool.and_self,cond_true,Option.bind_some]) N 0 (Nat.zero_le _) (by rw [lM]; unfold fL at hN; omega) (fun q hq=>by simp at hq)
  obtain ⟨x,r,gx⟩:=key
  rw [List.drop_zero] at gx
  have r':aL (ow N p) N (0,([]:List (dv × Bool)),(),0,0,0,false,false,0)=some x:=r
  have z:((bif (allFit (fits cH) (ao ([]:List (AV × AV)))&&true) then some (0,(map fX (ao ([]:List (AV × AV)))),(),0,0,0,false,false,0) else none:Option (Int × (List (XB × Bool)) × Unit × Int × Int × Int × Bool × Bool × Int)).bind fun gk=>bif (bS ([]:List (AV × AV))&&true) then some gk else none)=some (0,([]:List (dv × Bool)),(),0,0,0,false,false,0):=rfl
  rw [z,Option.bind_some,r',Option.bind_some,← gx]
  cases x <;> rfl
end
end Go.Proofs.YtldcljfjjoidhaaGreatDoor
namespace Go.Proofs.YtldcljfjjoidhaaGreatDoor
open Go Go.Am
open List (map)
open Int (toNat)
open Go.IntKind (wrap)
open Go.Am.aR (fits)
set_option maxRecDepth 100000
def Ap (b:dv):Int × Int:=(wrap .i64 (b.1+b.2.2),wrap .i64 (b.2.1+1))
def qH (b:dv):Int × Int:=(b.1,b.2.1)
theorem Jq (N:Nat) (b:dv):I8 N b=some (b.1,b.2.1,Ap b):=by rw [HA]; rfl
theorem Sp (N:Nat) (b:dv):M4 N b=some (qH b):=by rw [R7]; rfl
theorem Sq (N:Nat) (b:dv):M5 N b=some (Ap b):=by rw [R9]; rfl
def ky (b:dv):Int:=if aV (qH b)≠0 then aV (qH b) else if b.2.2≠-1∧b.2.2≠1 then 13 else aV (Ap b)
theorem Gx {N:Nat} (hN:fL N) (p:Int × Int):I7 N p=some (aJ [CD p.1 (-100000) 100000,CD p.2 (-100000) 100000]):=by
 rw [Hx]
 simp only [Ed,Option.bind_some,beq_self_eq_true,Bool.and_self,cond_true]
 rw [Bf]
 simp only [Option.bind_some]
 rw [jK hN _ (by simp)]
 rfl
theorem Nj (b:dv) (h0:aV (qH b)=0) (h1:b.2.2=-1∨b.2.2=1):aJ [CD (Ap b).1 (-100000) 100000,CD (Ap b).2 (-100000) 100000]=aV (Ap b):=by
 unfold aV qH at h0
 simp only at h0
 split at h0
 ·cases h0
 ·rename_i hr
  split at h0
  ·rename_i hp
   have e1:(Ap b).1=b.1+b.2.2:=gk (by omega)
   have e2:(Ap b).2=b.2.1+1:=gk (by omega)
   unfold aV
   rw [e1,e2]
   have hp2:(b.1+b.2.2+(b.2.1+1)) % 2=0:=by omega
   rw [if_pos hp2]
   unfold CD
   simp only [aJ]
   by_cases c1:b.1+b.2.2 < -100000∨b.1+b.2.2 > 100000
   ·have c:b.1+b.2.2 < -100000∨b.1+b.2.2 > 100000∨b.2.1+1 < -100000∨b.2.1+1 > 100000:=by omega
    rw [if_pos c,if_pos c1]; rfl
   ·rw [if_neg c1]
    by_cases c2:b.2.1+1 < -100000∨b.2.1+1 > 100000
    ·have c:b.1+b.2.2 < -100000∨b.1+b.2.2 > 100000∨b.2.1+1 < -100000∨b.2.1+1 > 100000:=by omega
     rw [if_pos c,if_pos c2]; rfl
    ·have c:¬ (b.1+b.2.2 < -100000∨b.1+b.2.2 > 100000∨b.2.1+1 < -100000∨b.2.1+1 > 100000):=by omega
     rw [if_neg c,if_neg c2]; rfl
  ·cases h0
theorem Nk {N:Nat} (hN:fL N) (b:dv):Mc N b=some (ky b):=by
 rw [QO]
 have q1:D3 N (b.1,b.2.1)=some (aV (qH b)):=uL hN _
 simp only [q1,kU,Option.bind_some,beq_self_eq_true,Bool.and_self,cond_true,Jq]
 have q2:∀ s t:Bool,((bif s then ((bif allFit (fits vO) [AV.int .i64 (aV (qH b)),AV.int .i64 (if t=true then 13 else 0)]&&true then some (map ka [AV.int .i64 (aV (qH b)),AV.int .i64 (if t=true then 13 else 0)]) else none:Option lW).bind fun x=>(wx N x).bind fun y=>some y) else ((bif allFit (fits vO) [AV.int .i64 (aV (qH b)),AV.int .i64 (if false=true then 13 else 0)]&&true then some (map ka [AV.int .i64 (aV (qH b)),AV.int .i64 (if false=true then 13 else 0)]) else none:Option lW).bind fun x=>(wx N x).bind fun y=>some y)):Option Int)=some (aJ [aV (qH b),if s&&t then 13 else 0]):=fun s t=>by
  rw [Bf,Bf]
  simp only [Option.bind_some]
  rw [jK hN _ (by simp),jK hN _ (by simp)]
  cases s <;> cases t <;> rfl
 rw [q2,Option.bind_some]
 have q3:I7 N ((Ap b).1,(Ap b).2)=_:=Gx hN (Ap b)
 unfold ky
 simp only [aJ]
 by_cases h0:aV (qH b)=0
 ·by_cases h1:b.2.2=-1∨b.2.2=1
  ·have hb:(b.2.2 != -1&&b.2.2 != 1)=false:=by rcases h1 with h | h <;> rw [h] <;> rfl
   rw [hb]
   have hn:¬ (b.2.2≠-1∧b.2.2≠1):=by omega
   rw [if_pos h0,if_neg (show ¬ aV (qH b)≠0 from fun c=>c h0),if_neg hn,← Nj b h0 h1]
   simp only [Bool.false_eq_true,if_false,if_true,bne_self_eq_false,cond_false,q3,Option.bind_some]
  ·have hb:(b.2.2 != -1&&b.2.2 != 1)=true:=by
    rw [Bool.and_eq_true]; exact ⟨bne_iff_ne.2 (by omega),bne_iff_ne.2 (by omega)⟩
   have hn:b.2.2≠-1∧b.2.2≠1:=by omega
   rw [hb,if_pos h0,if_neg (show ¬ aV (qH b)≠0 from fun c=>c h0),if_pos hn]
   rfl
 ·have hb:(aV (qH b) != 0)=true:=bne_iff_ne.2 h0
  rw [if_neg h0,if_pos h0,hb]
  rfl
def less (a b:dv):Bool:=if a.2.1≠b.2.1 then decide (a.2.1 < b.2.1) else if a.1≠b.1 then decide (a.1 < b.1) else decide (a.2.2 < b.2.2)
theorem Bn (N:Nat) (a b:dv):T6 N (a,b)=some (less a b):=by
 rw [M7]
 unfold less
 by_cases h1:a.2.1=b.2.1
 ·by_cases h2:a.1=b.1
  ·simp [h1,h2]
  ·have hb:(a.1 != b.1)=true:=bne_iff_ne.2 h2
   simp [h1,h2,hb]
 ·have hb:(a.2.1 != b.2.1)=true:=bne_iff_ne.2 h1
  simp [h1,hb]
def Jr (a b:Int):Int:=if a < b then -1 else if a > b then 1 else 0
theorem Sr (N:Nat) (a b:Int):I9 N (a,b)=some (Jr a b):=by
 rw [QW]
 simp only [QU,bne_self_eq_false,Option.bind_some,cond_false]
 unfold Jr
 by_cases h1:a < b
 ·simp [h1]
 ·by_cases h2:a > b <;> simp [h1,h2]
theorem Gy {N:Nat} (hN:fL N) (l:List Int) (hl:l.length≤9223372036854775806):QP N l=some (aJ l):=by
 obtain ⟨o,h1,h2⟩:=oo (rd:=wX N l) l (fun k hk=>by
  have hd:=fH cC l k hk
  have e1:fx (ah (map cC l) k)=l[k]:=by rw [hd]; rfl
  have e2:fits p3 (ah (map cC l) k)=true:=by rw [hd]; rfl
  simp only [wX,List.length_map,Int.toNat_natCast,e1,e2,bE (show k < 9223372036854775807 by omega),a8 hk,aB hk,Bool.and_self,cond_true]
  by_cases hz:l[k]=0
  ·simp [hz]
  ·simp [hz,Bool.cond_eq_ite]) (by simp only [wX,List.length_map,bO,cond_false]) N (by unfold fL at hN; omega)
 rw [QR,h1,Option.bind_some]
 rcases o with o | o
 ·simpa using h2
 ·simpa using h2
def W7 (a b:dv):Int:=aJ [Jr a.2.1 b.2.1,Jr a.1 b.1,Jr a.2.2 b.2.2]
theorem Nl {N:Nat} (hN:fL N) (a b:dv):Md N (a,b)=some (W7 a b):=by
 rw [QY]
 simp only [Sr,Option.bind_some,beq_self_eq_true,Bool.and_self,cond_true]
 have h3:∀ x y z:Int,((bif allFit (fits p3) [AV.int .i64 x,AV.int .i64 y,AV.int .i64 z]&&true then some (map fx [AV.int .i64 x,AV.int .i64 y,AV.int .i64 z]) else none:Option lW))=some [x,y,z]:=fun x y z=>rfl
 rw [h3]
 simp only [Option.bind_some]
 rw [Gy hN _ (by simp)]
 rfl
theorem Js (a b:dv):decide (W7 a b≥0)=!less a b:=by
 unfold W7 less Jr
 simp only [aJ]
 by_cases h1:a.2.1 < b.2.1
 ·have:a.2.1≠b.2.1:=by omega
  simp [h1,this]
 ·by_cases h2:a.2.1 > b.2.1
  ·have:a.2.1≠b.2.1:=by omega
   simp [h1,h2,this]
  ·have:a.2.1=b.2.1:=by omega
   simp only [h1,h2,this,if_false,if_true,ne_eq,not_true_eq_false]
   by_cases h3:a.1 < b.1
   ·have:a.1≠b.1:=by omega
    simp [h3,this]
   ·by_cases h4:a.1 > b.1
    ·have:a.1≠b.1:=by omega
     simp [h3,h4,this]
    ·have:a.1=b.1:=by omega
     simp only [this,if_false,if_true,not_true_eq_false,Int.lt_irrefl,gt_iff_lt]
     by_cases h5:a.2.2 < b.2.2
     ·simp [h5]
     ·by_cases h6:b.2.2 < a.2.2 <;> simp [h5,h6]
def Em (l:List dv) (k:Nat):Int:=if ky (l.getD k (0,0,0))≠0 then ky (l.getD k (0,0,0)) else if 0 < k∧less (l.getD (k - 1) (0,0,0)) (l.getD k (0,0,0))=false then 11 else 0
def dA (l:List dv):Int:=if l.length > 4096 then 5 else aJ ((List.range l.length).map (Em l))
theorem HQ {N:Nat} (hN:fL N) (l:List dv):TF N l=some (dA l):=by
 rw [VO]
 simp only [List.length_map]
 unfold dA
 by_cases h:l.length > 4096
 ·have h':(l.length:Int) > 4096:=by omega
  simp [h,h']
 ·have h':¬ (l.length:Int) > 4096:=by omega
  have key:=iW (rd:=zj N l) ((List.range l.length).map (Em l)) (fun k hk=>by
   have hk:k < l.length:=by simpa using hk
   obtain ⟨a1,a2⟩:=gl l hk
   rw [List.getElem_map,List.getElem_range]
   have e1:l.getD k (0,0,0)=l[k]:=by simp [hk]
   unfold Em
   rw [e1]
   have q1:Mc N (l[k].1,l[k].2.1,l[k].2.2)=_:=Nk hN l[k]
   have two:∀ x y:Int,((bif allFit (fits vO) [AV.int .i64 x,AV.int .i64 y]&&true then some (map ka [AV.int .i64 x,AV.int .i64 y]) else none:Option lW))=some [x,y]:=fun x y=>rfl
   have q5:∀ x y:Int,wx N [x,y]=some (aJ [x,y]):=fun x y=>jK hN _ (by simp)
   by_cases AF:k=0
   ·subst AF
    simp only [zj,List.length_map,Int.toNat_natCast,a1,a2,a8 hk,aB hk,Bool.and_self,cond_true,q1,Option.bind_some,two,q5,kU,bE (show 0 < 9223372036854775807 by omega),show decide (((0:Nat):Int) > 0)=false from rfl,cond_false]
    by_cases h0:ky l[0]=0
    ·simp [h0,aJ]
    ·have hb:(ky l[0] != 0)=true:=bne_iff_ne.2 h0
     simp [h0,hb,aJ]
   ·have Ol:k - 1 < l.length:=by omega
    obtain ⟨b1,b2⟩:=gl l Ol
    have e2:l.getD (k - 1) (0,0,0)=l[k - 1]:=by simp [Ol]
    rw [e2]
    have ew:wrap .i64 ((k:Int) - 1)=((k - 1:Nat):Int):=by rw [gk (by omega)]; omega
    have em:(if ((k - 1:Nat):Int) > 0 then ((k - 1:Nat):Int) else 0)=((k - 1:Nat):Int):=by split <;> omega
    have hp:decide ((k:Int) > 0)=true:=decide_eq_true (by omega)
    have q2:Md N ((l[k - 1].1,l[k - 1].2.1,l[k - 1].2.2),(l[k].1,l[k].2.1,l[k].2.2))=_:=Nl hN l[k - 1] l[k]
    simp only [zj,List.length_map,Int.toNat_natCast,a1,a2,a8 hk,aB hk,Bool.and_self,cond_true,q1,Option.bind_some,hp,ew,em,b1,b2,aB Ol,q2,kU,Js,two,q5,bE (show k < 9223372036854775807 by omega)]
    by_cases h0:ky l[k]=0
    ·cases less l[k - 1] l[k] with
     | true=>simp [h0,aJ]
     | false=>simp [h0,aJ,show 0 < k by omega]
    ·have hb:(ky l[k] != 0)=true:=bne_iff_ne.2 h0
     simp [h0,hb,aJ]) (by
   rw [List.length_map,List.length_range]
   simp only [zj,List.length_map,bO,cond_false]) N (by unfold fL at hN; rw [List.length_map,List.length_range]; omega)
  rw [if_neg h]
  simp only [h',decide_false,cond_false,key,Option.bind_some]
  split <;> simp_all
end Go.Proofs.YtldcljfjjoidhaaGreatDoor
namespace Go.Proofs.YtldcljfjjoidhaaGreatDoor
open Go Go.Am Go.Sort
open List (map)
open Int (toNat)
open Go.IntKind (wrap)
open Go.Am.aR (fits)
set_option maxRecDepth 100000
def qc:List dv→List XA
 | []=>[]
 | b :: l=>qH b :: Ap b :: qc l
theorem En:∀ l:List dv,(qc l).length=2 * l.length
 | []=>rfl
 | b :: l=>by rw [qc,List.length_cons,List.length_cons,En l,List.length_cons]; omega
theorem tx:∀ (l:List dv) (k:Nat) (h:k / 2 < l.length) (h2:k < (qc l).length),(qc l)[k]=if k % 2=0 then qH l[k / 2] else Ap l[k / 2]
 | [],k,h,_=>absurd h (Nat.not_lt_zero _)
 | b :: l,0,_,_=>rfl
 | b :: l,1,_,_=>rfl
 | b :: l,k+2,h,h2=>by
  have e:(k+2) / 2=k / 2+1:=by omega
  have e2:(k+2) % 2=k % 2:=by omega
  have hl:k / 2 < l.length:=by rw [e,List.length_cons] at h; omega
  have s9:k < (qc l).length:=by rw [En]; omega
  have ih:=tx l k hl s9
  simp only [e2]
  have g1:(qc (b :: l))[k+2]=(qc l)[k]:=rfl
  have g2:(b :: l)[(k+2) / 2]=l[k / 2]:=by
   have:∀ i (hi:i < (b :: l).length) (G3:i=k / 2+1),(b :: l)[i]=l[k / 2]:=by
    intro i hi G3; subst G3; rfl
   exact this _ h e
  rw [g1,g2,ih]
section
variable {N:Nat} (hN:fL N)
include hN
section
variable (F st:List XA) (hn:st.length=F.length) (hF:F.length≤2000000)
include hn hF
end
end
end Go.Proofs.YtldcljfjjoidhaaGreatDoor
namespace Go.Proofs.YtldcljfjjoidhaaGreatDoor
open Go Go.Am Go.Sort
open List (map)
open Int (toNat)
open Go.IntKind (wrap)
open Go.Am.aR (fits)
set_option maxRecDepth 100000
theorem mw (p:Int × Int):aV p=0↔(-100000≤p.1∧p.1≤100000∧-100000≤p.2∧p.2≤100000)∧(p.1+p.2) % 2=0:=by
 unfold aV
 constructor
 ·intro h
  split at h
  ·simp at h
  ·split at h
   ·omega
   ·simp at h
 ·rintro ⟨h1,h2⟩
  rw [if_neg (by omega),if_pos h2]
theorem oB {b:dv} (h:ky b=0):aV (qH b)=0∧(b.2.2=-1∨b.2.2=1)∧aV (Ap b)=0:=by
 unfold ky at h
 by_cases h0:aV (qH b)=0
 ·rw [if_neg (by simp [h0])] at h
  by_cases h1:b.2.2≠-1∧b.2.2≠1
  ·rw [if_pos h1] at h; simp at h
  ·rw [if_neg h1] at h
   exact ⟨h0,by omega,h⟩
 ·rw [if_pos h0] at h
  exact absurd h h0
theorem Nn {p:List dq} (h:iw p=0):p.length≤256∧(∀ k (hk:k < p.length),zH (p.take k) p[k]=0):=by
 unfold iw at h
 by_cases hp:p.length > 256
 ·rw [if_pos hp] at h; simp at h
 ·rw [if_neg hp] at h
  exact ⟨by omega,fun k hk=>HO h hk⟩
theorem vT (c:dq):∀ k,(e7 c k).Nodup
 | 0=>by simp [e7]
 | k+1=>by
  rw [ox,List.nodup_append]
  refine ⟨vT c k,by simp,?_⟩
  intro a ha b hb e
  rw [List.mem_singleton] at hb
  subst hb; subst e
  exact Ek c k ha
theorem sq {p:List dq} (h:iw p=0):∀ k,k≤p.length→(cT (p.take k)).Nodup∧(cT (p.take k)).length≤4096:=by
 intro k
 induction k with
 | zero=>intro _; simp [cT]
 | succ k ih=>
  intro hk
  have jg:k < p.length:=by omega
  obtain ⟨i1,i2⟩:=ih (by omega)
  obtain ⟨e1,e2,e3,e4⟩:=qG ((Nn h).2 k jg)
  rw [qF p jg]
  refine ⟨?_,by rw [List.length_append]; exact e4⟩
  rw [List.nodup_append]
  refine ⟨i1,vT _ _,?_⟩
  intro a ha b hb e
  subst e
  exact e3 a hb ha
def tC (p:List dq):List dv:=MK (ltOf kV) (0,0,0) (cT p)
theorem Jt (p:List dq):JN (ltOf kV) (tC p)∧∀ x,x∈tC p↔x∈cT p:=Je Gr RX (0,0,0) (cT p)
theorem No (a b:dv):ltOf kV a b=less a b:=by
 have h1:=Eh 0 a b
 have h2:=Bn 0 a b
 rw [h1] at h2
 exact Option.some.inj h2
theorem Ju {α:Type} {lt:α→α→Bool} (hw:SWO lt) {l:List α} (h:JN lt l):l.Nodup:=by
 refine List.Pairwise.imp ?_ h
 intro a b T1 e
 subst e
 rw [hw.1 a] at T1
 cases T1
theorem Bo {p:List dq} (h:(cT p).Nodup):(cT p).mergeSort (fun x y=>!(ltOf kV) y x)=tC p:=by
 obtain ⟨s1,s2⟩:=MM Gr (cT p)
 obtain ⟨n1,iX⟩:=Jt p
 refine HG Gr ?_ n1 (fun x=>by rw [s2,iX])
 have hn:((cT p).mergeSort (fun x y=>!(ltOf kV) y x)).Nodup:=(List.mergeSort_perm (cT p) _).nodup_iff.2 h
 refine List.Pairwise.imp₂ ?_ s1 hn
 intro a b T1 cD
 cases hc:ltOf kV a b with
 | true=>rfl
 | false=>exact absurd (RX a b hc T1) cD
theorem Eo {p:List dq} (h:(cT p).Nodup):(tC p).length=(cT p).length:=by
 rw [← Bo h,List.length_mergeSort]
section
variable {N:Nat} (hN:fL N)
include hN
def hM (l:List dv):List (XA × Bool):=l.foldl (fun m b=>si (Ap b) true m) []
end
end Go.Proofs.YtldcljfjjoidhaaGreatDoor
