/- Plain laws: a net in order,each bar once (reference). -/
import Derived.Test.YtldcljfjjoidhaaGreatDoorSeamKB
import Derived.Test.YtldcljfjjoidhaaGreatDoorBraV
import Derived.Test.YtldcljfjjoidhaaGreatDoorAmKL
import Derived.Test.YtldcljfjjoidhaaGreatDoorBraLp
set_option linter.all false
namespace Go.Proofs.YtldcljfjjoidhaaGreatDoor
open Go Go.Am Go.Sort
open List (map)
open Int (toNat)
open Go.IntKind (wrap)
open Go.Am.aO (fits)
set_option maxRecDepth 100000
theorem oM {V X:Type} {rd:V→Option (V ⊕ X)} (m:Nat) (E:Nat→V) (b:Nat→Bool) (y:Nat→X) (x:X)
  (h:∀ k,k < m→rd (E k)=some (if b k then .inr (y k) else .inl (E (k+1)))) (h0:rd (E m)=some (.inr x)) (n:Nat) (hn:m < n) :
  aN rd n (E 0)=some (match (List.range m).find? b with | some j=>y j | none=>x):=by
 have key:=nr (rd:=rd) (S:=Unit) (Y:=Nat) (List.range m) (fun _ k=>E k) (fun _ i=>if b i then .inr i else .inl ()) (fun _=>x) y (fun _ _=>True)
  (fun s k hk _=>by
   have hk:k < m:=by simpa using hk
   refine ⟨?_,fun _ _=>trivial⟩
   rw [List.getElem_range,h k hk]
   cases b k <;> rfl) (fun _ _=>by rw [List.length_range]; exact h0) n () 0 (Nat.zero_le _) (by simpa using hn) trivial
 rw [List.drop_zero] at key
 refine key.trans (congrArg some ?_)
 clear key h h0 hn
 generalize List.range m=l
 induction l with
 | nil=>rfl
 | cons a l ih=>
  simp only [foldI,List.find?_cons]
  cases b a with
  | true=>rfl
  | false=>simp only [Bool.false_eq_true,if_false,Sum.elim_inl]; exact ih
theorem LL (a b:aQ):(a.1 == b.1&&(a.2.1 == b.2.1&&(a.2.2 == b.2.2&&true)))=decide (a=b):=by
 rw [Bool.eq_iff_iff]
 simp [Prod.ext_iff]
theorem Di (N:Nat) (a b:aQ):RQ N (a,b)=some ((ltOf fL) a b):=by
 rw [LI,to]
 by_cases h1:a.2.1=b.2.1
 ·by_cases h2:a.1=b.1
  ·simp [h1,h2]
  ·have hb:(a.1 != b.1)=true:=bne_iff_ne.2 h2
   simp [h1,h2,hb]
 ·have hb:(a.2.1 != b.2.1)=true:=bne_iff_ne.2 h1
  simp [h1,hb]
theorem Fj (l:List aQ) (a b:Nat):dB a b (map ae l)=map ae ((l.take b).drop a):=by simp [dB,List.map_take,List.map_drop]
section
variable {N:Nat} (hN:e7 N)
include hN
theorem Ur (l s:List aQ) (i:Nat) (hi:i < l.length) (hl:l.length≤1000000) (hs:s.length≤2000000):aN (my N l (s,(i:Int))) N 0=some ((s.takeWhile fun x=>(ltOf fL) x l[i]).length:Int):=by
 obtain ⟨z1,z2⟩:=eF l hi
 have q:=oM (rd:=my N l (s,(i:Int))) s.length (fun k=>(k:Int)) (fun k=>!(ltOf fL) (s.getD k (0,0,0)) l[i]) (fun k=>(k:Int)) (s.length:Int) (fun k hk=>by
  obtain ⟨a1,a2⟩:=eF s hk
  have e:s.getD k (0,0,0)=s[k]:=by simp [hk]
  rw [e]
  have hb:RQ N ((s[k].1,s[k].2.1,s[k].2.2),(l[i].1,l[i].2.1,l[i].2.2))=some ((ltOf fL) s[k] l[i]):=Di N s[k] l[i]
  simp only [my,List.length_map,Int.toNat_natCast,a1,a2,z1,z2,aX hk,ay hk,ay hi,Bool.and_self,cond_true,bN (show k < 9223372036854775807 by omega),hb,Option.bind_some]
  cases (ltOf fL) s[k] l[i] <;> rfl) (by
  simp only [my,List.length_map,bJ,cond_false,Option.bind_some]) N (by unfold e7 at hN; omega)
 have q':aN (my N l (s,(i:Int))) N 0=_:=q
 rw [q']
 have:=Gp s (fun x=>(ltOf fL) x l[i]) (0,0,0)
 rw [← this]
 cases (List.range s.length).find? fun j=>!(ltOf fL) (s.getD j (0,0,0)) l[i] <;> rfl
theorem LM (l:List aQ) (s:List aQ) (k:Nat) (hl:l.length≤1000000) (hs:s.length≤2000000) (hk:k < l.length):tu N l (s,(k:Int))=some (.inl (mu (ltOf fL) (0,0,0) l[k] s,((k+1:Nat):Int))):=by
 obtain ⟨a1,a2⟩:=eF l hk
 have mE:=Ur hN l s k hk hl hs
 have hle:(s.takeWhile fun x=>(ltOf fL) x l[k]).length≤s.length:=(List.takeWhile_sublist _).length_le
 unfold mu
 simp only
 generalize (s.takeWhile fun x=>(ltOf fL) x l[k]).length=a at *
 generalize l[k]=o at *
 have hc:((bif ((a:Int) == (s.length:Int)) then some true else bif (decide ((0:Int)≤(a:Int)∧(a:Int) < (s.length:Int))&&fits au (aj (map ae s) a)) then some (!(((ak (aj (map ae s) a)).1 == o.1)&&(((ak (aj (map ae s) a)).2.1 == o.2.1)&&(((ak (aj (map ae s) a)).2.2 == o.2.2)&&true)))) else none):Option Bool)=some (decide (a=s.length∨s.getD a (0,0,0)≠o)):=by
  by_cases h:a=s.length
  ·have hb:((a:Int) == (s.length:Int))=true:=by simp [h]
   rw [hb]; simp [h]
  ·have uK:a < s.length:=by omega
   obtain ⟨b1,b2⟩:=eF s uK
   have hb:((a:Int) == (s.length:Int))=false:=beq_false_of_ne (by omega)
   have e:s.getD a (0,0,0)=s[a]:=by simp [uK]
   rw [hb,b1,b2,ay uK,e,LL]
   simp only [Bool.and_self,cond_true,cond_false]
   congr 1
   simp [h]
 have c1:decide ((0:Int)≤(a:Int)∧(a:Int)≤(s.length:Int))=true:=decide_eq_true (by omega)
 have ht:(List.take a s).length=a:=by rw [List.length_take]; omega
 have Qb:∀ x:Nat,x≤4000000→decide (x * 24≤140737488355328)=true:=fun x hx=>decide_eq_true (by omega)
 have z0:∀ x:List aQ,[AV.agg [AV.int .i64 o.1,AV.int .i64 o.2.1,AV.int .i64 o.2.2]]++map ae x=map ae ([o]++x):=fun x=>rfl
 have z1:∀ x y:List aQ,(map ae x++[AV.agg [AV.int .i64 o.1,AV.int .i64 o.2.1,AV.int .i64 o.2.2]])++map ae y=map ae (x++[o]++y):=fun x y=>by rw [List.map_append,List.map_append]; rfl
 simp only [tu,jf,vu,List.length_map,aX hk,Int.toNat_natCast,a1,a2,ay hk,Bool.and_self,cond_true,Option.bind_some,mE,hc]
 by_cases hi:a=s.length∨s.getD a (0,0,0)≠o
 ·rw [if_pos hi]
  simp only [hi,decide_true,cond_true,c1,Bool.and_self,Bool.and_true,Fj,List.drop_zero,List.take_length,beq_self_eq_true]
  by_cases h0:a=0
  ·subst h0
   simp only [List.take_zero,List.map_nil,List.isEmpty_nil,cond_true,List.nil_append,List.length_singleton,List.length_map,List.length_drop,decide_true,Qb (1+s.length) (by omega),Bool.and_self,z0,cn,cj,Option.bind_some,List.drop_zero,Bool.and_true,bN (show k < 9223372036854775807 by omega)]
  ·have cm:List.isEmpty (map ae (List.take a s))=false:=by
    cases hd:List.take a s with
    | nil=>rw [hd] at ht; simp at ht; omega
    | cons x y=>rfl
   simp only [cm,cond_false,List.nil_append,List.length_append,List.length_singleton,List.length_map,List.length_drop,ht,Nat.zero_add,Qb a (by omega),Qb (a+1) (by omega),Qb (a+1+(s.length - a)) (by omega),decide_true,cond_true,Bool.and_self,z1,cn,cj,Option.bind_some,Bool.and_true,bN (show k < 9223372036854775807 by omega)]
 ·rw [if_neg hi]
  simp only [hi,decide_false,cond_false,cn,cj,Bool.and_true,cond_true,Option.bind_some,bN (show k < 9223372036854775807 by omega)]
theorem Qd (l:List aQ) (hl:l.length≤1000000):Zh N l=some (Bl (ltOf fL) (0,0,0) l):=by
 rw [Uo]
 have key:=dh (rd:=tu N l) l (fun s k=>(s,(k:Int))) (fun s k=>mu (ltOf fL) (0,0,0) k s) (fun s=>s) (fun s k=>s.length≤k∧k≤l.length) (fun s k hk hs=>by
  refine ⟨LM hN l s k hl (by omega) hk,?_⟩
  have:=sa (lt:=(ltOf fL)) (0,0,0) l[k] s
  omega) (fun s _=>by
  simp only [tu,jf,vu,List.length_map,bJ,cond_false,cn,cj,Bool.and_true,cond_true,Option.bind_some]) N [] 0 (Nat.zero_le _) (by unfold e7 at hN; omega) ⟨Nat.le_refl _,Nat.zero_le _⟩
 have qH:aN (tu N l) N ([],0)=_:=key
 have z:((bif (allFit (fits au) ([]:List AV)&&true) then some ((map ak ([]:List AV)),0) else none:Option ((List aQ) × Int)).bind fun Fh=>some Fh)=some ([],0):=rfl
 rw [z,Option.bind_some,qH,List.drop_zero,Option.bind_some]
 simp only [cn,cj,cond_true]
 rfl
end
end Go.Proofs.YtldcljfjjoidhaaGreatDoor
namespace Go.Proofs.YtldcljfjjoidhaaGreatDoor
open Go Go.Am Go.Sort
open List (map)
open Int (toNat)
open Go.IntKind (wrap)
open Go.Am.aO (fits)
set_option maxRecDepth 100000
section
variable {N:Nat} (hN:e7 N)
include hN
theorem H4 (l:List aQ):ba (map ae l)=true:=by
 induction l with
 | nil=>rfl
 | cons x l ih=>exact ih
end
end Go.Proofs.YtldcljfjjoidhaaGreatDoor
namespace Go.Proofs.YtldcljfjjoidhaaGreatDoor
open Go Go.Am Go.Sort
open List (map)
open Int (toNat)
open Go.IntKind (wrap)
open Go.Am.aO (fits)
set_option maxRecDepth 100000
section
variable {N:Nat} (hN:e7 N)
include hN
end
end Go.Proofs.YtldcljfjjoidhaaGreatDoor
namespace Go.Proofs.YtldcljfjjoidhaaGreatDoor
open Go Go.Am Go.Sort
open List (map)
open Int (toNat)
open Go.IntKind (wrap)
open Go.Am.aO (fits)
set_option maxRecDepth 100000
def lvl (c:Uf):Int:=if c.2.2.2.1 then c.2.1 else c.2.1 - 1
def below (p:List Uf) (c:Uf):Bool:=match p.getLast? with
 | some q=>decide (lvl c < lvl q)
 | none=>false
section
variable {N:Nat} (hN:e7 N)
include hN
end
end Go.Proofs.YtldcljfjjoidhaaGreatDoor
namespace Go.Proofs.YtldcljfjjoidhaaGreatDoor
open Go Go.Am Go.Sort
open List (map)
open Int (toNat)
open Go.IntKind (wrap)
open Go.Am.aO (fits)
set_option maxRecDepth 100000
abbrev BK:EK:=.st (.cons 0 1 false .int (.cons 1 1 false .int (.cons 2 1 false .int .nil)))
abbrev X2 (b:aQ):AV:=.agg [.int .i64 b.1,.int .i64 b.2.1,.int .i64 b.2.2]
theorem Qe (a b:aQ):Dz BK (X2 a) (X2 b)=some (decide (a=b)):=by
 obtain ⟨a1,a2,a3⟩:=a
 obtain ⟨b1,b2,b3⟩:=b
 have e:k9 BK (X2 (a1,a2,a3)) (X2 (b1,b2,b3))=some ((a1 == b1)&&((a2 == b2)&&((a3 == b3)&&true))):=rfl
 unfold Dz
 rw [e]
 by_cases h1:a1=b1 <;> by_cases h2:a2=b2 <;> by_cases h3:a3=b3
 ·subst h1; subst h2; subst h3
  simp [EK.wide,lm,lW,nO]
 all_goals simp [h1,h2,h3]
theorem cT:hY BK X2 AV.bool aS where
 key:=Qe
 pair:=fun _=>rfl
 exact:=fun _=>rfl
def bP (l:List aQ):List (aQ × Bool):=l.map fun b=>(b,true)
theorem oN (l:List aQ) (b:aQ):(getM b (bP l)).getD false=decide (b∈l):=by
 unfold bP
 rw [zW]
 by_cases h:b∈l <;> simp [h]
theorem oO (l:List aQ) (b:aQ) (h:b∉l):nK b true (bP l)=bP (l++[b]):=by
 have:getM b (bP l)=none:=by unfold bP; rw [zW,if_neg h]
 rw [C8 this]
 unfold bP
 rw [List.map_append]
 rfl
section
variable {N:Nat} (hN:e7 N)
include hN
end
end Go.Proofs.YtldcljfjjoidhaaGreatDoor
namespace Go.Proofs.YtldcljfjjoidhaaGreatDoor
open Go Go.Am Go.Sort
open List (map)
open Int (toNat)
open Go.IntKind (wrap)
open Go.Am.aO (fits)
set_option maxRecDepth 100000
section
variable {N:Nat} (hN:e7 N)
include hN
end
end Go.Proofs.YtldcljfjjoidhaaGreatDoor
namespace Go.Proofs.YtldcljfjjoidhaaGreatDoor
open Go Go.Am
open List (map)
open Int (toNat)
open Go.IntKind (wrap)
open Go.Am.aO (fits)
set_option maxRecDepth 100000
def fD (b:aQ):Int × Int:=(wrap .i64 (b.1+b.2.2),wrap .i64 (b.2.1+1))
def eP (b:aQ):Int × Int:=(b.1,b.2.1)
theorem z8 (N:Nat) (b:aQ):C7 N b=some (b.1,b.2.1,fD b):=by rw [Gg]; rfl
theorem sf (N:Nat) (b:aQ):sd N b=some (eP b):=by rw [P7]; rfl
theorem sh (N:Nat) (b:aQ):se N b=some (fD b):=by rw [P8]; rfl
theorem H5 (N:Nat) (b:aQ):LG N b=some (b.1,b.2.1,fD b):=by
 rw [Qa]
 simp only [sf,sh,beq_self_eq_true,Bool.and_self,cond_true,Option.bind_some]
 rfl
def gz (b:aQ):Int:=if bp (eP b)≠0 then bp (eP b) else if b.2.2≠-1∧b.2.2≠1 then 13 else bp (fD b)
theorem Fk {N:Nat} (hN:e7 N) (p:Int × Int):HN N p=some (bT [Rk p.1 (-100000) 100000,Rk p.2 (-100000) 100000]):=by
 rw [Gf]
 simp only [Dh,Option.bind_some,beq_self_eq_true,Bool.and_self,cond_true]
 rw [Dg]
 simp only [Option.bind_some]
 rw [ja hN _ (by simp)]
 rfl
theorem LN (b:aQ) (h0:bp (eP b)=0) (h1:b.2.2=-1∨b.2.2=1):bT [Rk (fD b).1 (-100000) 100000,Rk (fD b).2 (-100000) 100000]=bp (fD b):=by
 unfold bp eP at h0
 simp only at h0
 split at h0
 ·cases h0
 ·rename_i hr
  split at h0
  ·rename_i hp
   have e1:(fD b).1=b.1+b.2.2:=ki (by omega)
   have e2:(fD b).2=b.2.1+1:=ki (by omega)
   unfold bp
   rw [e1,e2]
   have hp2:(b.1+b.2.2+(b.2.1+1)) % 2=0:=by omega
   rw [if_pos hp2]
   unfold Rk
   simp only [bT]
   by_cases c1:b.1+b.2.2 < -100000∨b.1+b.2.2 > 100000
   ·have c:b.1+b.2.2 < -100000∨b.1+b.2.2 > 100000∨b.2.1+1 < -100000∨b.2.1+1 > 100000:=by omega
    rw [if_pos c,if_pos c1]; rfl
   ·rw [if_neg c1]
    by_cases c2:b.2.1+1 < -100000∨b.2.1+1 > 100000
    ·have c:b.1+b.2.2 < -100000∨b.1+b.2.2 > 100000∨b.2.1+1 < -100000∨b.2.1+1 > 100000:=by omega
     rw [if_pos c,if_pos c2]; rfl
    ·have c:¬ (b.1+b.2.2 < -100000∨b.1+b.2.2 > 100000∨b.2.1+1 < -100000∨b.2.1+1 > 100000):=by omega
     rw [if_neg c,if_neg c2]; rfl
  ·cases h0
theorem LO {N:Nat} (hN:e7 N) (b:aQ):KX N b=some (gz b):=by
 rw [Pn]
 have q1:KW N (b.1,b.2.1)=some (bp (eP b)):=HS hN _
 simp only [q1,kj,Option.bind_some,beq_self_eq_true,Bool.and_self,cond_true,z8]
 have q2:∀ s t:Bool,((bif s then ((bif allFit (fits BI) [AV.int .i64 (bp (eP b)),AV.int .i64 (if t=true then 13 else 0)]&&true then some (map nJ [AV.int .i64 (bp (eP b)),AV.int .i64 (if t=true then 13 else 0)]) else none:Option qP).bind fun x=>(uN N x).bind fun y=>some y) else ((bif allFit (fits BI) [AV.int .i64 (bp (eP b)),AV.int .i64 (if false=true then 13 else 0)]&&true then some (map nJ [AV.int .i64 (bp (eP b)),AV.int .i64 (if false=true then 13 else 0)]) else none:Option qP).bind fun x=>(uN N x).bind fun y=>some y)):Option Int)=some (bT [bp (eP b),if s&&t then 13 else 0]):=fun s t=>by
  rw [Dg,Dg]
  simp only [Option.bind_some]
  rw [ja hN _ (by simp),ja hN _ (by simp)]
  cases s <;> cases t <;> rfl
 rw [q2,Option.bind_some]
 have q3:HN N ((fD b).1,(fD b).2)=_:=Fk hN (fD b)
 unfold gz
 simp only [bT]
 by_cases h0:bp (eP b)=0
 ·by_cases h1:b.2.2=-1∨b.2.2=1
  ·have hb:(b.2.2 != -1&&b.2.2 != 1)=false:=by rcases h1 with h | h <;> rw [h] <;> rfl
   rw [hb]
   have hn:¬ (b.2.2≠-1∧b.2.2≠1):=by omega
   rw [if_pos h0,if_neg (show ¬ bp (eP b)≠0 from fun c=>c h0),if_neg hn,← LN b h0 h1]
   simp only [Bool.false_eq_true,if_false,if_true,bne_self_eq_false,cond_false,q3,Option.bind_some]
  ·have hb:(b.2.2 != -1&&b.2.2 != 1)=true:=by
    rw [Bool.and_eq_true]; exact ⟨bne_iff_ne.2 (by omega),bne_iff_ne.2 (by omega)⟩
   have hn:b.2.2≠-1∧b.2.2≠1:=by omega
   rw [hb,if_pos h0,if_neg (show ¬ bp (eP b)≠0 from fun c=>c h0),if_pos hn]
   rfl
 ·have hb:(bp (eP b) != 0)=true:=bne_iff_ne.2 h0
  rw [if_neg h0,if_pos h0,hb]
  rfl
def less (a b:aQ):Bool:=if a.2.1≠b.2.1 then decide (a.2.1 < b.2.1) else if a.1≠b.1 then decide (a.1 < b.1) else decide (a.2.2 < b.2.2)
theorem Aa (N:Nat) (a b:aQ):RQ N (a,b)=some (less a b):=by
 rw [LI]
 unfold less
 by_cases h1:a.2.1=b.2.1
 ·by_cases h2:a.1=b.1
  ·simp [h1,h2]
  ·have hb:(a.1 != b.1)=true:=bne_iff_ne.2 h2
   simp [h1,h2,hb]
 ·have hb:(a.2.1 != b.2.1)=true:=bne_iff_ne.2 h1
  simp [h1,hb]
def xW (a b:Int):Int:=if a < b then -1 else if a > b then 1 else 0
theorem Qf (N:Nat) (a b:Int):HO N (a,b)=some (xW a b):=by
 rw [Pv]
 simp only [Pt,bne_self_eq_false,Option.bind_some,cond_false]
 unfold xW
 by_cases h1:a < b
 ·simp [h1]
 ·by_cases h2:a > b <;> simp [h1,h2]
theorem Fl {N:Nat} (hN:e7 N) (l:List Int) (hl:l.length≤9223372036854775806):Po N l=some (bT l):=by
 obtain ⟨o,h1,h2⟩:=qC (rd:=vo N l) l (fun k hk=>by
  have hd:=gM dY l k hk
  have e1:gb (aj (map dY l) k)=l[k]:=by rw [hd]; rfl
  have e2:fits p3 (aj (map dY l) k)=true:=by rw [hd]; rfl
  simp only [vo,List.length_map,Int.toNat_natCast,e1,e2,bN (show k < 9223372036854775807 by omega),aX hk,ay hk,Bool.and_self,cond_true]
  by_cases hz:l[k]=0
  ·simp [hz]
  ·simp [hz,Bool.cond_eq_ite]) (by simp only [vo,List.length_map,bJ,cond_false]) N (by unfold e7 at hN; omega)
 rw [Pq,h1,Option.bind_some]
 rcases o with o | o
 ·simpa using h2
 ·simpa using h2
def uP (a b:aQ):Int:=bT [xW a.2.1 b.2.1,xW a.1 b.1,xW a.2.2 b.2.2]
theorem xX {N:Nat} (hN:e7 N) (a b:aQ):Bi N (a,b)=some (uP a b):=by
 rw [Pw]
 simp only [Qf,Option.bind_some,beq_self_eq_true,Bool.and_self,cond_true]
 have h3:∀ x y z:Int,((bif allFit (fits p3) [AV.int .i64 x,AV.int .i64 y,AV.int .i64 z]&&true then some (map gb [AV.int .i64 x,AV.int .i64 y,AV.int .i64 z]) else none:Option qP))=some [x,y,z]:=fun x y z=>rfl
 rw [h3]
 simp only [Option.bind_some]
 rw [Fl hN _ (by simp)]
 rfl
theorem Ab (a b:aQ):decide (uP a b≥0)=!less a b:=by
 unfold uP less xW
 simp only [bT]
 by_cases h1:a.2.1 < b.2.1
 ·have:a.2.1≠b.2.1:=by omega
  simp [h1,this]
 ·by_cases h2:a.2.1 > b.2.1
  ·have:a.2.1≠b.2.1:=by omega
   simp [h1,h2,this]
  ·have:a.2.1=b.2.1:=by omega
   simp only [h1,h2,this,if_false,if_true,ne_eq,not_true_eq_false]
   by_cases h3:a.1 < b.1
   ·have:a.1≠b.1:=by omega
    simp [h3,this]
   ·by_cases h4:a.1 > b.1
    ·have:a.1≠b.1:=by omega
     simp [h3,h4,this]
    ·have:a.1=b.1:=by omega
     simp only [this,if_false,if_true,not_true_eq_false,Int.lt_irrefl,gt_iff_lt]
     by_cases h5:a.2.2 < b.2.2
     ·simp [h5]
     ·by_cases h6:b.2.2 < a.2.2 <;> simp [h5,h6]
def Bn (l:List aQ) (k:Nat):Int:=if gz (l.getD k (0,0,0))≠0 then gz (l.getD k (0,0,0)) else if 0 < k∧less (l.getD (k - 1) (0,0,0)) (l.getD k (0,0,0))=false then 11 else 0
def dH (l:List aQ):Int:=if l.length > 4096 then 5 else bT ((List.range l.length).map (Bn l))
theorem Bo {N:Nat} (hN:e7 N) (l:List aQ):Rr N l=some (dH l):=by
 rw [TH]
 simp only [List.length_map]
 unfold dH
 by_cases h:l.length > 4096
 ·have h':(l.length:Int) > 4096:=by omega
  simp [h,h']
 ·have h':¬ (l.length:Int) > 4096:=by omega
  have key:=ul (rd:=xD N l) ((List.range l.length).map (Bn l)) (fun k hk=>by
   have hk:k < l.length:=by simpa using hk
   obtain ⟨a1,a2⟩:=eF l hk
   rw [List.getElem_map,List.getElem_range]
   have e1:l.getD k (0,0,0)=l[k]:=by simp [hk]
   unfold Bn
   rw [e1]
   have q1:KX N (l[k].1,l[k].2.1,l[k].2.2)=_:=LO hN l[k]
   have two:∀ x y:Int,((bif allFit (fits BI) [AV.int .i64 x,AV.int .i64 y]&&true then some (map nJ [AV.int .i64 x,AV.int .i64 y]) else none:Option qP))=some [x,y]:=fun x y=>rfl
   have q5:∀ x y:Int,uN N [x,y]=some (bT [x,y]):=fun x y=>ja hN _ (by simp)
   by_cases G6:k=0
   ·subst G6
    simp only [xD,List.length_map,Int.toNat_natCast,a1,a2,aX hk,ay hk,Bool.and_self,cond_true,q1,Option.bind_some,two,q5,kj,bN (show 0 < 9223372036854775807 by omega),show decide (((0:Nat):Int) > 0)=false from rfl,cond_false]
    by_cases h0:gz l[0]=0
    ·simp [h0,bT]
    ·have hb:(gz l[0] != 0)=true:=bne_iff_ne.2 h0
     simp [h0,hb,bT]
   ·have yY:k - 1 < l.length:=by omega
    obtain ⟨b1,b2⟩:=eF l yY
    have e2:l.getD (k - 1) (0,0,0)=l[k - 1]:=by simp [yY]
    rw [e2]
    have ew:wrap .i64 ((k:Int) - 1)=((k - 1:Nat):Int):=by rw [ki (by omega)]; omega
    have em:(if ((k - 1:Nat):Int) > 0 then ((k - 1:Nat):Int) else 0)=((k - 1:Nat):Int):=by split <;> omega
    have hp:decide ((k:Int) > 0)=true:=decide_eq_true (by omega)
    have q2:Bi N ((l[k - 1].1,l[k - 1].2.1,l[k - 1].2.2),(l[k].1,l[k].2.1,l[k].2.2))=_:=xX hN l[k - 1] l[k]
    simp only [xD,List.length_map,Int.toNat_natCast,a1,a2,aX hk,ay hk,Bool.and_self,cond_true,q1,Option.bind_some,hp,ew,em,b1,b2,ay yY,q2,kj,Ab,two,q5,bN (show k < 9223372036854775807 by omega)]
    by_cases h0:gz l[k]=0
    ·cases less l[k - 1] l[k] with
     | true=>simp [h0,bT]
     | false=>simp [h0,bT,show 0 < k by omega]
    ·have hb:(gz l[k] != 0)=true:=bne_iff_ne.2 h0
     simp [h0,hb,bT]) (by
   rw [List.length_map,List.length_range]
   simp only [xD,List.length_map,bJ,cond_false]) N (by unfold e7 at hN; rw [List.length_map,List.length_range]; omega)
  rw [if_neg h]
  simp only [h',decide_false,cond_false,key,Option.bind_some]
  split <;> simp_all
end Go.Proofs.YtldcljfjjoidhaaGreatDoor
namespace Go.Proofs.YtldcljfjjoidhaaGreatDoor
open Go Go.Am Go.Sort
open List (map)
open Int (toNat)
open Go.IntKind (wrap)
open Go.Am.aO (fits)
set_option maxRecDepth 100000
def BL:Int × Int→Int × Int→Bool:=ltOf Iz
theorem Us (x y:Int × Int):BL x y=decide (x.2 < y.2∨x.2=y.2∧x.1 < y.1):=xR x y
def eJ:List aQ→List XA
 | []=>[]
 | b :: l=>eP b :: fD b :: eJ l
theorem mz:∀ l:List aQ,(eJ l).length=2 * l.length
 | []=>rfl
 | b :: l=>by rw [eJ,List.length_cons,List.length_cons,mz l,List.length_cons]; omega
theorem oK:∀ (l:List aQ) (k:Nat) (h:k / 2 < l.length) (h2:k < (eJ l).length),(eJ l)[k]=if k % 2=0 then eP l[k / 2] else fD l[k / 2]
 | [],k,h,_=>absurd h (Nat.not_lt_zero _)
 | b :: l,0,_,_=>rfl
 | b :: l,1,_,_=>rfl
 | b :: l,k+2,h,h2=>by
  have e:(k+2) / 2=k / 2+1:=by omega
  have e2:(k+2) % 2=k % 2:=by omega
  have hl:k / 2 < l.length:=by rw [e,List.length_cons] at h; omega
  have Jt:k < (eJ l).length:=by rw [mz]; omega
  have ih:=oK l k hl Jt
  simp only [e2]
  have g1:(eJ (b :: l))[k+2]=(eJ l)[k]:=rfl
  have g2:(b :: l)[(k+2) / 2]=l[k / 2]:=by
   have:∀ i (hi:i < (b :: l).length) (FL:i=k / 2+1),(b :: l)[i]=l[k / 2]:=by
    intro i hi FL; subst FL; rfl
   exact this _ h e
  rw [g1,g2,ih]
def cU (l:List aQ):List XA:=Bl BL (0,0) (eJ l)
theorem LP (l:List XA) {k:Nat} (hk:k < l.length):mr (aj (map cr l) k)=l[k]∧fits fI (aj (map cr l) k)=true:=by
 rw [gM cr l k hk,aaR,aaQ]; exact ⟨rfl,rfl⟩
theorem Fm (l:List XA) (a b:Nat):dB a b (map cr l)=map cr ((l.take b).drop a):=by simp [dB,List.map_take,List.map_drop]
theorem LQ (x o:Int × Int):(bif decide (x.2 < o.2) then some true else bif (x.2 == o.2) then some (decide (x.1 < o.1)) else some false)=some (BL x o):=by
 rw [Us]
 by_cases h1:x.2 < o.2
 ·simp [h1]
 ·by_cases h2:x.2=o.2
  ·simp [h2]
  ·have hb:(x.2 == o.2)=false:=beq_false_of_ne h2
   simp [h1,h2,hb]
section
variable {N:Nat} (hN:e7 N)
include hN
theorem Ut (s:List XA) (i:Int) (o:Int × Int) (hs:s.length≤2000000):aN (jb N (s,i) o) N 0=some ((s.takeWhile fun x=>BL x o).length:Int):=by
 have q:=oM (rd:=jb N (s,i) o) s.length (fun k=>(k:Int)) (fun k=>!BL (s.getD k (0,0)) o) (fun k=>(k:Int)) (s.length:Int) (fun k hk=>by
  obtain ⟨a1,a2⟩:=LP s hk
  have e:s.getD k (0,0)=s[k]:=by simp [hk]
  rw [e]
  have hb:=LQ s[k] o
  simp only [jb,List.length_map,Int.toNat_natCast,a1,a2,aX hk,ay hk,Bool.and_self,cond_true,bN (show k < 9223372036854775807 by omega),hb,Option.bind_some]
  cases BL s[k] o <;> rfl) (by
  simp only [jb,List.length_map,bJ,cond_false,Option.bind_some]) N (by unfold e7 at hN; omega)
 have q':aN (jb N (s,i) o) N 0=_:=q
 rw [q']
 have:=Gp s (fun x=>BL x o) (0,0)
 rw [← this]
 cases (List.range s.length).find? fun j=>!BL (s.getD j (0,0)) o <;> rfl
theorem LR (l:List aQ) (s:List XA) (k:Nat) (hl:l.length≤1000000) (hs:s.length≤2000000) (hk:k < 2 * l.length) (BM:k < (eJ l).length):tv N l (s,(k:Int))=some (.inl (mu BL (0,0) (eJ l)[k] s,((k+1:Nat):Int))):=by
 have hk3:k / 2 < l.length:=by omega
 have hw:wrap .i64 (2 * (l.length:Int))=((2 * l.length:Nat):Int):=by rw [ki (by omega)]; omega
 have hd:wrap .i64 (Int.tdiv (k:Int) 2)=((k / 2:Nat):Int):=by
  rw [Int.tdiv_eq_ediv_of_nonneg (by omega),ki (by omega)]; omega
 have hm:Int.tmod (k:Int) 2=((k % 2:Nat):Int):=by
  rw [Int.tmod_eq_emod_of_nonneg (by omega)]; omega
 obtain ⟨a1,a2⟩:=eF l hk3
 have abx:LG N (l[k / 2].1,l[k / 2].2.1,l[k / 2].2.2)=_:=H5 N l[k / 2]
 have ho:((bif decide (((k % 2:Nat):Int)=0) then some (l[k / 2].1,l[k / 2].2.1) else bif decide (((k % 2:Nat):Int)=1) then some ((fD l[k / 2]).1,(fD l[k / 2]).2) else none):Option XA)=some (eJ l)[k]:=by
  rw [oK l k hk3 BM]
  by_cases h:k % 2=0
  ·rw [h]; rfl
  ·have h1:k % 2=1:=by omega
   rw [h1]; rfl
 generalize (eJ l)[k]=o at *
 obtain ⟨t1,t2⟩:=fu (fun x=>BL x o) s
 have hle:(s.takeWhile fun x=>BL x o).length≤s.length:=(List.takeWhile_sublist _).length_le
 have mE:∀ i,aN (jb N (s,i) o) N 0=some ((s.takeWhile fun x=>BL x o).length:Int):=fun i=>Ut hN s i o (by omega)
 unfold mu
 simp only
 generalize (s.takeWhile fun x=>BL x o).length=a at *
 have hc:((bif ((a:Int) == (s.length:Int)) then some true else bif (decide ((0:Int)≤(a:Int)∧(a:Int) < (s.length:Int))&&fits fI (aj (map cr s) a)) then some (!(((mr (aj (map cr s) a)).1 == o.1)&&(((mr (aj (map cr s) a)).2 == o.2)&&true))) else none):Option Bool)=some (decide (a=s.length∨s.getD a (0,0)≠o)):=by
  by_cases h:a=s.length
  ·have hb:((a:Int) == (s.length:Int))=true:=by simp [h]
   rw [hb]; simp [h]
  ·have uK:a < s.length:=by omega
   obtain ⟨b1,b2⟩:=LP s uK
   have hb:((a:Int) == (s.length:Int))=false:=beq_false_of_ne (by omega)
   have e:s.getD a (0,0)=s[a]:=by simp [uK]
   rw [hb,b1,b2,ay uK,e]
   simp only [Bool.and_self,cond_true,cond_false]
   congr 1
   rw [Bool.eq_iff_iff]
   simp only [h,false_or,Bool.not_eq_true',Bool.and_true,decide_eq_true_eq,Bool.and_eq_false_iff,beq_eq_false_iff_ne,ne_eq]
   constructor
   ·rintro h2 rfl
    rcases h2 with h2 | h2 <;> exact h2 rfl
   ·intro h2
    by_cases h3:s[a].1=o.1
    ·right; intro h4; exact h2 (Prod.ext h3 h4)
    ·exact .inl h3
 have c1:decide ((0:Int)≤(a:Int)∧(a:Int)≤(s.length:Int))=true:=decide_eq_true (by omega)
 have ht:(List.take a s).length=a:=by rw [List.length_take]; omega
 have hb0:decide (1=([AV.agg [AV.int .i64 o.1,AV.int .i64 o.2]]:List AV).length)=true:=rfl
 have Qb:∀ x:Nat,x≤4000000→decide (x * 16≤140737488355328)=true:=fun x hx=>decide_eq_true (by omega)
 have z0:∀ x:List XA,[AV.agg [AV.int .i64 o.1,AV.int .i64 o.2]]++map cr x=map cr ([o]++x):=fun x=>rfl
 have z1:∀ x y:List XA,(map cr x++[AV.agg [AV.int .i64 o.1,AV.int .i64 o.2]])++map cr y=map cr (x++[o]++y):=fun x y=>by rw [List.map_append,List.map_append]; rfl
 simp only [tv,List.length_map,hw,aX hk,hd,Int.toNat_natCast,a1,a2,ay hk3,Bool.and_self,cond_true,abx,Option.bind_some,hm,ho,mE,hc]
 by_cases hi:a=s.length∨s.getD a (0,0)≠o
 ·rw [if_pos hi]
  simp only [hi,decide_true,cond_true,c1,Bool.and_self,Bool.and_true,Fm,List.drop_zero,List.take_length,beq_self_eq_true]
  by_cases h0:a=0
  ·subst h0
   simp only [List.take_zero,List.map_nil,List.isEmpty_nil,cond_true,List.nil_append,List.length_singleton,List.length_map,List.length_drop,decide_true,Qb (1+s.length) (by omega),Bool.and_self,z0,KQ,KR,Option.bind_some,List.drop_zero,Bool.and_true,bN (show k < 9223372036854775807 by omega)]
  ·have cm:List.isEmpty (map cr (List.take a s))=false:=by
    cases hd:List.take a s with
    | nil=>rw [hd] at ht; simp at ht; omega
    | cons x y=>rfl
   simp only [cm,cond_false,List.nil_append,List.length_append,List.length_singleton,List.length_map,List.length_drop,ht,Nat.zero_add,Qb a (by omega),Qb (a+1) (by omega),Qb (a+1+(s.length - a)) (by omega),decide_true,cond_true,Bool.and_self,z1,KQ,KR,Option.bind_some,Bool.and_true,bN (show k < 9223372036854775807 by omega)]
 ·rw [if_neg hi]
  simp only [hi,decide_false,cond_false,KQ,KR,Bool.and_true,cond_true,Option.bind_some,bN (show k < 9223372036854775807 by omega)]
theorem H6 (l:List aQ) (hl:l.length≤1000000):Zi N l=some (cU l):=by
 rw [Uq]
 have key:=dh (rd:=tv N l) (eJ l) (fun s k=>(s,(k:Int))) (fun s k=>mu BL (0,0) k s) (fun s=>s) (fun s k=>s.length≤k) (fun s k hk hs=>by
  have iK:k < 2 * l.length:=by rw [mz] at hk; exact hk
  refine ⟨LR hN l s k hl (by omega) iK hk,?_⟩
  have:=sa (lt:=BL) (0,0) (eJ l)[k] s
  omega) (fun s _=>by
  have hw:wrap .i64 (2 * (l.length:Int))=((2 * l.length:Nat):Int):=by rw [ki (by omega)]; omega
  rw [mz]
  simp only [tv,List.length_map,hw,bJ,cond_false,KQ,KR,Bool.and_true,cond_true,Option.bind_some]) N [] 0 (Nat.zero_le _) (by unfold e7 at hN; rw [mz]; omega) (Nat.le_refl _)
 have qH:aN (tv N l) N ([],0)=_:=key
 have z:((bif (allFit (fits fI) ([]:List AV)&&true) then some ((map mr ([]:List AV)),0) else none:Option (qO × Int)).bind fun Fi=>some Fi)=some ([],0):=rfl
 rw [z,Option.bind_some,qH,List.drop_zero,Option.bind_some]
 simp only [KQ,KR,Bool.and_true,cond_true] <;> rfl
section
variable (F st:List XA) (hn:st.length=F.length) (hF:F.length≤2000000)
include hn hF
end
end
end Go.Proofs.YtldcljfjjoidhaaGreatDoor
namespace Go.Proofs.YtldcljfjjoidhaaGreatDoor
open Go Go.Am Go.Sort
open List (map)
open Int (toNat)
open Go.IntKind (wrap)
open Go.Am.aO (fits)
set_option maxRecDepth 100000
theorem uw (p:Int × Int):bp p=0↔(-100000≤p.1∧p.1≤100000∧-100000≤p.2∧p.2≤100000)∧(p.1+p.2) % 2=0:=by
 unfold bp
 constructor
 ·intro h
  split at h
  ·simp at h
  ·split at h
   ·omega
   ·simp at h
 ·rintro ⟨h1,h2⟩
  rw [if_neg (by omega),if_pos h2]
theorem j7 {b:aQ} (h:gz b=0):bp (eP b)=0∧(b.2.2=-1∨b.2.2=1)∧bp (fD b)=0:=by
 unfold gz at h
 by_cases h0:bp (eP b)=0
 ·rw [if_neg (by simp [h0])] at h
  by_cases h1:b.2.2≠-1∧b.2.2≠1
  ·rw [if_pos h1] at h; simp at h
  ·rw [if_neg h1] at h
   exact ⟨h0,by omega,h⟩
 ·rw [if_pos h0] at h
  exact absurd h h0
theorem si (a b:aQ):ltOf fL a b=less a b:=by
 have h1:=Di 0 a b
 have h2:=Aa 0 a b
 rw [h1] at h2
 exact Option.some.inj h2
theorem pu {α:Type} {lt:α→α→Bool} (hw:SWO lt) {l:List α} (h:vq lt l):l.Nodup:=by
 refine List.Pairwise.imp ?_ h
 intro a b RL e
 subst e
 rw [hw.1 a] at RL
 cases RL
theorem Fo {l:List aQ} {k:Int × Int}:k∈eJ l↔∃ b∈l,k=eP b∨k=fD b:=by
 induction l with
 | nil=>simp [eJ]
 | cons b l ih=>
  simp only [eJ,List.mem_cons,ih]
  constructor
  ·rintro (h | h | ⟨d,hd,h⟩)
   ·exact ⟨b,.inl rfl,.inl h⟩
   ·exact ⟨b,.inl rfl,.inr h⟩
   ·exact ⟨d,.inr hd,h⟩
  ·rintro ⟨d,rfl | hd,h | h⟩
   ·exact .inl h
   ·exact .inr (.inl h)
   ·exact .inr (.inr ⟨d,hd,.inl h⟩)
   ·exact .inr (.inr ⟨d,hd,.inr h⟩)
theorem xY {l:List aQ} {k:Int × Int}:k∈cU l↔∃ b∈l,k=eP b∨k=fD b:=by
 rw [← Fo]
 exact (mw PZ Ui (0,0) (eJ l)).2 k
theorem qI (l:List aQ):(cU l).length≤2 * l.length:=by
 rw [← mz]
 unfold cU Bl
 have:∀ (l a:List XA),(l.foldl (fun s k=>mu BL (0,0) k s) a).length≤l.length+a.length:=by
  intro l
  induction l with
  | nil=>intro a; simp
  | cons x l ih=>
   intro a
   have h1:=ih (mu BL (0,0) x a)
   have h2:=sa (lt:=BL) (0,0) x a
   rw [List.foldl_cons,List.length_cons]
   omega
 exact this (eJ l) []
section
variable {N:Nat} (hN:e7 N)
include hN
theorem Gu (l:List aQ) (hl:l.length≤1000000) (b:aQ):Uk N (l,b)=some (decide (b∈l)):=by
 have q:=oM (rd:=xV N l b) l.length (fun k=>(k:Int)) (fun k=>decide (l.getD k (0,0,0)=b)) (fun _=>Sum.inl true) (Sum.inr ()) (fun k hk=>by
  obtain ⟨a1,a2⟩:=eF l hk
  have e:l.getD k (0,0,0)=l[k]:=by simp [hk]
  rw [e]
  simp only [xV,List.length_map,Int.toNat_natCast,a1,a2,aX hk,ay hk,Bool.and_self,cond_true,bN (show k < 9223372036854775807 by omega),LL]
  by_cases h:l[k]=b <;> simp [h]) (by
  simp only [xV,List.length_map,bJ,cond_false]) N (by unfold e7 at hN; omega)
 have q':aN (xV N l b) N 0=_:=q
 rw [Ul,q',Option.bind_some]
 by_cases h:b∈l
 ·obtain ⟨k,hk,e⟩:=List.getElem_of_mem h
  cases hf:(List.range l.length).find? fun k=>decide (l.getD k (0,0,0)=b) with
  | none=>
   have:=List.find?_eq_none.1 hf k (List.mem_range.2 hk)
   simp [hk,e] at this
  | some j=>simp [h]
 ·cases hf:(List.range l.length).find? fun k=>decide (l.getD k (0,0,0)=b) with
  | none=>simp [h]
  | some j=>
   have h1:=List.find?_some hf
   have h2:=List.mem_range.1 (List.mem_of_find?_eq_some hf)
   have e:l.getD j (0,0,0)=l[j]:=by simp [h2]
   rw [e] at h1
   have:l[j]=b:=of_decide_eq_true h1
   exact absurd (this ▸ List.getElem_mem h2) h
def hM (l:List aQ):List (XA × Bool):=l.foldl (fun m b=>nK (fD b) true m) []
end
end Go.Proofs.YtldcljfjjoidhaaGreatDoor
