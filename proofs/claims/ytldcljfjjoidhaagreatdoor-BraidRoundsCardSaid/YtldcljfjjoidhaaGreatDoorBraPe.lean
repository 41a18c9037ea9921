/- Plain laws: a net in order,each bar once (reference). -/
import Derived.Test.YtldcljfjjoidhaaGreatDoorBraPd
import Derived.Test.YtldcljfjjoidhaaGreatDoorBraV
import Derived.Test.YtldcljfjjoidhaaGreatDoorAmKL
import Derived.Test.YtldcljfjjoidhaaGreatDoorBraLp
set_option linter.all false
namespace Go.Proofs.YtldcljfjjoidhaaGreatDoor
open Go Go.Am Go.Sort
open List (map)
open Int (toNat)
open Go.IntKind (wrap)
open Go.Am.aT (fits)
set_option maxRecDepth 100000
theorem Dv {V X:Type} {rd:V→Option (V ⊕ X)} (m:Nat) (E:Nat→V) (b:Nat→Bool) (y:Nat→X) (x:X)
  (h:∀ k,k < m→rd (E k)=some (if b k then .inr (y k) else .inl (E (k+1)))) (h0:rd (E m)=some (.inr x)) (n:Nat) (hn:m < n) :
  aG rd n (E 0)=some (match (List.range m).find? b with | some j=>y j | none=>x):=by
 have key:=kE (rd:=rd) (S:=Unit) (Y:=Nat) (List.range m) (fun _ k=>E k) (fun _ i=>if b i then .inr i else .inl ()) (fun _=>x) y (fun _ _=>True)
  (fun s k hk _=>by
   have hk:k < m:=by simpa using hk
   refine ⟨?_,fun _ _=>trivial⟩
   rw [List.getElem_range,h k hk]
   cases b k <;> rfl) (fun _ _=>by rw [List.length_range]; exact h0) n () 0 (Nat.zero_le _) (by simpa using hn) trivial
 rw [List.drop_zero] at key
 refine key.trans (congrArg some ?_)
 clear key h h0 hn
 generalize List.range m=l
 induction l with
 | nil=>rfl
 | cons a l ih=>
  simp only [foldI,List.find?_cons]
  cases b a with
  | true=>rfl
  | false=>simp only [Bool.false_eq_true,if_false,Sum.elim_inl]; exact ih
theorem Mg (a b:dM):(a.1 == b.1&&(a.2.1 == b.2.1&&(a.2.2 == b.2.2&&true)))=decide (a=b):=by
 rw [Bool.eq_iff_iff]
 simp [Prod.ext_iff]
theorem Dw (N:Nat) (a b:dM):SU N (a,b)=some ((ltOf kL) a b):=by
 rw [Md,tz]
 by_cases h1:a.2.1=b.2.1
 ·by_cases h2:a.1=b.1
  ·simp [h1,h2]
  ·have hb:(a.1 != b.1)=true:=bne_iff_ne.2 h2
   simp [h1,h2,hb]
 ·have hb:(a.2.1 != b.2.1)=true:=bne_iff_ne.2 h1
  simp [h1,hb]
theorem FC (l:List dM) (a b:Nat):eF a b (map ae l)=map ae ((l.take b).drop a):=by simp [eF,List.map_take,List.map_drop]
section
variable {N:Nat} (hN:fB N)
include hN
theorem V9 (l s:List dM) (i:Nat) (hi:i < l.length) (hl:l.length≤1000000) (hs:s.length≤2000000):aG (mz N l (s,(i:Int))) N 0=some ((s.takeWhile fun x=>(ltOf kL) x l[i]).length:Int):=by
 obtain ⟨z1,z2⟩:=jM l hi
 have q:=Dv (rd:=mz N l (s,(i:Int))) s.length (fun k=>(k:Int)) (fun k=>!(ltOf kL) (s.getD k (0,0,0)) l[i]) (fun k=>(k:Int)) (s.length:Int) (fun k hk=>by
  obtain ⟨a1,a2⟩:=jM s hk
  have e:s.getD k (0,0,0)=s[k]:=by simp [hk]
  rw [e]
  have hb:SU N ((s[k].1,s[k].2.1,s[k].2.2),(l[i].1,l[i].2.1,l[i].2.2))=some ((ltOf kL) s[k] l[i]):=Dw N s[k] l[i]
  simp only [mz,List.length_map,Int.toNat_natCast,a1,a2,z1,z2,bf hk,aO hk,aO hi,Bool.and_self,cond_true,bA (show k < 9223372036854775807 by omega),hb,Option.bind_some]
  cases (ltOf kL) s[k] l[i] <;> rfl) (by
  simp only [mz,List.length_map,bt,cond_false,Option.bind_some]) N (by unfold fB at hN; omega)
 have q':aG (mz N l (s,(i:Int))) N 0=_:=q
 rw [q']
 have:=Qu s (fun x=>(ltOf kL) x l[i]) (0,0,0)
 rw [← this]
 cases (List.range s.length).find? fun j=>!(ltOf kL) (s.getD j (0,0,0)) l[i] <;> rfl
theorem Mh (l:List dM) (s:List dM) (k:Nat) (hl:l.length≤1000000) (hs:s.length≤2000000) (hk:k < l.length):tA N l (s,(k:Int))=some (.inl (qS (ltOf kL) (0,0,0) l[k] s,((k+1:Nat):Int))):=by
 obtain ⟨a1,a2⟩:=jM l hk
 have nO:=V9 hN l s k hk hl hs
 have hle:(s.takeWhile fun x=>(ltOf kL) x l[k]).length≤s.length:=(List.takeWhile_sublist _).length_le
 unfold qS
 simp only
 generalize (s.takeWhile fun x=>(ltOf kL) x l[k]).length=a at *
 generalize l[k]=o at *
 have hc:((bif ((a:Int) == (s.length:Int)) then some true else bif (decide ((0:Int)≤(a:Int)∧(a:Int) < (s.length:Int))&&fits aw (af (map ae s) a)) then some (!(((ak (af (map ae s) a)).1 == o.1)&&(((ak (af (map ae s) a)).2.1 == o.2.1)&&(((ak (af (map ae s) a)).2.2 == o.2.2)&&true)))) else none):Option Bool)=some (decide (a=s.length∨s.getD a (0,0,0)≠o)):=by
  by_cases h:a=s.length
  ·have hb:((a:Int) == (s.length:Int))=true:=by simp [h]
   rw [hb]; simp [h]
  ·have yM:a < s.length:=by omega
   obtain ⟨b1,b2⟩:=jM s yM
   have hb:((a:Int) == (s.length:Int))=false:=beq_false_of_ne (by omega)
   have e:s.getD a (0,0,0)=s[a]:=by simp [yM]
   rw [hb,b1,b2,aO yM,e,Mg]
   simp only [Bool.and_self,cond_true,cond_false]
   congr 1
   simp [h]
 have c1:decide ((0:Int)≤(a:Int)∧(a:Int)≤(s.length:Int))=true:=decide_eq_true (by omega)
 have ht:(List.take a s).length=a:=by rw [List.length_take]; omega
 have hbn:∀ x:Nat,x≤4000000→decide (x * 24≤140737488355328)=true:=fun x hx=>decide_eq_true (by omega)
 have z0:∀ x:List dM,[AV.agg [AV.int .i64 o.1,AV.int .i64 o.2.1,AV.int .i64 o.2.2]]++map ae x=map ae ([o]++x):=fun x=>rfl
 have z1:∀ x y:List dM,(map ae x++[AV.agg [AV.int .i64 o.1,AV.int .i64 o.2.1,AV.int .i64 o.2.2]])++map ae y=map ae (x++[o]++y):=fun x y=>by rw [List.map_append,List.map_append]; rfl
 simp only [tA,List.length_map,bf hk,Int.toNat_natCast,a1,a2,aO hk,Bool.and_self,cond_true,Option.bind_some,nO,hc]
 by_cases hi:a=s.length∨s.getD a (0,0,0)≠o
 ·rw [if_pos hi]
  simp only [hi,decide_true,cond_true,c1,Bool.and_self,Bool.and_true,FC,List.drop_zero,List.take_length,beq_self_eq_true]
  by_cases h0:a=0
  ·subst h0
   simp only [List.take_zero,List.map_nil,List.isEmpty_nil,cond_true,List.nil_append,List.length_singleton,List.length_map,List.length_drop,decide_true,hbn (1+s.length) (by omega),Bool.and_self,z0,cQ,cM,Option.bind_some,List.drop_zero,Bool.and_true,bA (show k < 9223372036854775807 by omega)]
  ·have cP:List.isEmpty (map ae (List.take a s))=false:=by
    cases hd:List.take a s with
    | nil=>rw [hd] at ht; simp at ht; omega
    | cons x y=>rfl
   simp only [cP,cond_false,List.nil_append,List.length_append,List.length_singleton,List.length_map,List.length_drop,ht,Nat.zero_add,hbn a (by omega),hbn (a+1) (by omega),hbn (a+1+(s.length - a)) (by omega),decide_true,cond_true,Bool.and_self,z1,cQ,cM,Option.bind_some,Bool.and_true,bA (show k < 9223372036854775807 by omega)]
 ·rw [if_neg hi]
  simp only [hi,decide_false,cond_false,cQ,cM,Bool.and_true,cond_true,Option.bind_some,bA (show k < 9223372036854775807 by omega)]
theorem Q8 (l:List dM) (hl:l.length≤1000000):ZF N l=some (Bt (ltOf kL) (0,0,0) l):=by
 rw [VV]
 have key:=ls (rd:=tA N l) l (fun s k=>(s,(k:Int))) (fun s k=>qS (ltOf kL) (0,0,0) k s) (fun s=>s) (fun s k=>s.length≤k∧k≤l.length) (fun s k hk hs=>by
  refine ⟨Mh hN l s k hl (by omega) hk,?_⟩
  have:=Dp (lt:=(ltOf kL)) (0,0,0) l[k] s
  omega) (fun s _=>by
  simp only [tA,List.length_map,bt,cond_false,cQ,cM,Bool.and_true,cond_true,Option.bind_some]) N [] 0 (Nat.zero_le _) (by unfold fB at hN; omega) ⟨Nat.le_refl _,Nat.zero_le _⟩
 have lQ:aG (tA N l) N ([],0)=_:=key
 have z:((bif (allFit (fits aw) ([]:List AV)&&true) then some ((map ak ([]:List AV)),0) else none:Option ((List dM) × Int)).bind fun Ip=>some Ip)=some ([],0):=rfl
 rw [z,Option.bind_some,lQ,List.drop_zero,Option.bind_some]
 simp only [cQ,cM,cond_true]
 rfl
end
end Go.Proofs.YtldcljfjjoidhaaGreatDoor
