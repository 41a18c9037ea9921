/- Plain laws: a net in order,each bar once. -/
import Derived.Test.YtfiopgedfcaodaaGreatDoorSeamWa
set_option linter.all false
namespace Go.Proofs.YtfiopgedfcaodaaGreatDoor
open Go Go.Am
set_option maxRecDepth 100000
theorem Ga (l:List P3) (a b:Nat):df a b (List.map n120 l)=List.map n120 ((l.take b).drop a):=by simp [df,List.map_take,List.map_drop]
section
variable {N:Nat} (hN:cU N)
include hN
theorem Rp (l s:List P3) (i:Nat) (hi:i < l.length) (hl:l.length≤1000000) (hs:s.length≤2000000):ak (j9 N l (s,(i:Int))) N 0=some ((s.takeWhile fun x=>less x l[i]).length:Int):=by
 obtain ⟨z1,z2⟩:=iH l hi
 have q:=yA (rd:=j9 N l (s,(i:Int))) s.length (fun k=>(k:Int)) (fun k=>!less (s.getD k (0,0,0)) l[i]) (fun k=>(k:Int)) (s.length:Int) (fun k hk=>by
  obtain ⟨a1,a2⟩:=iH s hk
  have e:s.getD k (0,0,0)=s[k]:=by simp [hk]
  rw [e]
  have hb:F1 N ((s[k].1,s[k].2.1,s[k].2.2),(l[i].1,l[i].2.1,l[i].2.2))=some (less s[k] l[i]):=AF N s[k] l[i]
  simp only [j9,List.length_map,Int.toNat_natCast,a1,a2,z1,z2,ax hk,an hk,an hi,Bool.and_self,cond_true,aN (show k < 9223372036854775807 by omega),hb,Option.bind_some]
  cases less s[k] l[i] <;> rfl) (by
  simp only [j9,List.length_map,aJ,cond_false,Option.bind_some]) N (by unfold cU at hN; omega)
 have q':ak (j9 N l (s,(i:Int))) N 0=_:=q
 rw [q']
 have:=HA s (fun x=>less x l[i]) (0,0,0)
 rw [← this]
 cases (List.range s.length).find? fun j=>!less (s.getD j (0,0,0)) l[i] <;> rfl
theorem I9 (l:List P3) (s:List P3) (k:Nat) (hl:l.length≤1000000) (hs:s.length≤2000000) (hk:k < l.length):pH N l (s,(k:Int))=some (.inl (mw less (0,0,0) l[k] s,((k+1:Nat):Int))):=by
 obtain ⟨a1,a2⟩:=iH l hk
 have mD:=Rp hN l s k hk hl hs
 have hle:(s.takeWhile fun x=>less x l[k]).length≤s.length:=(List.takeWhile_sublist _).length_le
 unfold mw
 simp only
 generalize (s.takeWhile fun x=>less x l[k]).length=a at *
 generalize l[k]=o at *
 have hc:((bif ((a:Int) == (s.length:Int)) then some true else bif (decide ((0:Int)≤(a:Int)∧(a:Int) < (s.length:Int))&&aA.fits dH (ab (List.map n120 s) a)) then some (!(((d120 (ab (List.map n120 s) a)).1 == o.1)&&(((d120 (ab (List.map n120 s) a)).2.1 == o.2.1)&&(((d120 (ab (List.map n120 s) a)).2.2 == o.2.2)&&true)))) else none):Option Bool)=some (decide (a=s.length∨s.getD a (0,0,0)≠o)):=by
  by_cases h:a=s.length
  ·have hb:((a:Int) == (s.length:Int))=true:=by simp [h]
   rw [hb]; simp [h]
  ·have GQ:a < s.length:=by omega
   obtain ⟨b1,b2⟩:=iH s GQ
   have hb:((a:Int) == (s.length:Int))=false:=beq_false_of_ne (by omega)
   have e:s.getD a (0,0,0)=s[a]:=by simp [GQ]
   rw [hb,b1,b2,an GQ,e,MD]
   simp only [Bool.and_self,cond_true,cond_false]
   congr 1
   simp [h]
 have c1:decide ((0:Int)≤(a:Int)∧(a:Int)≤(s.length:Int))=true:=decide_eq_true (by omega)
 have ht:(List.take a s).length=a:=by rw [List.length_take]; omega
 have Rj:∀ x:Nat,x≤4000000→decide (x * 24≤140737488355328)=true:=fun x hx=>decide_eq_true (by omega)
 have z0:∀ x:List P3,[AV.agg [AV.int .i64 o.1,AV.int .i64 o.2.1,AV.int .i64 o.2.2]]++List.map n120 x=List.map n120 ([o]++x):=fun x=>rfl
 have z1:∀ x y:List P3,(List.map n120 x++[AV.agg [AV.int .i64 o.1,AV.int .i64 o.2.1,AV.int .i64 o.2.2]])++List.map n120 y=List.map n120 (x++[o]++y):=fun x y=>by rw [List.map_append,List.map_append]; rfl
 simp only [pH,List.length_map,ax hk,Int.toNat_natCast,a1,a2,an hk,Bool.and_self,cond_true,Option.bind_some,mD,hc]
 by_cases hi:a=s.length∨s.getD a (0,0,0)≠o
 ·rw [if_pos hi]
  simp only [hi,decide_true,cond_true,c1,Bool.and_self,Bool.and_true,Ga,List.drop_zero,List.take_length,beq_self_eq_true]
  by_cases h0:a=0
  ·subst h0
   simp only [List.take_zero,List.map_nil,List.isEmpty_nil,cond_true,List.nil_append,List.length_singleton,List.length_map,List.length_drop,decide_true,Rj (1+s.length) (by omega),Bool.and_self,z0,eN,eO,Option.bind_some,List.drop_zero,Bool.and_true,aN (show k < 9223372036854775807 by omega)]
  ·have cL:List.isEmpty (List.map n120 (List.take a s))=false:=by
    cases hd:List.take a s with
    | nil=>rw [hd] at ht; simp at ht; omega
    | cons x y=>rfl
   simp only [cL,cond_false,List.nil_append,List.length_append,List.length_singleton,List.length_map,List.length_drop,ht,Nat.zero_add,Rj a (by omega),Rj (a+1) (by omega),Rj (a+1+(s.length - a)) (by omega),decide_true,cond_true,Bool.and_self,z1,eN,eO,Option.bind_some,Bool.and_true,aN (show k < 9223372036854775807 by omega)]
 ·rw [if_neg hi]
  simp only [hi,decide_false,cond_false,eN,eO,Bool.and_true,cond_true,Option.bind_some,aN (show k < 9223372036854775807 by omega)]
theorem MH (l:List P3) (hl:l.length≤1000000):Q5 N l=some (yC less (0,0,0) l):=by
 rw [Q7]
 have key:=bD (rd:=pH N l) l (fun s k=>(s,(k:Int))) (fun s k=>mw less (0,0,0) k s) (fun s=>s) (fun s k=>s.length≤k∧k≤l.length) (fun s k hk hs=>by
  refine ⟨I9 hN l s k hl (by omega) hk,?_⟩
  have:=sN (lt:=less) (0,0,0) l[k] s
  omega) (fun s _=>by
  simp only [pH,List.length_map,aJ,cond_false,eN,eO,Bool.and_true,cond_true,Option.bind_some]) N [] 0 (Nat.zero_le _) (by unfold cU at hN; omega) ⟨Nat.le_refl _,Nat.zero_le _⟩
 have gR:ak (pH N l) N ([],0)=_:=key
 have z:((bif (allFit (aA.fits dH) ([]:List AV)&&true) then some ((List.map d120 ([]:List AV)),0) else none:Option ((List P3) × Int)).bind fun uJ=>some uJ)=some ([],0):=rfl
 rw [z,Option.bind_some,gR,List.drop_zero,Option.bind_some]
 simp only [eN,eO,cond_true]
 rfl
theorem Ja (l:List P3) (b:P3) (hb:b∈l) (hl:l.length≤100000):Mi N (l,b)=some (yC less (0,0,0) (yX l l.length [b] 0)):=by
 rw [Q9]
 have ho:([b]:List P3).Nodup∧∀ x∈[b],x∈l:=⟨by simp,fun x hx=>by rw [List.mem_singleton] at hx; subst hx; exact hb⟩
 have hR:=MG hN l hl l.length [b] 0 N ho (by simp) (by omega) (by unfold cU at hN; omega)
 have hR':ak (nB N l) N ([b],0)=_:=hR
 have z:(((bif (allFit (aA.fits dH) [(AV.agg [(AV.int .i64 b.1),(AV.int .i64 b.2.1),(AV.int .i64 b.2.2)])]&&true) then some ((List.map d120 [(AV.agg [(AV.int .i64 b.1),(AV.int .i64 b.2.1),(AV.int .i64 b.2.2)])]),0) else none:Option ((List P3) × Int)).bind fun IY=>bif (decide (1=(List.map n120 IY.1).length)&&true) then some IY else none):Option ((List P3) × Int))=some ([b],0):=by
  have e:[(AV.agg [(AV.int .i64 b.1),(AV.int .i64 b.2.1),(AV.int .i64 b.2.2)])]=List.map n120 [b]:=rfl
  rw [e,eN,eO]; rfl
 have hlen:(yX l l.length [b] 0).length≤1000000:=by
  have gen:∀ (n:Nat) (o:List P3) (i:Nat),(o.Nodup∧∀ x∈o,x∈l)→(yX l n o i).length≤l.length:=by
   intro n
   induction n with
   | zero=>intro o i h; exact gB o l h.1 h.2
   | succ n ih=>
    intro o i h
    rw [yX]
    split
    ·exact ih _ _ (sQ _ l o h fun x hx=>hx)
    ·exact gB o l h.1 h.2
  have:=gen l.length [b] 0 ho
  omega
 rw [z,Option.bind_some,hR',Option.bind_some]
 simp only [eN,eO,Bool.and_true,cond_true,Option.bind_some,MH hN _ hlen]
end
end Go.Proofs.YtfiopgedfcaodaaGreatDoor
