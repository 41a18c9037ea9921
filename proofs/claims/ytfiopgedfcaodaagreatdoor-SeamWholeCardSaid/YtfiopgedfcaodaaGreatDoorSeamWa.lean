/- Plain laws: what the law of the whole asks of the net: bars that it has,bars that touch,degrees. -/
import Derived.Test.YtfiopgedfcaodaaGreatDoorSeamTw
import Derived.Test.YtfiopgedfcaodaaGreatDoorSeamKA
set_option linter.all false
namespace Go.Proofs.YtfiopgedfcaodaaGreatDoor
open Go Go.Am
set_option maxRecDepth 100000
theorem Rm {α:Type} {rd:Int→Option (Int ⊕ (Bool ⊕ Unit))} (l:List α) (b:α→Bool) (h:∀ k (hk:k < l.length),rd (k:Int)=some (if b l[k] then .inr (.inl true) else .inl ((k+1:Nat):Int)))
  (h0:rd (l.length:Int)=some (.inr (.inr ()))) (n:Nat) (hn:l.length < n):ak rd n 0=some (if l.any b then .inl true else .inr ()):=by
 have hb:∀ k (hk:k < l.length),((l[k]?.map b).getD false)=b l[k]:=fun k hk=>by rw [List.getElem?_eq_getElem hk]; rfl
 rcases Az (rd:=rd) l.length (fun k=>(l[k]?.map b).getD false) (fun _=>true) (fun k hk=>by rw [h k hk,hb k hk]) h0 n 0 (Nat.zero_le _) (by omega) with ⟨j,_,h2,h3,h4⟩ | ⟨h1,h2⟩
 ·rw [hb j h2] at h3
  have:l.any b=true:=List.any_eq_true.2 ⟨_,List.getElem_mem h2,h3⟩
  rw [this,if_pos rfl]; exact h4
 ·have:l.any b=false:=by
   rw [List.any_eq_false]
   intro x hx
   obtain ⟨j,hj,rfl⟩:=List.getElem_of_mem hx
   have:=h1 j (Nat.zero_le _) hj
   rw [hb j hj] at this
   rw [this]; simp
  rw [this]; exact h2
theorem MD (a b:P3):(a.1 == b.1&&(a.2.1 == b.2.1&&(a.2.2 == b.2.2&&true)))=decide (a=b):=by
 rw [Bool.eq_iff_iff]
 simp [Prod.ext_iff]
theorem DX {N:Nat} (hN:cU N) (l:List P3) (b:P3) (hl:l.length≤1000000):F4 N (l,b)=some (decide (b∈l)):=by
 rw [Q2]
 have key:=Rm (rd:=sH N l b) l (fun x=>decide (x=b)) (fun k hk=>by
  obtain ⟨a1,a2⟩:=iH l hk
  simp only [sH,List.length_map,Int.toNat_natCast,ax hk,an hk,a1,a2,Bool.and_self,cond_true,MD,aN (show k < 9223372036854775807 by omega)]
  by_cases h:l[k]=b <;> simp [h]) (by simp only [sH,List.length_map,aJ,cond_false]) N (by unfold cU at hN; omega)
 have gR:ak (sH N l b) N 0=_:=key
 rw [gR,Option.bind_some]
 by_cases h:b∈l
 ·have:(l.any fun x=>decide (x=b))=true:=List.any_eq_true.2 ⟨b,h,by simp⟩
  simp [this,h]
 ·have:(l.any fun x=>decide (x=b))=false:=by
   rw [List.any_eq_false]
   intro x hx e
   exact h ((of_decide_eq_true e) ▸ hx)
  simp [this,h]
theorem ME (a b:Int × Int):(a.1 == b.1&&(a.2 == b.2&&true))=decide (a=b):=by
 rw [Bool.eq_iff_iff]
 simp [Prod.ext_iff]
def q9 (a b:P3):Bool:=decide (dO a=dO b) || decide (dO a=cY b) || decide (cY a=dO b) || decide (cY a=cY b)
theorem MF (N:Nat) (a b:P3):Mh N (a,b)=some (q9 a b):=by
 rw [Q4]
 have e1:sE N (a.1,a.2.1,a.2.2)=some (dO a):=sO N a
 have e2:sE N (b.1,b.2.1,b.2.2)=some (dO b):=sO N b
 have e3:sF N (a.1,a.2.1,a.2.2)=some (cY a):=sP N a
 have e4:sF N (b.1,b.2.1,b.2.2)=some (cY b):=sP N b
 simp only [e1,e2,e3,e4,Option.bind_some,beq_self_eq_true,Bool.and_self,cond_true,ME]
 unfold q9
 by_cases h1:dO a=dO b
 ·simp [h1]
 ·by_cases h2:dO a=cY b
  ·simp [h1,h2]
  ·by_cases h3:cY a=dO b
   ·simp [h1,h2,h3]
   ·simp [h1,h2,h3]
def DY (l:List P3) (k:Int × Int):Nat:=(l.filter fun b=>decide (dO b=k) || decide (cY b=k)).length
theorem Rn {N:Nat} (hN:cU N) (l:List P3) (k:Int × Int) (hl:l.length≤1000000):T68 N (l,k)=some (DY l k:Int):=by
 rw [Vv]
 have key:=bD (rd:=yt N l k) l (fun (s:Nat) i=>((s:Int),(i:Int))) (fun s b=>if decide (dO b=k) || decide (cY b=k) then s+1 else s) (fun s=>(s:Int)) (fun s i=>s≤i)
  (fun s i hi hP=>by
   obtain ⟨a1,a2⟩:=iH l hi
   have e2:sE N (l[i].1,l[i].2.1,l[i].2.2)=some (dO l[i]):=sO N l[i]
   have e4:sF N (l[i].1,l[i].2.1,l[i].2.2)=some (cY l[i]):=sP N l[i]
   simp only [yt,List.length_map,Int.toNat_natCast,ax hi,an hi,a1,a2,Bool.and_self,cond_true,e2,e4,Option.bind_some,beq_self_eq_true,ME,aN (show i < 9223372036854775807 by omega),aN (show s < 9223372036854775807 by omega)]
   by_cases h1:dO l[i]=k
   ·simp [h1]; omega
   ·by_cases h2:cY l[i]=k
    ·simp [h1,h2]; omega
    ·simp [h1,h2]; omega) (fun s _=>by
   simp only [yt,List.length_map,aJ,cond_false]) N 0 0 (Nat.zero_le _) (by unfold cU at hN; omega) (Nat.le_refl _)
 rw [List.drop_zero] at key
 have gR:ak (yt N l k) N (0,0)=_:=key
 rw [gR,Option.bind_some]
 have gen:∀ (l:List P3) (s:Nat),l.foldl (fun s b=>if decide (dO b=k) || decide (cY b=k) then s+1 else s) s=s+DY l k:=by
  intro l
  induction l with
  | nil=>intro s; rfl
  | cons b l ih=>
   intro s
   rw [List.foldl_cons,ih]
   unfold DY
   rw [List.filter_cons]
   split
   ·simp; omega
   ·rfl
 rw [gen,Nat.zero_add]
theorem BU (l:List P3) (b:P3):List.map n120 l++[AV.agg [AV.int .i64 b.1,AV.int .i64 b.2.1,AV.int .i64 b.2.2]]=List.map n120 (l++[b]):=by rw [List.map_append]; rfl
def vj (b:P3) (o:List P3) (x:P3):List P3:=if q9 b x=true∧x∉o then o++[x] else o
theorem vR (b:P3):∀ (l:List P3) (o:List P3),∃ t,l.foldl (vj b) o=o++t
 | [],o=>⟨[],(List.append_nil o).symm⟩
 | x :: l,o=>by
  obtain ⟨t,ht⟩:=vR b l (vj b o x)
  rw [List.foldl_cons,ht]
  unfold vj
  split
  ·exact ⟨[x]++t,by rw [List.append_assoc]⟩
  ·exact ⟨t,rfl⟩
theorem Ro {N:Nat} (hN:cU N) (l o0:List P3) (i:Nat) (hi:i < o0.length) (hl:l.length≤100000) (ho:o0.length≤100000):ak (mu N l (o0,(i:Int))) N (o0,0)=some (l.foldl (vj o0[i]) o0):=by
 have key:=bD (rd:=mu N l (o0,(i:Int))) l (fun (o:List P3) k=>(o,(k:Int))) (vj o0[i]) (fun o=>o) (fun o k=>o.length≤o0.length+k∧k≤l.length∧∃ t,o=o0++t)
  (fun o k hk hP=>by
   obtain ⟨p1,p2,t,rfl⟩:=hP
   obtain ⟨a1,a2⟩:=iH l hk
   have rk:i < (o0++t).length:=by rw [List.length_append]; omega
   obtain ⟨b1,b2⟩:=iH (o0++t) rk
   have eb:(o0++t)[i]=o0[i]:=by rw [List.getElem_append_left hi]
   rw [eb] at b1
   have hT:Mh N ((o0[i].1,o0[i].2.1,o0[i].2.2),(l[k].1,l[k].2.1,l[k].2.2))=some (q9 o0[i] l[k]):=MF N o0[i] l[k]
   have hH:F4 N (o0++t,(l[k].1,l[k].2.1,l[k].2.2))=some (decide (l[k]∈o0++t)):=DX hN (o0++t) l[k] (by omega)
   have cb:decide (((o0++t).length+1) * 24≤140737488355328)=true:=decide_eq_true (by omega)
   have ci:decide ((0:Int)≤(i:Int)∧(i:Int) < ((o0++t).length:Int))=true:=an rk
   constructor
   ·generalize hO:o0++t=O at *
    simp only [mu,List.length_map,Int.toNat_natCast,ax hk,an hk,ci,a1,a2,b1,b2,Bool.and_self,cond_true,hT,Option.bind_some,eN,eO,Bool.and_true,hH,decide_true,cb,BU,aN (show k < 9223372036854775807 by omega)]
    unfold vj
    by_cases h1:q9 o0[i] l[k]=true
    ·by_cases h2:l[k]∈O
     ·simp [h1,h2]
     ·simp [h1,h2]
      rw [cb]
      rfl
    ·have mO:q9 o0[i] l[k]=false:=by simpa using h1
     simp [mO]
   ·unfold vj
    split
    ·exact ⟨by rw [List.length_append,List.length_singleton]; omega,by omega,t++[l[k]],by rw [List.append_assoc]⟩
    ·exact ⟨by omega,by omega,t,rfl⟩) (fun o _=>by
   simp only [mu,List.length_map,aJ,cond_false,eN,eO,Bool.and_true,cond_true,Option.bind_some,decide_true]) N o0 0 (Nat.zero_le _) (by unfold cU at hN; omega) ⟨by omega,Nat.zero_le _,[],(List.append_nil _).symm⟩
 rw [List.drop_zero] at key
 exact key
theorem VJ (b:P3) {l:List P3} {o:List P3} (ho:o.Nodup∧∀ x∈o,x∈l) {x:P3} (hx:x∈l):(vj b o x).Nodup∧∀ y∈vj b o x,y∈l:=by
 unfold vj
 split
 ·rename_i h
  refine ⟨?_,fun y hy=>?_⟩
  ·rw [List.nodup_append]
   refine ⟨ho.1,by simp,fun a ha c hc=>?_⟩
   rw [List.mem_singleton] at hc
   subst hc
   intro e
   subst e
   exact h.2 ha
  ·rcases List.mem_append.1 hy with hy | hy
   ·exact ho.2 y hy
   ·rw [List.mem_singleton] at hy; subst hy; exact hx
 ·exact ho
theorem sQ (b:P3) {l:List P3}:∀ (m o:List P3),(o.Nodup∧∀ x∈o,x∈l)→(∀ x∈m,x∈l)→(m.foldl (vj b) o).Nodup∧∀ y∈m.foldl (vj b) o,y∈l
 | [],_,ho,_=>ho
 | x :: m,o,ho,hm=>sQ b m (vj b o x) (VJ b ho (hm x List.mem_cons_self)) fun y hy=>hm y (List.mem_cons_of_mem _ hy)
def yX (l:List P3):Nat→List P3→Nat→List P3
 | 0,o,_=>o
 | n+1,o,i=>if h:i < o.length then yX l n (l.foldl (vj o[i]) o) (i+1) else o
theorem gB {α:Type} [DecidableEq α]:∀ (o l:List α),o.Nodup→(∀ x∈o,x∈l)→o.length≤l.length
 | [],_,_,_=>Nat.zero_le _
 | x :: o,l,hn,h=>by
  have hx:=h x List.mem_cons_self
  obtain ⟨Gu,ZT⟩:=List.nodup_cons.1 hn
  have:=gB o (l.erase x) ZT fun y hy=>by
   have cL:y≠x:=fun e=>Gu (e ▸ hy)
   exact (List.mem_erase_of_ne cL).2 (h y (List.mem_cons_of_mem _ hy))
  rw [List.length_erase_of_mem hx] at this
  have pQ:=List.length_pos_of_mem hx
  rw [List.length_cons]
  omega
theorem MG {N:Nat} (hN:cU N) (l:List P3) (hl:l.length≤100000) (n:Nat):∀ (o:List P3) (i M:Nat),(o.Nodup∧∀ x∈o,x∈l)→i≤o.length→l.length≤n+i→n < M→ak (nB N l) M (o,(i:Int))=some (yX l n o i):=by
 induction n with
 | zero=>
  intro o i M ho hi hn hM
  obtain ⟨M,rfl⟩:∃ M',M=M'+1:=⟨M - 1,by omega⟩
  have hlen:=gB o l ho.1 ho.2
  have e:i=o.length:=by omega
  subst e
  rw [bt]
  simp only [nB,List.length_map,aJ,cond_false,eN,eO,Bool.and_true,cond_true,Option.bind_some,decide_true,Sum.elim_inr]
  rfl
 | succ n ih=>
  intro o i M ho hi hn hM
  obtain ⟨M,rfl⟩:∃ M',M=M'+1:=⟨M - 1,by omega⟩
  have hlen:=gB o l ho.1 ho.2
  rw [bt]
  by_cases h:i < o.length
  ·have hR:=Ro hN l o i h hl (by omega)
   have step:nB N l (o,(i:Int))=some (.inl (l.foldl (vj o[i]) o,((i+1:Nat):Int))):=by
    simp only [nB,List.length_map,ax h,cond_true,eN,eO,Bool.and_true,Option.bind_some,decide_true]
    rw [hR,Option.bind_some]
    simp only [eN,eO,cond_true,Option.bind_some,decide_true,aN (show i < 9223372036854775807 by omega)]
   rw [step,Option.bind_some,Sum.elim_inl]
   obtain ⟨t,ht⟩:=vR o[i] l o
   rw [ih _ _ M (sQ o[i] l o ho fun x hx=>hx) (by rw [ht,List.length_append]; omega) (by omega) (by omega)]
   rw [yX,dif_pos h]
  ·have e:i=o.length:=by omega
   subst e
   simp only [nB,List.length_map,aJ,cond_false,eN,eO,Bool.and_true,cond_true,Option.bind_some,decide_true,Sum.elim_inr]
   rw [yX,dif_neg h]
end Go.Proofs.YtfiopgedfcaodaaGreatDoor
