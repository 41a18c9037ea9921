/- Plain laws: what is reached by touching,and the parts of a net (reference). -/
import Derived.Test.YtldcljfjjoidhaaGreatDoorSeamKC
import Derived.Test.YtldcljfjjoidhaaGreatDoorBraY
import Derived.Test.YtldcljfjjoidhaaGreatDoorBraLp
set_option linter.all false
namespace Go.Proofs.YtldcljfjjoidhaaGreatDoor
open Go Go.Am Go.Sort
open List (map)
open Int (toNat)
open Go.IntKind (wrap)
open Go.Am.aO (fits)
set_option maxRecDepth 100000
theorem L4 (a b:Int × Int):(a.1 == b.1&&(a.2 == b.2&&true))=decide (a=b):=by
 rw [Bool.eq_iff_iff]
 simp [Prod.ext_iff]
def kU (a b:aQ):Bool:=decide (eP a=eP b) || decide (eP a=fD b) || decide (fD a=eP b) || decide (fD a=fD b)
theorem L5 (N:Nat) (a b:aQ):L0 N (a,b)=some (kU a b):=by
 rw [Qn]
 have e1:sd N (a.1,a.2.1,a.2.2)=some (eP a):=sf N a
 have e2:sd N (b.1,b.2.1,b.2.2)=some (eP b):=sf N b
 have e3:se N (a.1,a.2.1,a.2.2)=some (fD a):=sh N a
 have e4:se N (b.1,b.2.1,b.2.2)=some (fD b):=sh N b
 simp only [e1,e2,e3,e4,Option.bind_some,beq_self_eq_true,Bool.and_self,cond_true,L4]
 unfold kU
 by_cases h1:eP a=eP b
 ·simp [h1]
 ·by_cases h2:eP a=fD b
  ·simp [h1,h2]
  ·by_cases h3:fD a=eP b
   ·simp [h1,h2,h3]
   ·simp [h1,h2,h3]
def jN (l:List aQ) (k:Int × Int):Nat:=(l.filter fun b=>decide (eP b=k) || decide (fD b=k)).length
theorem Qq {N:Nat} (hN:e7 N) (l:List aQ) (k:Int × Int) (hl:l.length≤1000000):Yl N (l,k)=some (jN l k:Int):=by
 rw [US]
 have key:=dh (rd:=yg N l k) l (fun (s:Nat) i=>((s:Int),(i:Int))) (fun s b=>if decide (eP b=k) || decide (fD b=k) then s+1 else s) (fun s=>(s:Int)) (fun s i=>s≤i)
  (fun s i hi hP=>by
   obtain ⟨a1,a2⟩:=eF l hi
   have e2:sd N (l[i].1,l[i].2.1,l[i].2.2)=some (eP l[i]):=sf N l[i]
   have e4:se N (l[i].1,l[i].2.1,l[i].2.2)=some (fD l[i]):=sh N l[i]
   simp only [yg,List.length_map,Int.toNat_natCast,aX hi,ay hi,a1,a2,Bool.and_self,cond_true,e2,e4,Option.bind_some,beq_self_eq_true,L4,bN (show i < 9223372036854775807 by omega),bN (show s < 9223372036854775807 by omega)]
   by_cases h1:eP l[i]=k
   ·simp [h1]; omega
   ·by_cases h2:fD l[i]=k
    ·simp [h1,h2]; omega
    ·simp [h1,h2]; omega) (fun s _=>by
   simp only [yg,List.length_map,bJ,cond_false]) N 0 0 (Nat.zero_le _) (by unfold e7 at hN; omega) (Nat.le_refl _)
 rw [List.drop_zero] at key
 have qH:aN (yg N l k) N (0,0)=_:=key
 rw [qH,Option.bind_some]
 have gen:∀ (l:List aQ) (s:Nat),l.foldl (fun s b=>if decide (eP b=k) || decide (fD b=k) then s+1 else s) s=s+jN l k:=by
  intro l
  induction l with
  | nil=>intro s; rfl
  | cons b l ih=>
   intro s
   rw [List.foldl_cons,ih]
   unfold jN
   rw [List.filter_cons]
   split
   ·simp; omega
   ·rfl
 rw [gen,Nat.zero_add]
def uR (b:aQ) (o:List aQ) (x:aQ):List aQ:=if kU b x=true∧x∉o then o++[x] else o
theorem vw (b:aQ):∀ (l:List aQ) (o:List aQ),∃ t,l.foldl (uR b) o=o++t
 | [],o=>⟨[],(List.append_nil o).symm⟩
 | x :: l,o=>by
  obtain ⟨t,ht⟩:=vw b l (uR b o x)
  rw [List.foldl_cons,ht]
  unfold uR
  split
  ·exact ⟨[x]++t,by rw [List.append_assoc]⟩
  ·exact ⟨t,rfl⟩
theorem Qr {N:Nat} (hN:e7 N) (l o0:List aQ) (i:Nat) (hi:i < o0.length) (hl:l.length≤100000) (ho:o0.length≤100000):aN (mA N l (o0,(i:Int))) N (o0,0)=some (l.foldl (uR o0[i]) o0):=by
 have key:=dh (rd:=mA N l (o0,(i:Int))) l (fun (o:List aQ) k=>(o,(k:Int))) (uR o0[i]) (fun o=>o) (fun o k=>o.length≤o0.length+k∧k≤l.length∧∃ t,o=o0++t)
  (fun o k hk hP=>by
   obtain ⟨p1,p2,t,rfl⟩:=hP
   obtain ⟨a1,a2⟩:=eF l hk
   have qM:i < (o0++t).length:=by rw [List.length_append]; omega
   obtain ⟨b1,b2⟩:=eF (o0++t) qM
   have eb:(o0++t)[i]=o0[i]:=by rw [List.getElem_append_left hi]
   rw [eb] at b1
   have hT:L0 N ((o0[i].1,o0[i].2.1,o0[i].2.2),(l[k].1,l[k].2.1,l[k].2.2))=some (kU o0[i] l[k]):=L5 N o0[i] l[k]
   have hH:Uk N (o0++t,(l[k].1,l[k].2.1,l[k].2.2))=some (decide (l[k]∈o0++t)):=Gu hN (o0++t) (by omega) l[k]
   have cb:decide (((o0++t).length+1) * 24≤140737488355328)=true:=decide_eq_true (by omega)
   have ci:decide ((0:Int)≤(i:Int)∧(i:Int) < ((o0++t).length:Int))=true:=ay qM
   constructor
   ·generalize hO:o0++t=O at *
    simp only [mA,List.length_map,Int.toNat_natCast,aX hk,ay hk,ci,a1,a2,b1,b2,Bool.and_self,cond_true,hT,Option.bind_some,cn,cj,Bool.and_true,hH,decide_true,cb,sb,bN (show k < 9223372036854775807 by omega)]
    unfold uR
    by_cases h1:kU o0[i] l[k]=true
    ·by_cases h2:l[k]∈O
     ·simp [h1,h2]
     ·simp [h1,h2]
      rw [cb]
      rfl
    ·have sO:kU o0[i] l[k]=false:=by simpa using h1
     simp [sO]
   ·unfold uR
    split
    ·exact ⟨by rw [List.length_append,List.length_singleton]; omega,by omega,t++[l[k]],by rw [List.append_assoc]⟩
    ·exact ⟨by omega,by omega,t,rfl⟩) (fun o _=>by
   simp only [mA,List.length_map,bJ,cond_false,cn,cj,Bool.and_true,cond_true,Option.bind_some,decide_true]) N o0 0 (Nat.zero_le _) (by unfold e7 at hN; omega) ⟨by omega,Nat.zero_le _,[],(List.append_nil _).symm⟩
 rw [List.drop_zero] at key
 exact key
theorem U4 (b:aQ) {l:List aQ} {o:List aQ} (ho:o.Nodup∧∀ x∈o,x∈l) {x:aQ} (hx:x∈l):(uR b o x).Nodup∧∀ y∈uR b o x,y∈l:=by
 unfold uR
 split
 ·rename_i h
  refine ⟨?_,fun y hy=>?_⟩
  ·rw [List.nodup_append]
   refine ⟨ho.1,by simp,fun a ha c hc=>?_⟩
   rw [List.mem_singleton] at hc
   subst hc
   intro e
   subst e
   exact h.2 ha
  ·rcases List.mem_append.1 hy with hy | hy
   ·exact ho.2 y hy
   ·rw [List.mem_singleton] at hy; subst hy; exact hx
 ·exact ho
theorem sr (b:aQ) {l:List aQ}:∀ (m o:List aQ),(o.Nodup∧∀ x∈o,x∈l)→(∀ x∈m,x∈l)→(m.foldl (uR b) o).Nodup∧∀ y∈m.foldl (uR b) o,y∈l
 | [],_,ho,_=>ho
 | x :: m,o,ho,hm=>sr b m (uR b o x) (U4 b ho (hm x List.mem_cons_self)) fun y hy=>hm y (List.mem_cons_of_mem _ hy)
def vx (l:List aQ):Nat→List aQ→Nat→List aQ
 | 0,o,_=>o
 | n+1,o,i=>if h:i < o.length then vx l n (l.foldl (uR o[i]) o) (i+1) else o
theorem e9 {α:Type} [DecidableEq α]:∀ (o l:List α),o.Nodup→(∀ x∈o,x∈l)→o.length≤l.length
 | [],_,_,_=>Nat.zero_le _
 | x :: o,l,hn,h=>by
  have hx:=h x List.mem_cons_self
  obtain ⟨Fz,YT⟩:=List.nodup_cons.1 hn
  have:=e9 o (l.erase x) YT fun y hy=>by
   have cm:y≠x:=fun e=>Fz (e ▸ hy)
   exact (List.mem_erase_of_ne cm).2 (h y (List.mem_cons_of_mem _ hy))
  rw [List.length_erase_of_mem hx] at this
  have mR:=List.length_pos_of_mem hx
  rw [List.length_cons]
  omega
theorem L6 {N:Nat} (hN:e7 N) (l:List aQ) (hl:l.length≤100000) (n:Nat):∀ (o:List aQ) (i M:Nat),(o.Nodup∧∀ x∈o,x∈l)→i≤o.length→l.length≤n+i→n < M→aN (nA N l) M (o,(i:Int))=some (vx l n o i):=by
 induction n with
 | zero=>
  intro o i M ho hi hn hM
  obtain ⟨M,rfl⟩:∃ M',M=M'+1:=⟨M - 1,by omega⟩
  have hlen:=e9 o l ho.1 ho.2
  have e:i=o.length:=by omega
  subst e
  rw [a6]
  simp only [nA,List.length_map,bJ,cond_false,cn,cj,Bool.and_true,cond_true,Option.bind_some,decide_true,Sum.elim_inr]
  rfl
 | succ n ih=>
  intro o i M ho hi hn hM
  obtain ⟨M,rfl⟩:∃ M',M=M'+1:=⟨M - 1,by omega⟩
  have hlen:=e9 o l ho.1 ho.2
  rw [a6]
  by_cases h:i < o.length
  ·have hR:=Qr hN l o i h hl (by omega)
   have step:nA N l (o,(i:Int))=some (.inl (l.foldl (uR o[i]) o,((i+1:Nat):Int))):=by
    simp only [nA,List.length_map,aX h,cond_true,cn,cj,Bool.and_true,Option.bind_some,decide_true]
    rw [hR,Option.bind_some]
    simp only [cn,cj,cond_true,Option.bind_some,decide_true,bN (show i < 9223372036854775807 by omega)]
   rw [step,Option.bind_some,Sum.elim_inl]
   obtain ⟨t,ht⟩:=vw o[i] l o
   rw [ih _ _ M (sr o[i] l o ho fun x hx=>hx) (by rw [ht,List.length_append]; omega) (by omega) (by omega)]
   rw [vx,dif_pos h]
  ·have e:i=o.length:=by omega
   subst e
   simp only [nA,List.length_map,bJ,cond_false,cn,cj,Bool.and_true,cond_true,Option.bind_some,decide_true,Sum.elim_inr]
   rw [vx,dif_neg h]
section
variable {N:Nat} (hN:e7 N)
include hN
theorem Ia (l:List aQ) (b:aQ) (hb:b∈l) (hl:l.length≤100000):L3 N (l,b)=some (Bl (ltOf fL) (0,0,0) (vx l l.length [b] 0)):=by
 rw [Qp]
 have ho:([b]:List aQ).Nodup∧∀ x∈[b],x∈l:=⟨by simp,fun x hx=>by rw [List.mem_singleton] at hx; subst hx; exact hb⟩
 have hR:=L6 hN l hl l.length [b] 0 N ho (by simp) (by omega) (by unfold e7 at hN; omega)
 have hR':aN (nA N l) N ([b],0)=_:=hR
 have z:(((bif (allFit (fits au) [(AV.agg [(AV.int .i64 b.1),(AV.int .i64 b.2.1),(AV.int .i64 b.2.2)])]&&true) then some ((map ak [(AV.agg [(AV.int .i64 b.1),(AV.int .i64 b.2.1),(AV.int .i64 b.2.2)])]),0) else none:Option ((List aQ) × Int)).bind fun RS=>bif (decide (1=(map ae RS.1).length)&&true) then some RS else none):Option ((List aQ) × Int))=some ([b],0):=by
  have e:[(AV.agg [(AV.int .i64 b.1),(AV.int .i64 b.2.1),(AV.int .i64 b.2.2)])]=map ae [b]:=rfl
  rw [e,cn,cj]; rfl
 have hlen:(vx l l.length [b] 0).length≤1000000:=by
  have gen:∀ (n:Nat) (o:List aQ) (i:Nat),(o.Nodup∧∀ x∈o,x∈l)→(vx l n o i).length≤l.length:=by
   intro n
   induction n with
   | zero=>intro o i h; exact e9 o l h.1 h.2
   | succ n ih=>
    intro o i h
    rw [vx]
    split
    ·exact ih _ _ (sr _ l o h fun x hx=>hx)
    ·exact e9 o l h.1 h.2
  have:=gen l.length [b] 0 ho
  omega
 rw [z,Option.bind_some,hR',Option.bind_some]
 simp only [cn,cj,Bool.and_true,cond_true,Option.bind_some,Qd hN _ hlen]
end
theorem Qs (C:List (List aQ)) {k:Nat} (hk:k < C.length):dR (aj (map aG C) k)=C[k]∧fits cG (aj (map aG C) k)=true:=by
 have h:=gM aG C k hk
 rw [h]
 exact ⟨(aO.bC cG C[k] rfl).2,(aO.bC cG C[k] rfl).1⟩
theorem L7 (s:List (List aQ)) (l:List aQ):map aG s++[AV.list .jP 3 (map ae l)]=map aG (s++[l]):=by
 rw [List.map_append]
 rfl
def gN (l:List aQ) (b:aQ):List aQ:=Bl (ltOf fL) (0,0,0) (vx l l.length [b] 0)
def qK (l:List aQ) (P:List (List aQ)) (b:aQ):List (List aQ):=if (P.any fun p=>decide (b∈p))=true then P else P++[gN l b]
section
variable {N:Nat} (hN:e7 N)
include hN
theorem U5 (l:List aQ) (P:List (List aQ)) (i:Nat) (hi:i < l.length) (hP:P.length≤100000) (hp:∀ p∈P,p.length≤1000000):aN (km N l (P,(i:Int))) N (P,false,0)=some (P,P.any fun p=>decide (l[i]∈p)):=by
 obtain ⟨z1,z2⟩:=eF l hi
 have key:=dh (rd:=km N l (P,(i:Int))) P (fun (s:Bool) k=>(P,s,(k:Int))) (fun s p=>s || decide (l[i]∈p)) (fun s=>(P,s)) (fun _ _=>True)
  (fun s k hk _=>by
   obtain ⟨a1,a2⟩:=Qs P hk
   have hH:Uk N (P[k],(l[i].1,l[i].2.1,l[i].2.2))=some (decide (l[i]∈P[k])):=Gu hN P[k] (hp _ (List.getElem_mem hk)) l[i]
   refine ⟨?_,trivial⟩
   cases s with
   | true=>simp only [km,List.length_map,Int.toNat_natCast,aX hk,cond_true,ir,iu,Bool.and_true,Option.bind_some,decide_true,Bool.true_or,bN (show k < 9223372036854775807 by omega)]
   | false=>simp only [km,List.length_map,Int.toNat_natCast,aX hk,ay hk,ay hi,a1,a2,z1,z2,cond_true,cond_false,Bool.and_self,cn,cj,ir,iu,Bool.and_true,Option.bind_some,hH,decide_true,Bool.false_or,bN (show k < 9223372036854775807 by omega)]) (fun s _=>by
   simp only [km,List.length_map,bJ,cond_false,ir,iu,Bool.and_true,cond_true,Option.bind_some,decide_true]) N false 0 (Nat.zero_le _) (by unfold e7 at hN; omega) trivial
 rw [List.drop_zero] at key
 have gen:∀ (P:List (List aQ)) (s:Bool),P.foldl (fun s p=>s || decide (l[i]∈p)) s=(s || P.any fun p=>decide (l[i]∈p)):=by
  intro P
  induction P with
  | nil=>intro s; simp
  | cons p P ih=>intro s; rw [List.foldl_cons,ih,List.any_cons,Bool.or_assoc]
 rw [gen,Bool.false_or] at key
 exact key
theorem Ib (l:List aQ) (hl:l.length≤100000):Yj N l=some (l.foldl (qK l) []):=by
 have Vo:∀ b∈l,(gN l b).length≤100000:=fun b hb=>by
  have ho:([b]:List aQ).Nodup∧∀ x∈[b],x∈l:=⟨by simp,fun x hx=>by rw [List.mem_singleton] at hx; subst hx; exact hb⟩
  have gen:∀ (n:Nat) (o:List aQ) (i:Nat),(o.Nodup∧∀ x∈o,x∈l)→(vx l n o i).length≤l.length:=by
   intro n
   induction n with
   | zero=>intro o i h; exact e9 o l h.1 h.2
   | succ n ih=>
    intro o i h
    rw [vx]
    split
    ·exact ih _ _ (sr _ l o h fun x hx=>hx)
    ·exact e9 o l h.1 h.2
  have g2:∀ (m s:List aQ),(m.foldl (fun s k=>mu (ltOf fL) (0,0,0) k s) s).length≤s.length+m.length:=by
   intro m
   induction m with
   | nil=>intro s; simp
   | cons x m ih=>
    intro s
    have h1:=ih (mu (ltOf fL) (0,0,0) x s)
    have h2:=sa (lt:=ltOf fL) (0,0,0) x s
    rw [List.foldl_cons,List.length_cons]
    omega
  have h4:=gen l.length [b] 0 ho
  have h5:(Bl (ltOf fL) (0,0,0) (vx l l.length [b] 0)).length≤([]:List aQ).length+(vx l l.length [b] 0).length:=g2 (vx l l.length [b] 0) []
  unfold gN
  simp only [List.length_nil] at h5
  omega
 rw [UQ]
 have key:=dh (rd:=yf N l) l (fun (P:List (List aQ)) k=>(P,(k:Int))) (qK l) (fun P=>P) (fun P k=>P.length≤k∧k≤l.length∧∀ p∈P,p.length≤100000)
  (fun P k hk hP=>by
   obtain ⟨p1,p2,p3⟩:=hP
   obtain ⟨a1,a2⟩:=eF l hk
   have hR:=U5 hN l P k hk (by omega) fun p hp=>by have:=p3 p hp; omega
   have hT:L3 N (l,(l[k].1,l[k].2.1,l[k].2.2))=some (gN l l[k]):=Ia hN l l[k] (List.getElem_mem hk) hl
   have cb:decide ((P.length+1) * 24≤140737488355328)=true:=decide_eq_true (by omega)
   constructor
   ·unfold qK
    simp only [yf,List.length_map,Int.toNat_natCast,aX hk,ay hk,a1,a2,Bool.and_self,cond_true,ir,iu,cn,cj,Bool.and_true,Option.bind_some,decide_true]
    rw [hR,Option.bind_some]
    cases hA:P.any fun p=>decide (l[k]∈p) with
    | true=>simp only [Bool.not_true,cond_false,ir,iu,cond_true,Option.bind_some,decide_true,if_true,bN (show k < 9223372036854775807 by omega)]
    | false=>
     simp only [Bool.not_false,cond_true,hT,Option.bind_some,cb,L7,ir,iu,List.length_append,List.length_singleton,decide_true,Bool.false_eq_true,if_false,bN (show k < 9223372036854775807 by omega)]
     rfl
   ·unfold qK
    split
    ·exact ⟨by omega,by omega,p3⟩
    ·refine ⟨by rw [List.length_append,List.length_singleton]; omega,by omega,fun p hp=>?_⟩
     rcases List.mem_append.1 hp with hp | hp
     ·exact p3 p hp
     ·rw [List.mem_singleton] at hp
      subst hp
      exact Vo _ (List.getElem_mem hk)) (fun P _=>by
   simp only [yf,List.length_map,bJ,cond_false,ir,iu,Bool.and_true,cond_true,Option.bind_some,decide_true]) N [] 0 (Nat.zero_le _) (by unfold e7 at hN; omega) ⟨Nat.le_refl _,Nat.zero_le _,fun p hp=>by cases hp⟩
 rw [List.drop_zero] at key
 have qH:aN (yf N l) N ([],0)=_:=key
 have z:(((bif (allFit (fits cG) ([]:List AV)&&true) then some ((map dR ([]:List AV)),0) else none:Option ((List (List aQ)) × Int)).bind fun H8=>bif (decide (0=(map aG H8.1).length)&&true) then some H8 else none):Option ((List (List aQ)) × Int))=some ([],0):=rfl
 rw [z,Option.bind_some,qH,Option.bind_some]
 simp only [ir,iu,cond_true]
end
inductive Gy (l:List aQ) (b:aQ):aQ→Prop
 | base:Gy l b b
 | step {x y:aQ}:Gy l b x→y∈l→kU x y=true→Gy l b y
theorem yk (b:aQ) (m o:List aQ) {x:aQ} (hx:x∈o):x∈m.foldl (uR b) o:=by
 obtain ⟨t,ht⟩:=vw b m o
 rw [ht]
 exact List.mem_append_left _ hx
theorem Gz (b:aQ):∀ (m o:List aQ) (y:aQ),y∈m→kU b y=true→y∈m.foldl (uR b) o
 | [],_,_,h,_=>by cases h
 | x :: m,o,y,h,ht=>by
  rw [List.foldl_cons]
  rcases List.mem_cons.1 h with rfl | h
  ·refine yk b m _ ?_
   unfold uR
   by_cases hy:y∈o
   ·rw [if_neg (fun h=>h.2 hy)]; exact hy
   ·rw [if_pos ⟨ht,hy⟩]; simp
  ·exact Gz b m _ y h ht
theorem Dk (l:List aQ):∀ (n:Nat) (o:List aQ) (i:Nat),(o.Nodup∧∀ x∈o,x∈l)→i≤o.length→l.length≤n+i→(∀ j (hj:j < o.length),j < i→∀ y∈l,kU o[j] y=true→y∈o) →
  (∀ x∈o,x∈vx l n o i)∧∀ x∈vx l n o i,∀ y∈l,kU x y=true→y∈vx l n o i
 | 0,o,i,ho,hi,hn,hc=>by
  have hlen:=e9 o l ho.1 ho.2
  refine ⟨fun x hx=>hx,fun x hx y hy ht=>?_⟩
  have pE:x∈o:=hx
  obtain ⟨j,hj,rfl⟩:=List.getElem_of_mem pE
  exact hc j hj (by omega) y hy ht
 | n+1,o,i,ho,hi,hn,hc=>by
  rw [vx]
  by_cases h:i < o.length
  ·rw [dif_pos h]
   obtain ⟨t,ht⟩:=vw o[i] l o
   have hlen:o.length≤(l.foldl (uR o[i]) o).length:=by rw [ht,List.length_append]; omega
   have ih:=Dk l n (l.foldl (uR o[i]) o) (i+1) (sr o[i] l o ho fun x hx=>hx) (by omega) (by omega) (fun j hj Ym y hy htc=>by
    have hjo:j < o.length:=by omega
    have e:(l.foldl (uR o[i]) o)[j]=o[j]:=by
     have:(l.foldl (uR o[i]) o)[j]?=o[j]?:=by rw [ht,List.getElem?_append_left hjo]
     rw [List.getElem?_eq_getElem hj,List.getElem?_eq_getElem hjo] at this
     exact Option.some.inj this
    rw [e] at htc
    by_cases hjj:j < i
    ·exact yk o[i] l o (hc j hjo hjj y hy htc)
    ·have:j=i:=by omega
     subst this
     exact Gz o[j] l o y hy htc)
   exact ⟨fun x hx=>ih.1 x (yk o[i] l o hx),ih.2⟩
  ·rw [dif_neg h]
   refine ⟨fun x hx=>hx,fun x hx y hy ht=>?_⟩
   obtain ⟨j,hj,rfl⟩:=List.getElem_of_mem hx
   exact hc j hj (by omega) y hy ht
theorem GA (l:List aQ) (c b:aQ) (hb:Gy l c b):∀ (m o:List aQ),(∀ x∈m,x∈l)→(∀ x∈o,Gy l c x)→∀ x∈m.foldl (uR b) o,Gy l c x
 | [],_,_,ho=>ho
 | x :: m,o,hm,ho=>by
  refine GA l c b hb m (uR b o x) (fun y hy=>hm y (List.mem_cons_of_mem _ hy)) fun y hy=>?_
  unfold uR at hy
  split at hy
  ·rename_i h
   rcases List.mem_append.1 hy with hy | hy
   ·exact ho y hy
   ·rw [List.mem_singleton] at hy
    subst hy
    exact .step hb (hm _ List.mem_cons_self) h.1
  ·exact ho y hy
theorem GB (l:List aQ) (c:aQ):∀ (n:Nat) (o:List aQ) (i:Nat),(∀ x∈o,Gy l c x)→∀ x∈vx l n o i,Gy l c x
 | 0,_,_,ho=>ho
 | n+1,o,i,ho=>by
  rw [vx]
  by_cases h:i < o.length
  ·rw [dif_pos h]
   exact GB l c n _ _ (GA l c o[i] (ho _ (List.getElem_mem h)) l o (fun x hx=>hx) ho)
  ·rw [dif_neg h]; exact ho
theorem Qt (l:List aQ) (b:aQ) (hb:b∈l) (x:aQ):x∈vx l l.length [b] 0↔Gy l b x:=by
 have ho:([b]:List aQ).Nodup∧∀ x∈[b],x∈l:=⟨by simp,fun x hx=>by rw [List.mem_singleton] at hx; subst hx; exact hb⟩
 obtain ⟨d1,p0⟩:=Dk l l.length [b] 0 ho (by simp) (by omega) (fun j _ h=>absurd h (by omega))
 constructor
 ·exact fun h=>GB l b l.length [b] 0 (fun y hy=>by rw [List.mem_singleton] at hy; subst hy; exact .base) x h
 ·intro h
  induction h with
  | base=>exact d1 b (by simp)
  | step _ hy ht ih=>exact p0 _ ih _ hy ht
theorem ko (l:List aQ) (b:aQ) (hb:b∈l) (x:aQ):x∈gN l b↔Gy l b x:=by
 unfold gN
 rw [(mw tq HZ (0,0,0) (vx l l.length [b] 0)).2,Qt l b hb]
theorem Ic (a b:aQ):kU a b=kU b a:=by
 unfold kU
 have e1:decide (eP a=eP b)=decide (eP b=eP a):=by rw [decide_eq_decide]; exact eq_comm
 have e2:decide (eP a=fD b)=decide (fD b=eP a):=by rw [decide_eq_decide]; exact eq_comm
 have e3:decide (fD a=eP b)=decide (eP b=fD a):=by rw [decide_eq_decide]; exact eq_comm
 have e4:decide (fD a=fD b)=decide (fD b=fD a):=by rw [decide_eq_decide]; exact eq_comm
 rw [e1,e2,e3,e4]
 cases decide (eP b=eP a) <;> cases decide (fD b=eP a) <;> cases decide (eP b=fD a) <;> cases decide (fD b=fD a) <;> rfl
theorem Gy.Yn {l:List aQ} {a b:aQ} (ha:a∈l) (h:Gy l a b):b∈l:=by
 cases h with
 | base=>exact ha
 | step _ hy _=>exact hy
end Go.Proofs.YtldcljfjjoidhaaGreatDoor
namespace Go.Proofs.YtldcljfjjoidhaaGreatDoor
open Go Go.Am Go.Sort
open List (map)
open Int (toNat)
open Go.IntKind (wrap)
open Go.Am.aO (fits)
set_option maxRecDepth 100000
theorem px {V X:Type} {rd:V→Option (V ⊕ X)} (P:V→Prop) (μ:V→Nat) (Q:X→Prop)
  (h:∀ v,P v→(∃ v',rd v=some (.inl v')∧P v'∧μ v' < μ v)∨∃ x,rd v=some (.inr x)∧Q x):∀ n v,P v→μ v < n→∃ x,aN rd n v=some x∧Q x
 | 0,_,_,hm=>by omega
 | n+1,v,hP,hm=>by
  rw [a6]
  rcases h v hP with ⟨v',e,hP',hl⟩ | ⟨x,e,hQ⟩
  ·rw [e]
   exact px P μ Q h n v' hP' (by omega)
  ·rw [e]
   exact ⟨x,rfl,hQ⟩
theorem cX {l:List aQ} (h:dH l=0):l.length≤4096∧(∀ b∈l,gz b=0)∧vq (ltOf fL) l:=by
 unfold dH at h
 by_cases hl:l.length > 4096
 ·rw [if_pos hl] at h; simp at h
 ·rw [if_neg hl] at h
  have hz:∀ k,k < l.length→Bn l k=0:=fun k hk=>nt.1 h _ (List.mem_map.2 ⟨k,List.mem_range.2 hk,rfl⟩)
  have hb:∀ k (hk:k < l.length),gz l[k]=0:=fun k hk=>by
   have:=hz k hk
   unfold Bn at this
   have e1:l.getD k (0,0,0)=l[k]:=by simp [hk]
   rw [e1] at this
   by_cases hc:gz l[k]=0
   ·exact hc
   ·rw [if_pos hc] at this; exact absurd this hc
  have hs:∀ k (hk:k+1 < l.length),ltOf fL l[k] l[k+1]=true:=fun k hk=>by
   have:=hz (k+1) hk
   unfold Bn at this
   have e1:l.getD (k+1) (0,0,0)=l[k+1]:=by simp [hk]
   have e2:l.getD (k+1 - 1) (0,0,0)=l[k]:=by simp [show k < l.length by omega]
   rw [e1,e2,if_neg (by simp [hb (k+1) hk])] at this
   rw [si]
   cases hc:less l[k] l[k+1] with
   | true=>rfl
   | false=>rw [if_pos ⟨by omega,hc⟩] at this; simp at this
  refine ⟨by omega,fun b iS=>by obtain ⟨k,hk,rfl⟩:=List.getElem_of_mem iS; exact hb k hk,?_⟩
  refine List.pairwise_iff_getElem.2 fun i j hi hj Iy=>?_
  obtain ⟨d,rfl⟩:∃ d,j=i+1+d:=⟨j - i - 1,by omega⟩
  clear Iy
  induction d with
  | zero=>exact hs i hj
  | succ d ih=>exact tq.trans _ _ _ (ih (by omega)) (hs (i+1+d) hj)
theorem Dl {l:List aQ} (h:vq (ltOf fL) l) {i j:Nat} (hi:i < l.length) (hj:j < l.length) (Iy:i≤j):l[i].2.1≤l[j].2.1:=by
 by_cases e:i=j
 ·subst e; exact Int.le_refl _
 ·have:=List.pairwise_iff_getElem.1 h i j hi hj (by omega)
  rw [to] at this
  have:=of_decide_eq_true this
  omega
def iw (b:aQ):Int:=if b.1+b.2.2 < b.1 then b.1+b.2.2 else b.1
theorem GC {b:aQ} (h:gz b=0):-100001≤iw b∧iw b≤100000:=by
 obtain ⟨c1,c2,c3⟩:=j7 h
 have:=fX c1
 unfold eP at this
 simp only at this
 unfold iw
 split <;> omega
theorem Qu (N:Nat) {b:aQ} (h:gz b=0):X9 N b=some (iw b):=by
 obtain ⟨c1,c2,c3⟩:=j7 h
 have:=fX c1
 unfold eP at this
 simp only at this
 rw [UC,ki (by omega)]
 rfl
theorem Qv (N:Nat) {b:aQ} (h:gz b=0):Yf N b=some (iw b):=by
 obtain ⟨c1,c2,c3⟩:=j7 h
 have:=fX c1
 unfold eP at this
 simp only at this
 rw [UN,ki (by omega)]
 rfl
theorem L8 {a b:aQ} (ha:gz a=0) (hb:gz b=0) (hy:a.2.1=b.2.1) (h:iw a=iw b):a=b:=by
 obtain ⟨a1,a2,a3⟩:=j7 ha
 obtain ⟨b1,b2,b3⟩:=j7 hb
 have ea:=((uw _).1 a1).2
 have eb:=((uw _).1 b1).2
 unfold eP at ea eb
 simp only at ea eb
 unfold iw at h
 obtain ⟨x,y,s⟩:=a
 obtain ⟨x',y',s'⟩:=b
 simp only at *
 subst hy
 rcases a2 with rfl | rfl <;> rcases b2 with rfl | rfl
 ·rw [if_pos (by omega),if_pos (by omega)] at h
  have:x=x':=by omega
  subst this; rfl
 ·rw [if_pos (by omega),if_neg (by omega)] at h
  omega
 ·rw [if_neg (by omega),if_pos (by omega)] at h
  omega
 ·rw [if_neg (by omega),if_neg (by omega)] at h
  subst h; rfl
def bK (l:List aQ) (y:Int):List Int:=(l.filter fun b=>b.2.1 == y).map iw
theorem Dm {l:List aQ} (h:dH l=0) (y:Int):(bK l y).Nodup:=by
 obtain ⟨h1,h2,h3⟩:=cX h
 have hn:l.Nodup:=pu tq h3
 unfold bK List.Nodup
 rw [List.pairwise_map]
 refine List.Pairwise.imp_of_mem ?_ (hn.filter _)
 intro a b ha hb RL e
 have ha:=List.mem_filter.1 ha
 have hb:=List.mem_filter.1 hb
 have ya:a.2.1=y:=by simpa using ha.2
 have yb:b.2.1=y:=by simpa using hb.2
 exact RL (L8 (h2 a ha.1) (h2 b hb.1) (by omega) e)
theorem Dn {l:List aQ} (h:dH l=0) {y x:Int} (hx:x∈bK l y):-100001≤x∧x≤100000:=by
 obtain ⟨b,hb,rfl⟩:=List.mem_map.1 hx
 exact GC ((cX h).2.1 b (List.mem_filter.1 hb).1)
def L9 (s:Int × Int × Int) (x:Int):Int × Int × Int:=(s.1+1,(if x < (if s.1=0 then x else s.2.1) then x else (if s.1=0 then x else s.2.1)),(if x+1 > (if s.1=0 then x+1 else s.2.2) then x+1 else (if s.1=0 then x+1 else s.2.2)))
def kq (c:List Int):Int × Int × Int:=c.foldl L9 (0,0,0)
theorem Ma (c:List Int) (x:Int):kq (c++[x])=L9 (kq c) x:=by unfold kq; rw [List.foldl_append]; rfl
theorem ss (c:List Int):(kq c).1=c.length∧(c≠[]→(kq c).2.1∈c∧(∀ x∈c,(kq c).2.1≤x)∧(kq c).2.2 - 1∈c∧∀ x∈c,x+1≤(kq c).2.2):=by
 have key:∀ k,k≤c.length→(kq (c.take k)).1=k∧(k≠0→(kq (c.take k)).2.1∈c.take k∧(∀ x∈c.take k,(kq (c.take k)).2.1≤x)∧(kq (c.take k)).2.2 - 1∈c.take k∧∀ x∈c.take k,x+1≤(kq (c.take k)).2.2):=by
  intro k
  induction k with
  | zero=>intro _; exact ⟨rfl,fun h=>absurd rfl h⟩
  | succ k ih=>
   intro hk
   have iK:k < c.length:=by omega
   obtain ⟨i1,i2⟩:=ih (by omega)
   have e:c.take (k+1)=c.take k++[c[k]]:=by rw [List.take_add_one,List.getElem?_eq_getElem iK]; rfl
   rw [e,Ma]
   by_cases h0:k=0
   ·subst h0
    refine ⟨by unfold L9; simp only [i1]; rfl,fun _=>?_⟩
    have e0:(kq ([]:List Int)).1=0:=rfl
    unfold L9
    simp only [List.take_zero,List.nil_append,e0,if_true,Int.lt_irrefl,if_false,gt_iff_lt,List.mem_singleton]
    exact ⟨trivial,fun x hx=>by omega,by omega,fun x hx=>by omega⟩
   ·obtain ⟨j1,j2,j3,j4⟩:=i2 h0
    have hz:¬ (kq (c.take k)).1=0:=by rw [i1]; omega
    refine ⟨by unfold L9; simp only [i1]; omega,fun _=>?_⟩
    generalize kq (c.take k)=f at *
    unfold L9
    simp only [hz,if_false]
    refine ⟨?_,?_,?_,?_⟩
    ·split
     ·exact List.mem_append.2 (.inr (List.mem_singleton.2 rfl))
     ·exact List.mem_append.2 (.inl j1)
    ·intro x hx
     rcases List.mem_append.1 hx with hx | hx
     ·have:=j2 x hx
      split <;> omega
     ·rw [List.mem_singleton] at hx
      subst hx
      split <;> omega
    ·split
     ·rw [Int.add_sub_cancel]; exact List.mem_append.2 (.inr (List.mem_singleton.2 rfl))
     ·exact List.mem_append.2 (.inl j3)
    ·intro x hx
     rcases List.mem_append.1 hx with hx | hx
     ·have:=j4 x hx
      split <;> omega
     ·rw [List.mem_singleton] at hx
      subst hx
      split <;> omega
 have:=key c.length (Nat.le_refl _)
 rw [List.take_length] at this
 refine ⟨this.1,fun hc=>this.2 ?_⟩
 intro h0
 exact hc (List.length_eq_zero_iff.1 h0)
def Qw (c:List Int):Prop:=c≠[]∧(kq c).2.2 - (kq c).2.1=c.length
instance (c:List Int):Decidable (Qw c):=inferInstanceAs (Decidable (_∧_))
theorem Ie:∀ a b c:Int,(fun x y:Int=>decide (x≤y)) a b=true→(fun x y:Int=>decide (x≤y)) b c=true→(fun x y:Int=>decide (x≤y)) a c=true:=fun a b c h1 h2=>by
 simp only [decide_eq_true_eq] at *
 omega
theorem Ig:∀ a b:Int,((fun x y:Int=>decide (x≤y)) a b || (fun x y:Int=>decide (x≤y)) b a)=true:=fun a b=>by
 simp only [Bool.or_eq_true,decide_eq_true_eq]
 omega
def eL (c:List Int):List Int:=c.mergeSort fun x y=>decide (x≤y)
theorem su (c:List Int):(eL c).length=c.length:=List.length_mergeSort c
theorem oP (c:List Int) (x:Int):x∈eL c↔x∈c:=List.mem_mergeSort
theorem Qx {c:List Int} (hn:c.Nodup) {i j:Nat} (hj:j < (eL c).length) (Iy:i < j):(eL c)[i] < (eL c)[j]:=by
 have h1:=List.pairwise_iff_getElem.1 (List.pairwise_mergeSort Ie Ig c) i j (by unfold eL at hj; omega) hj Iy
 have h2:(eL c).Nodup:=(List.mergeSort_perm c _).nodup_iff.2 hn
 have h3:=List.pairwise_iff_getElem.1 h2 i j (by omega) hj Iy
 have h1:=of_decide_eq_true h1
 unfold eL at *
 omega
theorem mC {c:List Int} (hn:c.Nodup):∀ (d i:Nat) (h:i+d < (eL c).length),(eL c)[i]+d≤(eL c)[i+d]
 | 0,i,h=>by simp
 | d+1,i,h=>by
  have h1:=mC hn d i (by omega)
  have h2:=Qx hn (i:=i+d) (j:=i+(d+1)) h (by omega)
  omega
theorem Ae {c:List Int} (hn:c.Nodup) (h0:0 < (eL c).length):(eL c)[0]=(kq c).2.1∧(eL c)[(eL c).length - 1]+1=(kq c).2.2:=by
 have hc:c≠[]:=fun h=>by subst h; simp [eL] at h0
 obtain ⟨j1,j2,j3,j4⟩:=(ss c).2 hc
 constructor
 ·have a1:=j2 _ ((oP c _).1 (List.getElem_mem h0))
  obtain ⟨i,hi,e⟩:=List.getElem_of_mem ((oP c _).2 j1)
  have:=mC hn i 0 (by omega)
  simp only [Nat.zero_add] at this
  omega
 ·have hl:(eL c).length - 1 < (eL c).length:=by omega
  have a1:=j4 _ ((oP c _).1 (List.getElem_mem hl))
  obtain ⟨i,hi,e⟩:=List.getElem_of_mem ((oP c _).2 j3)
  have:=mC hn ((eL c).length - 1 - i) i (by omega)
  have e2:i+((eL c).length - 1 - i)=(eL c).length - 1:=by omega
  simp only [e2] at this
  omega
theorem Qy {c:List Int} (hn:c.Nodup) (h0:0 < (eL c).length):Qw c↔∀ k (hk:k < (eL c).length),(eL c)[k]=(eL c)[0]+k:=by
 have hc:c≠[]:=fun h=>by subst h; simp [eL] at h0
 obtain ⟨e1,e2⟩:=Ae hn h0
 have hlen:=su c
 have hl:(eL c).length - 1 < (eL c).length:=by omega
 constructor
 ·rintro ⟨-,h⟩ k hk
  have a1:=mC hn k 0 (by omega)
  have a2:=mC hn ((eL c).length - 1 - k) k (by omega)
  have e3:k+((eL c).length - 1 - k)=(eL c).length - 1:=by omega
  simp only [e3,Nat.zero_add] at a1 a2
  omega
 ·intro h
  refine ⟨hc,?_⟩
  have:=h _ hl
  omega
abbrev eQ:=Int × Int × Int
def cJ (l:List aQ):Int:=(l.getD 0 (0,0,0)).2.1
def tA (l:List aQ):Int:=(l.getD (l.length - 1) (0,0,0)).2.1
def jO (l:List aQ):Nat:=(tA l - cJ l+1).toNat
def pI (l:List aQ) (j:Nat):eQ:=(cJ l+j,(kq (bK l (cJ l+j))).2.1,(kq (bK l (cJ l+j))).2.2)
def sw (l:List aQ):List eQ:=(List.range (jO l)).map (pI l)
def RT (l:List aQ):Prop:=∀ j,j < jO l→Qw (bK l (cJ l+j))
instance (l:List aQ):Decidable (RT l):=inferInstanceAs (Decidable (∀ j,j < jO l→_))
def yl (l:List aQ):List eQ × Int:=if l=[] then ([],12) else if RT l then (sw l,0) else ([],17)
theorem Dp {l:List aQ} (h:dH l=0) {j:Nat} (hj:j < l.length):cJ l≤l[j].2.1∧l[j].2.1≤tA l:=by
 obtain ⟨h1,h2,h3⟩:=cX h
 have e0:l.getD 0 (0,0,0)=l[0]:=by simp [show 0 < l.length by omega]
 have e1:l.getD (l.length - 1) (0,0,0)=l[l.length - 1]:=by simp [show l.length - 1 < l.length by omega]
 unfold cJ tA
 rw [e0,e1]
 exact ⟨Dl h3 (by omega) hj (by omega),Dl h3 hj (by omega) (by omega)⟩
theorem Mb {l:List aQ} (h:dH l=0) (h0:0 < l.length):-100000≤cJ l∧cJ l≤tA l∧tA l≤100000:=by
 obtain ⟨h1,h2,h3⟩:=cX h
 have b:∀ j (hj:j < l.length),-100000≤l[j].2.1∧l[j].2.1≤100000:=fun j hj=>by
  have:=fX (j7 (h2 _ (List.getElem_mem hj))).1
  unfold eP at this
  simp only at this
  omega
 have i0:=Dp h h0
 have e0:l.getD 0 (0,0,0)=l[0]:=by simp [h0]
 have e1:l.getD (l.length - 1) (0,0,0)=l[l.length - 1]:=by simp [show l.length - 1 < l.length by omega]
 have b0:=b 0 h0
 have b1:=b (l.length - 1) (by omega)
 have ef:cJ l=l[0].2.1:=by unfold cJ; rw [e0]
 have el:tA l=l[l.length - 1].2.1:=by unfold tA; rw [e1]
 omega
theorem GD (l:List eQ) {k:Nat} (hk:k < l.length):cW (aj (map aB l) k)=l[k]∧fits fx (aj (map aB l) k)=true:=by
 rw [gM aB l k hk,X6,X5]; exact ⟨rfl,rfl⟩
theorem Mc (l:List eQ) {k:Nat} (hk:k < l.length):cI (aj (map aC l) k)=l[k]∧fits eK (aj (map aC l) k)=true:=by
 rw [gM aC l k hk,X8,X7]; exact ⟨rfl,rfl⟩
theorem Qz (l:List eQ) (x y z:Int):map aB l++[AV.agg [AV.int .i64 x,AV.int .i64 y,AV.int .i64 z]]=map aB (l++[(x,y,z)]):=by rw [List.map_append]; rfl
theorem QA (l:List eQ) (x y z:Int):map aC l++[AV.agg [AV.int .i64 x,AV.int .i64 y,AV.int .i64 z]]=map aC (l++[(x,y,z)]):=by rw [List.map_append]; rfl
section
variable {N:Nat} (hN:e7 N)
include hN
theorem U6 (l:List aQ) (h:dH l=0) (acc:List eQ) (y:Int):aN (il N l (acc,y)) N (acc,0,0,y,0,0)=some (acc,(kq (bK l y)).1,y,(kq (bK l y)).2.1,(kq (bK l y)).2.2):=by
 obtain ⟨h1,h2,h3⟩:=cX h
 have key:=dh (rd:=il N l (acc,y)) l (fun (s:Int × Int × Int) k=>(acc,s.1,(k:Int),y,s.2.1,s.2.2)) (fun s b=>if b.2.1 == y then L9 s (iw b) else s) (fun s=>(acc,s.1,y,s.2.1,s.2.2)) (fun s k=>0≤s.1∧s.1≤k) (fun s k hk hs=>by
  obtain ⟨a1,a2⟩:=eF l hk
  have hc:=h2 l[k] (List.getElem_mem hk)
  have q:Yf N (l[k].1,l[k].2.1,l[k].2.2)=some (iw l[k]):=Qv N hc
  have hci:=GC hc
  generalize l[k]=b at *
  have w1:wrap .i64 (iw b+1)=iw b+1:=ki (by omega)
  have w2:wrap .i64 (s.1+1)=s.1+1:=ki (by omega)
  by_cases hy:b.2.1=y
  ·have hb:(b.2.1 != y)=false:=by rw [hy]; exact bne_self_eq_false _
   have vb:(b.2.1 == y)=true:=by rw [hy]; exact beq_self_eq_true _
   refine ⟨?_,?_⟩
   ·simp only [vb,if_true]
    by_cases h0:s.1=0
    ·have hz:(s.1 == 0)=true:=by rw [h0]; rfl
     simp only [il,jc,List.length_map,aX hk,ay hk,Int.toNat_natCast,a1,a2,Bool.and_self,cond_true,cond_false,hb,q,Option.bind_some,jQ,jR,Bool.and_true,decide_true,hz,w1,w2,bN (show k < 9223372036854775807 by omega)]
     unfold L9
     simp only [h0,if_true]
    ·have hz:(s.1 == 0)=false:=beq_false_of_ne h0
     simp only [il,jc,List.length_map,aX hk,ay hk,Int.toNat_natCast,a1,a2,Bool.and_self,cond_true,cond_false,hb,q,Option.bind_some,jQ,jR,Bool.and_true,decide_true,hz,w1,w2,bN (show k < 9223372036854775807 by omega)]
     unfold L9
     simp only [h0,if_false]
   ·simp only [vb,if_true]
    unfold L9
    simp only
    omega
  ·have hb:(b.2.1 != y)=true:=bne_iff_ne.2 hy
   have vb:(b.2.1 == y)=false:=beq_false_of_ne hy
   refine ⟨?_,?_⟩
   ·simp only [il,jc,List.length_map,aX hk,ay hk,Int.toNat_natCast,a1,a2,Bool.and_self,cond_true,hb,vb,Bool.false_eq_true,if_false,Option.bind_some,jQ,jR,Bool.and_true,decide_true,bN (show k < 9223372036854775807 by omega)]
   ·simp only [vb,Bool.false_eq_true,if_false]; omega) (fun s hs=>by
  simp only [il,jc,List.length_map,bJ,cond_false,jQ,jR,Bool.and_self,Bool.and_true,decide_true,cond_true,Option.bind_some]) N (0,0,0) 0 (Nat.zero_le _) (by unfold e7 at hN; omega) ⟨Int.le_refl _,Int.le_refl _⟩
 have qH:aN (il N l (acc,y)) N (acc,0,0,y,0,0)=_:=key
 rw [qH,List.drop_zero]
 have e:l.foldl (fun s b=>if b.2.1 == y then L9 s (iw b) else s) (0,0,0)=kq (bK l y):=by
  unfold kq bK
  rw [List.foldl_map,List.foldl_filter]
 rw [e]
theorem Md (l:List aQ) (h:dH l=0):Yg N l=some (yl l):=by
 obtain ⟨h1,h2,h3⟩:=cX h
 unfold yl
 by_cases h0:l=[]
 ·subst h0
  rw [if_pos rfl,LZ]
  rfl
 ·have hl:0 < l.length:=List.length_pos_iff.2 h0
  have bd:=Mb h hl
  rw [if_neg h0,LZ]
  have hb:((l.length:Int) == 0)=false:=beq_false_of_ne (by omega)
  obtain ⟨a1,a2⟩:=eF l hl
  have VN:ak (aj (map ae l) (toNat 0))=l[0]:=a1
  have VO:fits au (aj (map ae l) (toNat 0))=true:=a2
  have i0:decide ((0:Int)≤0∧0 < (l.length:Int))=true:=ay hl
  have ef:l[0].2.1=cJ l:=by unfold cJ; simp [hl]
  have sx:l.length - 1 < l.length:=by omega
  obtain ⟨c1,c2⟩:=eF l sx
  have wl:wrap .i64 ((l.length:Int) - 1)=((l.length - 1:Nat):Int):=by rw [ki (by omega)]; omega
  have el:l[l.length - 1].2.1=tA l:=by unfold tA; simp [sx]
  have z:((bif (allFit (fits eK) ([]:List AV)&&true) then some ((map cI ([]:List AV)),cJ l) else none:Option (List eQ × Int)).bind fun MQ=>bif (decide (0=MQ.1.length)&&true) then some MQ else none)=some ([],cJ l):=rfl
  have key:=oM (rd:=pw N l) (jO l) (fun k=>((List.range k).map (pI l),cJ l+k)) (fun k=>!decide (Qw (bK l (cJ l+k)))) (fun _=>Sum.inl ((),17)) (Sum.inr (sw l)) (fun k hk=>by
   have hle:decide (cJ l+(k:Int)≤tA l)=true:=decide_eq_true (by unfold jO at hk; omega)
   have r:=U6 hN l h ((List.range k).map (pI l)) (cJ l+k)
   obtain ⟨f1,f2⟩:=ss (bK l (cJ l+k))
   have es:(List.range (k+1)).map (pI l)=(List.range k).map (pI l)++[pI l k]:=by rw [List.range_succ,List.map_append]; rfl
   have hlen:((List.range k).map (pI l)).length=k:=by simp
   have Yo:∀ x∈bK l (cJ l+k),-100001≤x∧x≤100000:=fun x hx=>Dn h hx
   have iz:(bK l (cJ l+k)).length≤l.length:=by unfold bK; rw [List.length_map]; exact List.length_filter_le _ _
   have BM:k≤200001:=by unfold jO at hk; omega
   have MC:decide ((k+1) * 24≤140737488355328)=true:=decide_eq_true (by omega)
   have sn:=QA ((List.range k).map (pI l)) (cJ l+k) (kq (bK l (cJ l+k))).2.1 (kq (bK l (cJ l+k))).2.2
   have er:pI l k=(cJ l+k,(kq (bK l (cJ l+k))).2.1,(kq (bK l (cJ l+k))).2.2):=rfl
   have wk:wrap .i64 (cJ l+(k:Int)+1)=cJ l+((k+1:Nat):Int):=by rw [ki (by omega)]; omega
   rw [er] at es
   rw [es]
   generalize (List.range k).map (pI l)=acc at *
   unfold Qw
   generalize BE:bK l (cJ l+k)=c at *
   have z2:((bif (allFit (fits eK) (map aC acc)&&true) then some ((map cI (map aC acc)),(0:Int),(0:Int),cJ l+(k:Int),(0:Int),(0:Int)) else none:Option (List eQ × Int × Int × Int × Int × Int)).bind fun H3=>bif (decide ((map aC acc).length=(map aC H3.1).length)&&true) then some H3 else none)=some (acc,0,0,cJ l+(k:Int),0,0):=by
    simp only [jQ,jR,Bool.and_self,cond_true,Option.bind_some,decide_true]
   simp only [Bool.and_true] at z2
   by_cases hc:c=[]
   ·have hn:((kq c).1 == 0)=true:=by rw [f1,hc]; rfl
    simp only [pw,List.length_map,wl,ay sx,Int.toNat_natCast,c1,c2,el,hle,Bool.and_self,Bool.and_true,cond_true,z2,Option.bind_some,r,hn,jQ,jR,decide_true]
    simp only [hc,ne_eq,not_true_eq_false,false_and,decide_false,Bool.not_false,if_true]
   ·obtain ⟨j1,j2,j3,j4⟩:=f2 hc
    have hn:((c.length:Int) == 0)=false:=beq_false_of_ne (by have:=List.length_pos_iff.2 hc; omega)
    have b1:=Yo _ j1
    have b2:=Yo _ j3
    have wd:wrap .i64 ((kq c).2.2 - (kq c).2.1)=(kq c).2.2 - (kq c).2.1:=ki (by omega)
    by_cases hq:(kq c).2.2 - (kq c).2.1=(c.length:Int)
    ·have cm:((c.length:Int) != (kq c).2.2 - (kq c).2.1)=false:=by rw [hq]; exact bne_self_eq_false _
     simp only [pw,List.length_map,wl,ay sx,Int.toNat_natCast,c1,c2,el,hle,Bool.and_self,Bool.and_true,cond_true,cond_false,z2,Option.bind_some,r,hn,f1,jQ,jR,decide_true,wd,cm,hlen,MC,sn,List.length_append,List.length_singleton,wk]
     simp only [ne_eq,hc,not_false_eq_true,hq,and_self,decide_true,Bool.not_true,Bool.false_eq_true,if_false]
    ·have cm:((c.length:Int) != (kq c).2.2 - (kq c).2.1)=true:=bne_iff_ne.2 (fun e=>hq e.symm)
     simp only [pw,List.length_map,wl,ay sx,Int.toNat_natCast,c1,c2,el,hle,Bool.and_self,Bool.and_true,cond_true,cond_false,z2,Option.bind_some,r,hn,f1,jQ,jR,decide_true,wd,cm]
     simp only [hq,and_false,decide_false,Bool.not_false,if_true]) (by
   have DW:decide (cJ l+(jO l:Int)≤tA l)=false:=decide_eq_false (by unfold jO; omega)
   simp only [pw,List.length_map,wl,ay sx,Int.toNat_natCast,c1,c2,el,DW,Bool.and_self,Bool.and_true,cond_true,cond_false,jQ,jR,decide_true,Option.bind_some]
   rfl) N (by unfold jO; unfold e7 at hN; omega)
  have e0:(([]:List eQ),cJ l)=((List.range 0).map (pI l),cJ l+((0:Nat):Int)):=by simp
  simp only [List.length_map,hb,cond_false,i0,VN,VO,Bool.and_self,cond_true,ef]
  rw [z,Option.bind_some,e0,key]
  by_cases dE:RT l
  ·have hf:(List.range (jO l)).find? (fun k:Nat=>!decide (Qw (bK l (cJ l+k))))=none:=by
    rw [List.find?_eq_none]
    intro k hk
    have:=dE k (List.mem_range.1 hk)
    simp [this]
   rw [hf,if_pos dE]
   simp only [Option.bind_some,Sum.elim_inr,jQ,jR,Bool.and_true,cond_true]
  ·rw [if_neg dE]
   cases hf:(List.range (jO l)).find? (fun k:Nat=>!decide (Qw (bK l (cJ l+k)))) with
   | some j=>rfl
   | none=>
    refine absurd (fun k hk=>?_) dE
    have:=List.find?_eq_none.1 hf k (List.mem_range.2 hk)
    simpa using this
end
end Go.Proofs.YtldcljfjjoidhaaGreatDoor
namespace Go.Proofs.YtldcljfjjoidhaaGreatDoor
open Go Go.Am Go.Sort
open List (map)
open Int (toNat)
open Go.IntKind (wrap)
open Go.Am.aO (fits)
set_option maxRecDepth 100000
theorem GF (a b:aQ):decide (uP a b < 0)=ltOf fL a b:=by
 have h:=Ab a b
 rw [si]
 cases hl:less a b with
 | true=>
  rw [hl] at h
  have:¬ (uP a b≥0):=of_decide_eq_false h
  exact decide_eq_true (by omega)
 | false=>
  rw [hl] at h
  have:uP a b≥0:=of_decide_eq_true h
  exact decide_eq_false (by omega)
theorem py (a b:Int):xW a b=0↔a=b:=by
 unfold xW
 split
 ·exact ⟨fun h=>(by cases h),fun h=>by omega⟩
 ·split
  ·exact ⟨fun h=>(by cases h),fun h=>by omega⟩
  ·exact ⟨fun _=>by omega,fun _=>rfl⟩
theorem Ih (a b:aQ):(uP a b == 0)=decide (a=b):=by
 rw [Bool.eq_iff_iff,beq_iff_eq,decide_eq_true_eq]
 unfold uP
 rw [nt]
 constructor
 ·intro h
  have h1:=(py _ _).1 (h (xW a.2.1 b.2.1) (by simp))
  have h2:=(py _ _).1 (h (xW a.1 b.1) (by simp))
  have h3:=(py _ _).1 (h (xW a.2.2 b.2.2) (by simp))
  exact Prod.ext h2 (Prod.ext h1 h3)
 ·rintro rfl x hx
  simp only [List.mem_cons,List.not_mem_nil,or_false] at hx
  rcases hx with rfl | rfl | rfl <;> exact (py _ _).2 rfl
section
variable {N:Nat} (hN:e7 N)
include hN
theorem sy (l:List aQ) (hs:vq (ltOf fL) l) (hl:l.length≤1000000) (b:aQ):Dj N (l,b)=some (decide (b∈l)):=by
 have asc:∀ i j (hj:j < l.length) (Iy:i < j),ltOf fL (l[i]'(by omega)) l[j]=true:=fun i j hj Iy=>by
  exact List.pairwise_iff_getElem.1 hs i j (by omega) hj Iy
 obtain ⟨x,h1,h2⟩:=px (rd:=jy N l b) (fun v=>∃ lo hi:Nat,v=((lo:Int),(hi:Int))∧lo≤hi∧hi≤l.length∧(∀ j (hj:j < l.length),j < lo→ltOf fL l[j] b=true)∧∀ j (hj:j < l.length),hi≤j→ltOf fL l[j] b=false)
  (fun v=>(v.2 - v.1).toNat) (fun x=>∃ i:Nat,x=(i:Int)∧i≤l.length∧(∀ j (hj:j < l.length),j < i→ltOf fL l[j] b=true)∧∀ j (hj:j < l.length),i≤j→ltOf fL l[j] b=false) (by
  rintro v ⟨lo,hi,rfl,h1,h2,h3,h4⟩
  by_cases h:lo < hi
  ·have hm:(lo+hi) / 2 < l.length:=by omega
   obtain ⟨a1,a2⟩:=eF l hm
   have em:wrap .i64 (Int.fdiv (wrap .u64 (wrap .i64 ((lo:Int)+(hi:Int)))) (2 ^ (min (toNat 1) 64)))=(((lo+hi) / 2:Nat):Int):=by
    have e1:(2 ^ (min (toNat 1) 64):Int)=2:=rfl
    rw [ki (show _≤(lo:Int)+(hi:Int)∧(lo:Int)+(hi:Int)≤_ by omega),IntWalk.u64_in _ (by omega),e1,Int.fdiv_eq_ediv_of_nonneg _ (by omega),ki (by omega)]
    omega
   have cg:decide ((lo:Int) < (hi:Int))=true:=decide_eq_true (by omega)
   have q:Bi N ((l[(lo+hi) / 2].1,l[(lo+hi) / 2].2.1,l[(lo+hi) / 2].2.2),(b.1,b.2.1,b.2.2))=some (uP l[(lo+hi) / 2] b):=xX hN _ _
   refine .inl ?_
   cases hc:ltOf fL l[(lo+hi) / 2] b with
   | true=>
    have q9:decide (uP l[(lo+hi) / 2] b < 0)=true:=by rw [GF]; exact hc
    refine ⟨((((lo+hi) / 2+1:Nat):Int),(hi:Int)),?_,⟨(lo+hi) / 2+1,hi,rfl,by omega,h2,fun j hj YD=>?_,h4⟩,by simp only; omega⟩
    ·simp only [jy,fh,cg,cond_true,em,List.length_map,ay hm,Int.toNat_natCast,a1,a2,Bool.and_self,q,Option.bind_some,q9,bN (show (lo+hi) / 2 < 9223372036854775807 by omega)]
    ·by_cases he:j=(lo+hi) / 2
     ·subst he; exact hc
     ·exact tq.trans _ _ _ (asc j _ hm (by omega)) hc
   | false=>
    have q9:decide (uP l[(lo+hi) / 2] b < 0)=false:=by rw [GF]; exact hc
    refine ⟨((lo:Int),(((lo+hi) / 2:Nat):Int)),?_,⟨lo,(lo+hi) / 2,rfl,by omega,by omega,h3,fun j hj YD=>?_⟩,by simp only; omega⟩
    ·simp only [jy,fh,cg,cond_true,em,List.length_map,ay hm,Int.toNat_natCast,a1,a2,Bool.and_self,q,Option.bind_some,q9,cond_false]
    ·by_cases he:j=(lo+hi) / 2
     ·subst he; exact hc
     ·cases hh:ltOf fL l[j] b with
      | false=>rfl
      | true=>
       have:=tq.trans _ _ _ (asc ((lo+hi) / 2) j hj (by omega)) hh
       rw [hc] at this
       cases this
  ·have sA:decide ((lo:Int) < (hi:Int))=false:=decide_eq_false (by omega)
   refine .inr ⟨(lo:Int),?_,lo,rfl,by omega,h3,fun j hj YD=>h4 j hj (by omega)⟩
   simp only [jy,fh,sA,cond_false]) N ((0:Int),(l.length:Int)) ⟨0,l.length,rfl,by omega,by omega,fun j hj h=>by omega,fun j hj h=>by omega⟩ (by unfold e7 at hN; simp only; omega)
 obtain ⟨i,rfl,g1,g2,g3⟩:=h2
 rw [Qk,List.length_map,h1,Option.bind_some]
 have irr:∀ x:aQ,ltOf fL x x=false:=fun x=>by
  rw [si]
  unfold less
  simp
 by_cases hi:i < l.length
 ·obtain ⟨a1,a2⟩:=eF l hi
  have q:Bi N ((l[i].1,l[i].2.1,l[i].2.2),(b.1,b.2.1,b.2.2))=some (uP l[i] b):=xX hN _ _
  simp only [aX hi,ay hi,cond_true,Int.toNat_natCast,a1,a2,Bool.and_self,q,Option.bind_some,Ih]
  congr 1
  rw [Bool.eq_iff_iff,decide_eq_true_eq,decide_eq_true_eq]
  constructor
  ·rintro rfl; exact List.getElem_mem hi
  ·intro hb
   obtain ⟨j,hj,rfl⟩:=List.getElem_of_mem hb
   rcases Nat.lt_trichotomy i j with h | h | h
   ·have h5:=asc i j hj h
    rw [g3 i hi (Nat.le_refl _)] at h5
    cases h5
   ·subst h; rfl
   ·have h5:=g2 j hj h
    rw [irr] at h5
    cases h5
 ·have sA:decide ((i:Int) < (l.length:Int))=false:=decide_eq_false (by omega)
  rw [sA,cond_false,Option.bind_some]
  congr 1
  symm
  refine decide_eq_false fun hb=>?_
  obtain ⟨j,hj,rfl⟩:=List.getElem_of_mem hb
  have h5:=g2 j hj (by omega)
  rw [irr] at h5
  cases h5
end
end Go.Proofs.YtldcljfjjoidhaaGreatDoor
namespace Go.Proofs.YtldcljfjjoidhaaGreatDoor
open Go Go.Am Go.Sort
open List (map)
open Int (toNat)
open Go.IntKind (wrap)
open Go.Am.aO (fits)
set_option maxRecDepth 100000
abbrev yA:=List (List aQ)
def dj (l S:List aQ) (P:List aQ) (b:aQ):List aQ:=if b∈S++P then P else if b∈l then P++[b] else P
theorem kV (l S P:List aQ) (b:aQ):(dj l S P b).length≤P.length+1:=by
 unfold dj
 split
 ·omega
 ·split
  ·rw [List.length_append]; exact Nat.le_refl _
  ·omega
def mD (k:Int × Int):List aQ:=[(k.1 - 1,k.2 - 1,1),(k.1+1,k.2 - 1,-1),(k.1,k.2,-1),(k.1,k.2,1)]
section
variable {N:Nat} (hN:e7 N)
include hN
theorem QB (l:List aQ) (hs:vq (ltOf fL) l) (hl:l.length≤1000000) (out:yA) (S P:List aQ) (hP:P.length≤1000000) (y:Int × Int × Int × Int × Int × Int × Int × Int × Int × Int × Int × Int) :
  ax N l y (out,(),0,bP (S++P),P)=some (.inl (out,(),1,bP (S++dj l S P (y.1,y.2.1,y.2.2.1)),dj l S P (y.1,y.2.1,y.2.2.1))):=by
 have l4:decide ((0:Int) < 4)=true:=rfl
 have z0:decide ((0:Int)=0)=true:=rfl
 have w1:wrap .i64 ((0:Int)+1)=1:=rfl
 have kk:dZ BK (.agg [.int .i64 y.1,.int .i64 y.2.1,.int .i64 y.2.2.1]) (ab (map aS (bP (S++P))))=true:=cT.keys (y.1,y.2.1,y.2.2.1) _
 have kg:cM BK (.agg [.int .i64 y.1,.int .i64 y.2.1,.int .i64 y.2.2.1]) (AV.bool false) (ab (map aS (bP (S++P))))=AV.bool (decide ((y.1,y.2.1,y.2.2.1)∈S++P)):=by
  have:=cT.getD (y.1,y.2.1,y.2.2.1) false (bP (S++P))
  rw [oN] at this
  exact this
 have hh:Dj N (l,(y.1,y.2.1,y.2.2.1))=some (decide ((y.1,y.2.1,y.2.2.1)∈l)):=sy hN l hs hl _
 have cb:decide ((P.length+1) * 24≤140737488355328)=true:=decide_eq_true (by omega)
 have fb:∀ x:Bool,fits p4 (AV.bool x)=true:=fun _=>rfl
 have db:∀ x:Bool,Ug (AV.bool x)=x:=fun _=>rfl
 have ll:(P++[(y.1,y.2.1,y.2.2.1)]).length=P.length+1:=by rw [List.length_append]; rfl
 have sn:=sb P (y.1,y.2.1,y.2.2.1)
 simp only at sn
 unfold dj
 by_cases h1:(y.1,y.2.1,y.2.2.1)∈S++P
 ·rw [decide_eq_true h1] at kg
  simp only [ax,aF,aK,l4,z0,cond_true,cond_false,ir,iu,cn,cj,eH,eI,cT.cells,cT.bA,Bool.and_self,Bool.and_true,decide_true,Option.bind_some,kk,kg,fb,db,Bool.not_true,Nat.beq_refl,w1,if_pos h1,List.length_map]
 ·rw [decide_eq_false h1] at kg
  by_cases h2:(y.1,y.2.1,y.2.2.1)∈l
  ·rw [decide_eq_true h2] at hh
   have kp:eN BK (.agg [.int .i64 y.1,.int .i64 y.2.1,.int .i64 y.2.2.1]) (AV.bool true) (ab (map aS (bP (S++P))))=ab (map aS (bP (S++(P++[(y.1,y.2.1,y.2.2.1)])))):=by
    have:=cT.put (y.1,y.2.1,y.2.2.1) true (bP (S++P))
    rw [oO _ _ h1,List.append_assoc] at this
    exact this
   simp only [ax,aF,aK,l4,z0,cond_true,cond_false,ir,iu,cn,cj,eH,eI,cT.cells,cT.bA,Bool.and_self,Bool.and_true,decide_true,Option.bind_some,kk,kg,kp,hh,cb,sn,ll,fb,db,Bool.not_false,Nat.beq_refl,w1,if_neg h1,if_pos h2,List.length_map]
  ·rw [decide_eq_false h2] at hh
   simp only [ax,aF,aK,l4,z0,cond_true,cond_false,ir,iu,cn,cj,eH,eI,cT.cells,cT.bA,Bool.and_self,Bool.and_true,decide_true,Option.bind_some,kk,kg,hh,fb,db,Bool.not_false,Nat.beq_refl,w1,if_neg h1,if_neg h2,List.length_map]
theorem QC (l:List aQ) (hs:vq (ltOf fL) l) (hl:l.length≤1000000) (out:yA) (S P:List aQ) (hP:P.length≤1000000) (y:Int × Int × Int × Int × Int × Int × Int × Int × Int × Int × Int × Int) :
  ax N l y (out,(),1,bP (S++P),P)=some (.inl (out,(),2,bP (S++dj l S P (y.2.2.2.1,y.2.2.2.2.1,y.2.2.2.2.2.1)),dj l S P (y.2.2.2.1,y.2.2.2.2.1,y.2.2.2.2.2.1))):=by
 have l4:decide ((1:Int) < 4)=true:=rfl
 have z0:decide ((1:Int)=0)=false:=rfl
 have z1:decide ((1:Int)=1)=true:=rfl
 have w1:wrap .i64 ((1:Int)+1)=2:=rfl
 have kk:dZ BK (.agg [.int .i64 y.2.2.2.1,.int .i64 y.2.2.2.2.1,.int .i64 y.2.2.2.2.2.1]) (ab (map aS (bP (S++P))))=true:=cT.keys (y.2.2.2.1,y.2.2.2.2.1,y.2.2.2.2.2.1) _
 have kg:cM BK (.agg [.int .i64 y.2.2.2.1,.int .i64 y.2.2.2.2.1,.int .i64 y.2.2.2.2.2.1]) (AV.bool false) (ab (map aS (bP (S++P))))=AV.bool (decide ((y.2.2.2.1,y.2.2.2.2.1,y.2.2.2.2.2.1)∈S++P)):=by
  have:=cT.getD (y.2.2.2.1,y.2.2.2.2.1,y.2.2.2.2.2.1) false (bP (S++P))
  rw [oN] at this
  exact this
 have hh:Dj N (l,(y.2.2.2.1,y.2.2.2.2.1,y.2.2.2.2.2.1))=some (decide ((y.2.2.2.1,y.2.2.2.2.1,y.2.2.2.2.2.1)∈l)):=sy hN l hs hl _
 have cb:decide ((P.length+1) * 24≤140737488355328)=true:=decide_eq_true (by omega)
 have fb:∀ x:Bool,fits p4 (AV.bool x)=true:=fun _=>rfl
 have db:∀ x:Bool,Ug (AV.bool x)=x:=fun _=>rfl
 have ll:(P++[(y.2.2.2.1,y.2.2.2.2.1,y.2.2.2.2.2.1)]).length=P.length+1:=by rw [List.length_append]; rfl
 have sn:=sb P (y.2.2.2.1,y.2.2.2.2.1,y.2.2.2.2.2.1)
 simp only at sn
 unfold dj
 by_cases h1:(y.2.2.2.1,y.2.2.2.2.1,y.2.2.2.2.2.1)∈S++P
 ·rw [decide_eq_true h1] at kg
  simp only [ax,aF,aK,l4,z0,z1,cond_true,cond_false,ir,iu,cn,cj,eH,eI,cT.cells,cT.bA,Bool.and_self,Bool.and_true,decide_true,Option.bind_some,kk,kg,fb,db,Bool.not_true,Nat.beq_refl,w1,if_pos h1,List.length_map]
 ·rw [decide_eq_false h1] at kg
  by_cases h2:(y.2.2.2.1,y.2.2.2.2.1,y.2.2.2.2.2.1)∈l
  ·rw [decide_eq_true h2] at hh
   have kp:eN BK (.agg [.int .i64 y.2.2.2.1,.int .i64 y.2.2.2.2.1,.int .i64 y.2.2.2.2.2.1]) (AV.bool true) (ab (map aS (bP (S++P))))=ab (map aS (bP (S++(P++[(y.2.2.2.1,y.2.2.2.2.1,y.2.2.2.2.2.1)])))):=by
    have:=cT.put (y.2.2.2.1,y.2.2.2.2.1,y.2.2.2.2.2.1) true (bP (S++P))
    rw [oO _ _ h1,List.append_assoc] at this
    exact this
   simp only [ax,aF,aK,l4,z0,z1,cond_true,cond_false,ir,iu,cn,cj,eH,eI,cT.cells,cT.bA,Bool.and_self,Bool.and_true,decide_true,Option.bind_some,kk,kg,kp,hh,cb,sn,ll,fb,db,Bool.not_false,Nat.beq_refl,w1,if_neg h1,if_pos h2,List.length_map]
  ·rw [decide_eq_false h2] at hh
   simp only [ax,aF,aK,l4,z0,z1,cond_true,cond_false,ir,iu,cn,cj,eH,eI,cT.cells,cT.bA,Bool.and_self,Bool.and_true,decide_true,Option.bind_some,kk,kg,hh,fb,db,Bool.not_false,Nat.beq_refl,w1,if_neg h1,if_neg h2,List.length_map]
theorem QD (l:List aQ) (hs:vq (ltOf fL) l) (hl:l.length≤1000000) (out:yA) (S P:List aQ) (hP:P.length≤1000000) (y:Int × Int × Int × Int × Int × Int × Int × Int × Int × Int × Int × Int) :
  ax N l y (out,(),2,bP (S++P),P)=some (.inl (out,(),3,bP (S++dj l S P (y.2.2.2.2.2.2.1,y.2.2.2.2.2.2.2.1,y.2.2.2.2.2.2.2.2.1)),dj l S P (y.2.2.2.2.2.2.1,y.2.2.2.2.2.2.2.1,y.2.2.2.2.2.2.2.2.1))):=by
 have l4:decide ((2:Int) < 4)=true:=rfl
 have z0:decide ((2:Int)=0)=false:=rfl
 have z1:decide ((2:Int)=1)=false:=rfl
 have z2:decide ((2:Int)=2)=true:=rfl
 have w1:wrap .i64 ((2:Int)+1)=3:=rfl
 have kk:dZ BK (.agg [.int .i64 y.2.2.2.2.2.2.1,.int .i64 y.2.2.2.2.2.2.2.1,.int .i64 y.2.2.2.2.2.2.2.2.1]) (ab (map aS (bP (S++P))))=true:=cT.keys (y.2.2.2.2.2.2.1,y.2.2.2.2.2.2.2.1,y.2.2.2.2.2.2.2.2.1) _
 have kg:cM BK (.agg [.int .i64 y.2.2.2.2.2.2.1,.int .i64 y.2.2.2.2.2.2.2.1,.int .i64 y.2.2.2.2.2.2.2.2.1]) (AV.bool false) (ab (map aS (bP (S++P))))=AV.bool (decide ((y.2.2.2.2.2.2.1,y.2.2.2.2.2.2.2.1,y.2.2.2.2.2.2.2.2.1)∈S++P)):=by
  have:=cT.getD (y.2.2.2.2.2.2.1,y.2.2.2.2.2.2.2.1,y.2.2.2.2.2.2.2.2.1) false (bP (S++P))
  rw [oN] at this
  exact this
 have hh:Dj N (l,(y.2.2.2.2.2.2.1,y.2.2.2.2.2.2.2.1,y.2.2.2.2.2.2.2.2.1))=some (decide ((y.2.2.2.2.2.2.1,y.2.2.2.2.2.2.2.1,y.2.2.2.2.2.2.2.2.1)∈l)):=sy hN l hs hl _
 have cb:decide ((P.length+1) * 24≤140737488355328)=true:=decide_eq_true (by omega)
 have fb:∀ x:Bool,fits p4 (AV.bool x)=true:=fun _=>rfl
 have db:∀ x:Bool,Ug (AV.bool x)=x:=fun _=>rfl
 have ll:(P++[(y.2.2.2.2.2.2.1,y.2.2.2.2.2.2.2.1,y.2.2.2.2.2.2.2.2.1)]).length=P.length+1:=by rw [List.length_append]; rfl
 have sn:=sb P (y.2.2.2.2.2.2.1,y.2.2.2.2.2.2.2.1,y.2.2.2.2.2.2.2.2.1)
 simp only at sn
 unfold dj
 by_cases h1:(y.2.2.2.2.2.2.1,y.2.2.2.2.2.2.2.1,y.2.2.2.2.2.2.2.2.1)∈S++P
 ·rw [decide_eq_true h1] at kg
  simp only [ax,aF,aK,l4,z0,z1,z2,cond_true,cond_false,ir,iu,cn,cj,eH,eI,cT.cells,cT.bA,Bool.and_self,Bool.and_true,decide_true,Option.bind_some,kk,kg,fb,db,Bool.not_true,Nat.beq_refl,w1,if_pos h1,List.length_map]
 ·rw [decide_eq_false h1] at kg
  by_cases h2:(y.2.2.2.2.2.2.1,y.2.2.2.2.2.2.2.1,y.2.2.2.2.2.2.2.2.1)∈l
  ·rw [decide_eq_true h2] at hh
   have kp:eN BK (.agg [.int .i64 y.2.2.2.2.2.2.1,.int .i64 y.2.2.2.2.2.2.2.1,.int .i64 y.2.2.2.2.2.2.2.2.1]) (AV.bool true) (ab (map aS (bP (S++P))))=ab (map aS (bP (S++(P++[(y.2.2.2.2.2.2.1,y.2.2.2.2.2.2.2.1,y.2.2.2.2.2.2.2.2.1)])))):=by
    have:=cT.put (y.2.2.2.2.2.2.1,y.2.2.2.2.2.2.2.1,y.2.2.2.2.2.2.2.2.1) true (bP (S++P))
    rw [oO _ _ h1,List.append_assoc] at this
    exact this
   simp only [ax,aF,aK,l4,z0,z1,z2,cond_true,cond_false,ir,iu,cn,cj,eH,eI,cT.cells,cT.bA,Bool.and_self,Bool.and_true,decide_true,Option.bind_some,kk,kg,kp,hh,cb,sn,ll,fb,db,Bool.not_false,Nat.beq_refl,w1,if_neg h1,if_pos h2,List.length_map]
  ·rw [decide_eq_false h2] at hh
   simp only [ax,aF,aK,l4,z0,z1,z2,cond_true,cond_false,ir,iu,cn,cj,eH,eI,cT.cells,cT.bA,Bool.and_self,Bool.and_true,decide_true,Option.bind_some,kk,kg,hh,fb,db,Bool.not_false,Nat.beq_refl,w1,if_neg h1,if_neg h2,List.length_map]
theorem QE (l:List aQ) (hs:vq (ltOf fL) l) (hl:l.length≤1000000) (out:yA) (S P:List aQ) (hP:P.length≤1000000) (y:Int × Int × Int × Int × Int × Int × Int × Int × Int × Int × Int × Int) :
  ax N l y (out,(),3,bP (S++P),P)=some (.inl (out,(),4,bP (S++dj l S P (y.2.2.2.2.2.2.2.2.2.1,y.2.2.2.2.2.2.2.2.2.2.1,y.2.2.2.2.2.2.2.2.2.2.2)),dj l S P (y.2.2.2.2.2.2.2.2.2.1,y.2.2.2.2.2.2.2.2.2.2.1,y.2.2.2.2.2.2.2.2.2.2.2))):=by
 have l4:decide ((3:Int) < 4)=true:=rfl
 have z0:decide ((3:Int)=0)=false:=rfl
 have z1:decide ((3:Int)=1)=false:=rfl
 have z2:decide ((3:Int)=2)=false:=rfl
 have z3:decide ((3:Int)=3)=true:=rfl
 have w1:wrap .i64 ((3:Int)+1)=4:=rfl
 have kk:dZ BK (.agg [.int .i64 y.2.2.2.2.2.2.2.2.2.1,.int .i64 y.2.2.2.2.2.2.2.2.2.2.1,.int .i64 y.2.2.2.2.2.2.2.2.2.2.2]) (ab (map aS (bP (S++P))))=true:=cT.keys (y.2.2.2.2.2.2.2.2.2.1,y.2.2.2.2.2.2.2.2.2.2.1,y.2.2.2.2.2.2.2.2.2.2.2) _
 have kg:cM BK (.agg [.int .i64 y.2.2.2.2.2.2.2.2.2.1,.int .i64 y.2.2.2.2.2.2.2.2.2.2.1,.int .i64 y.2.2.2.2.2.2.2.2.2.2.2]) (AV.bool false) (ab (map aS (bP (S++P))))=AV.bool (decide ((y.2.2.2.2.2.2.2.2.2.1,y.2.2.2.2.2.2.2.2.2.2.1,y.2.2.2.2.2.2.2.2.2.2.2)∈S++P)):=by
  have:=cT.getD (y.2.2.2.2.2.2.2.2.2.1,y.2.2.2.2.2.2.2.2.2.2.1,y.2.2.2.2.2.2.2.2.2.2.2) false (bP (S++P))
  rw [oN] at this
  exact this
 have hh:Dj N (l,(y.2.2.2.2.2.2.2.2.2.1,y.2.2.2.2.2.2.2.2.2.2.1,y.2.2.2.2.2.2.2.2.2.2.2))=some (decide ((y.2.2.2.2.2.2.2.2.2.1,y.2.2.2.2.2.2.2.2.2.2.1,y.2.2.2.2.2.2.2.2.2.2.2)∈l)):=sy hN l hs hl _
 have cb:decide ((P.length+1) * 24≤140737488355328)=true:=decide_eq_true (by omega)
 have fb:∀ x:Bool,fits p4 (AV.bool x)=true:=fun _=>rfl
 have db:∀ x:Bool,Ug (AV.bool x)=x:=fun _=>rfl
 have ll:(P++[(y.2.2.2.2.2.2.2.2.2.1,y.2.2.2.2.2.2.2.2.2.2.1,y.2.2.2.2.2.2.2.2.2.2.2)]).length=P.length+1:=by rw [List.length_append]; rfl
 have sn:=sb P (y.2.2.2.2.2.2.2.2.2.1,y.2.2.2.2.2.2.2.2.2.2.1,y.2.2.2.2.2.2.2.2.2.2.2)
 simp only at sn
 unfold dj
 by_cases h1:(y.2.2.2.2.2.2.2.2.2.1,y.2.2.2.2.2.2.2.2.2.2.1,y.2.2.2.2.2.2.2.2.2.2.2)∈S++P
 ·rw [decide_eq_true h1] at kg
  simp only [ax,aF,aK,l4,z0,z1,z2,z3,cond_true,cond_false,ir,iu,cn,cj,eH,eI,cT.cells,cT.bA,Bool.and_self,Bool.and_true,decide_true,Option.bind_some,kk,kg,fb,db,Bool.not_true,Nat.beq_refl,w1,if_pos h1,List.length_map]
 ·rw [decide_eq_false h1] at kg
  by_cases h2:(y.2.2.2.2.2.2.2.2.2.1,y.2.2.2.2.2.2.2.2.2.2.1,y.2.2.2.2.2.2.2.2.2.2.2)∈l
  ·rw [decide_eq_true h2] at hh
   have kp:eN BK (.agg [.int .i64 y.2.2.2.2.2.2.2.2.2.1,.int .i64 y.2.2.2.2.2.2.2.2.2.2.1,.int .i64 y.2.2.2.2.2.2.2.2.2.2.2]) (AV.bool true) (ab (map aS (bP (S++P))))=ab (map aS (bP (S++(P++[(y.2.2.2.2.2.2.2.2.2.1,y.2.2.2.2.2.2.2.2.2.2.1,y.2.2.2.2.2.2.2.2.2.2.2)])))):=by
    have:=cT.put (y.2.2.2.2.2.2.2.2.2.1,y.2.2.2.2.2.2.2.2.2.2.1,y.2.2.2.2.2.2.2.2.2.2.2) true (bP (S++P))
    rw [oO _ _ h1,List.append_assoc] at this
    exact this
   simp only [ax,aF,aK,l4,z0,z1,z2,z3,cond_true,cond_false,ir,iu,cn,cj,eH,eI,cT.cells,cT.bA,Bool.and_self,Bool.and_true,decide_true,Option.bind_some,kk,kg,kp,hh,cb,sn,ll,fb,db,Bool.not_false,Nat.beq_refl,w1,if_neg h1,if_pos h2,List.length_map]
  ·rw [decide_eq_false h2] at hh
   simp only [ax,aF,aK,l4,z0,z1,z2,z3,cond_true,cond_false,ir,iu,cn,cj,eH,eI,cT.cells,cT.bA,Bool.and_self,Bool.and_true,decide_true,Option.bind_some,kk,kg,hh,fb,db,Bool.not_false,Nat.beq_refl,w1,if_neg h1,if_neg h2,List.length_map]
theorem QF (l:List aQ) (out:yA) (S P:List aQ) (y:Int × Int × Int × Int × Int × Int × Int × Int × Int × Int × Int × Int) :
  ax N l y (out,(),4,bP S,P)=some (.inr (out,(),bP S,P)):=by
 have l4:decide ((4:Int) < 4)=false:=rfl
 simp only [ax,aF,aK,l4,cond_false,cond_true,ir,iu,cn,cj,eH,eI,cT.cells,cT.bA,Bool.and_self,Bool.and_true,decide_true,Option.bind_some,Nat.beq_refl,List.length_map]
theorem Af (k:Int × Int) (hk:-200000≤k.1∧k.1≤200000∧-200000≤k.2∧k.2≤200000):H9 N k=some (k.1 - 1,k.2 - 1,1,k.1+1,k.2 - 1,-1,k.1,k.2,-1,k.1,k.2,1):=by
 rw [Qi,ki (show _≤k.1 - 1∧k.1 - 1≤_ by omega),ki (show _≤k.2 - 1∧k.2 - 1≤_ by omega),ki (show _≤k.1+1∧k.1+1≤_ by omega)]
theorem ym (l:List aQ) (hs:vq (ltOf fL) l) (hl:l.length≤1000000) (out:yA) (S P:List aQ) (hP:P.length≤100000) (k:Int × Int) :
  aN (ax N l (k.1 - 1,k.2 - 1,1,k.1+1,k.2 - 1,-1,k.1,k.2,-1,k.1,k.2,1)) N (out,(),0,bP (S++P),P)=some (out,(),bP (S++(mD k).foldl (dj l S) P),(mD k).foldl (dj l S) P):=by
 have i1:=kV l S P (k.1 - 1,k.2 - 1,1)
 have i2:=fun Q=>kV l S Q (k.1+1,k.2 - 1,-1)
 have i3:=fun Q=>kV l S Q (k.1,k.2,-1)
 generalize hy:(k.1 - 1,k.2 - 1,(1:Int),k.1+1,k.2 - 1,(-1:Int),k.1,k.2,(-1:Int),k.1,k.2,(1:Int))=y
 have e0:=QB hN l hs hl out S P (by omega) y
 have b0:(y.1,y.2.1,y.2.2.1)=(k.1 - 1,k.2 - 1,1):=by subst hy; rfl
 have b1:(y.2.2.2.1,y.2.2.2.2.1,y.2.2.2.2.2.1)=(k.1+1,k.2 - 1,-1):=by subst hy; rfl
 have b2:(y.2.2.2.2.2.2.1,y.2.2.2.2.2.2.2.1,y.2.2.2.2.2.2.2.2.1)=(k.1,k.2,-1):=by subst hy; rfl
 have b3:(y.2.2.2.2.2.2.2.2.2.1,y.2.2.2.2.2.2.2.2.2.2.1,y.2.2.2.2.2.2.2.2.2.2.2)=(k.1,k.2,1):=by subst hy; rfl
 rw [b0] at e0
 have ef:(mD k).foldl (dj l S) P=dj l S (dj l S (dj l S (dj l S P (k.1 - 1,k.2 - 1,1)) (k.1+1,k.2 - 1,-1)) (k.1,k.2,-1)) (k.1,k.2,1):=rfl
 rw [ef]
 generalize dj l S P (k.1 - 1,k.2 - 1,1)=P1 at *
 have e1:=QC hN l hs hl out S P1 (by omega) y
 rw [b1] at e1
 have j2:=i2 P1
 generalize dj l S P1 (k.1+1,k.2 - 1,-1)=P2 at *
 have e2:=QD hN l hs hl out S P2 (by omega) y
 rw [b2] at e2
 have j3:=i3 P2
 generalize dj l S P2 (k.1,k.2,-1)=P3 at *
 have e3:=QE hN l hs hl out S P3 (by omega) y
 rw [b3] at e3
 generalize dj l S P3 (k.1,k.2,1)=P4 at *
 have e4:=QF hN l out (S++P4) P4 y
 obtain ⟨n,hn⟩:∃ n,N=n+5:=⟨N - 5,by unfold e7 at hN; omega⟩
 have key:∀ m,m=n+5→aN (ax N l y) m (out,(),0,bP (S++P),P)=some (out,(),bP (S++P4),P4):=by
  rintro m rfl
  rw [a6,e0,Option.bind_some,Sum.elim_inl,a6,e1,Option.bind_some,Sum.elim_inl,a6,e2,Option.bind_some,Sum.elim_inl,a6,e3,Option.bind_some,Sum.elim_inl,a6,e4]
  rfl
 exact key N hn
def MT (k:Int × Int):Prop:=-200000≤k.1∧k.1≤200000∧-200000≤k.2∧k.2≤200000
theorem Me (l:List aQ) (hs:vq (ltOf fL) l) (hl:l.length≤1000000) (out:yA) (S P:List aQ) (hP:P.length≤100000) (k1 k2:Int × Int) (hk:MT k1) :
  bB N l (k1.1,k1.2,k2.1,k2.2) (out,(),0,bP (S++P),P)=some (.inl (out,(),1,bP (S++(mD k1).foldl (dj l S) P),(mD k1).foldl (dj l S) P)):=by
 have l2:decide ((0:Int) < 2)=true:=rfl
 have z0:decide ((0:Int)=0)=true:=rfl
 have w1:wrap .i64 ((0:Int)+1)=1:=rfl
 have q1:H9 N (k1.1,k1.2)=some (k1.1 - 1,k1.2 - 1,1,k1.1+1,k1.2 - 1,-1,k1.1,k1.2,-1,k1.1,k1.2,1):=Af hN k1 hk
 have q2:=ym hN l hs hl out S P hP k1
 generalize (mD k1).foldl (dj l S) P=P1 at *
 simp only [bB,l2,z0,cond_true,cond_false,ir,iu,cn,cj,eH,eI,cT.cells,cT.bA,Bool.and_self,Bool.and_true,decide_true,Option.bind_some,q1,q2,Nat.beq_refl,w1,List.length_map]
theorem Mf (l:List aQ) (hs:vq (ltOf fL) l) (hl:l.length≤1000000) (out:yA) (S P:List aQ) (hP:P.length≤100000) (k1 k2:Int × Int) (hk:MT k2) :
  bB N l (k1.1,k1.2,k2.1,k2.2) (out,(),1,bP (S++P),P)=some (.inl (out,(),2,bP (S++(mD k2).foldl (dj l S) P),(mD k2).foldl (dj l S) P)):=by
 have l2:decide ((1:Int) < 2)=true:=rfl
 have z0:decide ((1:Int)=0)=false:=rfl
 have z1:decide ((1:Int)=1)=true:=rfl
 have w1:wrap .i64 ((1:Int)+1)=2:=rfl
 have q1:H9 N (k2.1,k2.2)=some (k2.1 - 1,k2.2 - 1,1,k2.1+1,k2.2 - 1,-1,k2.1,k2.2,-1,k2.1,k2.2,1):=Af hN k2 hk
 have q2:=ym hN l hs hl out S P hP k2
 generalize (mD k2).foldl (dj l S) P=P1 at *
 simp only [bB,l2,z0,z1,cond_true,cond_false,ir,iu,cn,cj,eH,eI,cT.cells,cT.bA,Bool.and_self,Bool.and_true,decide_true,Option.bind_some,q1,q2,Nat.beq_refl,w1,List.length_map]
theorem Mg (l:List aQ) (out:yA) (S P:List aQ) (y:Int × Int × Int × Int) :
  bB N l y (out,(),2,bP S,P)=some (.inr (out,(),bP S,P)):=by
 have l2:decide ((2:Int) < 2)=false:=rfl
 simp only [bB,l2,cond_false,cond_true,ir,iu,cn,cj,eH,eI,cT.cells,cT.bA,Bool.and_self,Bool.and_true,decide_true,Option.bind_some,Nat.beq_refl,List.length_map]
def pJ (l S P:List aQ) (b:aQ):List aQ:=(mD (fD b)).foldl (dj l S) ((mD (eP b)).foldl (dj l S) P)
omit hN in
theorem Mh (l S P:List aQ) (k:Int × Int):((mD k).foldl (dj l S) P).length≤P.length+4:=by
 show (dj l S (dj l S (dj l S (dj l S P (k.1 - 1,k.2 - 1,1)) (k.1+1,k.2 - 1,-1)) (k.1,k.2,-1)) (k.1,k.2,1)).length≤_
 have i1:=kV l S P (k.1 - 1,k.2 - 1,1)
 generalize dj l S P (k.1 - 1,k.2 - 1,1)=P1 at *
 have i2:=kV l S P1 (k.1+1,k.2 - 1,-1)
 generalize dj l S P1 (k.1+1,k.2 - 1,-1)=P2 at *
 have i3:=kV l S P2 (k.1,k.2,-1)
 generalize dj l S P2 (k.1,k.2,-1)=P3 at *
 have i4:=kV l S P3 (k.1,k.2,1)
 omega
theorem Mi (l:List aQ) (hs:vq (ltOf fL) l) (hl:l.length≤1000000) (out:yA) (S P:List aQ) (hP:P.length≤50000) (b:aQ) (h1:MT (eP b)) (h2:MT (fD b)) :
  aN (bB N l (b.1,b.2.1,fD b)) N (out,(),0,bP (S++P),P)=some (out,(),bP (S++pJ l S P b),pJ l S P b):=by
 unfold pJ
 have i1:=Mh l S P (eP b)
 have e0:bB N l (b.1,b.2.1,fD b) (out,(),0,bP (S++P),P)=_:=Me hN l hs hl out S P (by omega) (eP b) (fD b) h1
 generalize (mD (eP b)).foldl (dj l S) P=P1 at *
 have e1:bB N l (b.1,b.2.1,fD b) (out,(),1,bP (S++P1),P1)=_:=Mf hN l hs hl out S P1 (by omega) (eP b) (fD b) h2
 generalize (mD (fD b)).foldl (dj l S) P1=P2 at *
 have e2:=Mg hN l out (S++P2) P2 (b.1,b.2.1,fD b)
 obtain ⟨n,hn⟩:∃ n,N=n+3:=⟨N - 3,by unfold e7 at hN; omega⟩
 have key:∀ m,m=n+3→aN (bB N l (b.1,b.2.1,fD b)) m (out,(),0,bP (S++P),P)=some (out,(),bP (S++P2),P2):=by
  rintro m rfl
  rw [a6,e0,Option.bind_some,Sum.elim_inl,a6,e1,Option.bind_some,Sum.elim_inl,a6,e2]
  rfl
 exact key N hn
theorem Ii (l:List aQ) (hs:vq (ltOf fL) l) (hl:l.length≤1000000) (out:yA) (S P:List aQ) (hP:P.length≤50000) (i:Nat) (hi:i < P.length) (h1:MT (eP P[i])) (h2:MT (fD P[i])) :
  dD N l (out,(),(i:Int),bP (S++P),P)=some (.inl (out,(),((i+1:Nat):Int),bP (S++pJ l S P P[i]),pJ l S P P[i])):=by
 have ne:((i:Int) == (P.length:Int))=false:=beq_false_of_ne (by omega)
 obtain ⟨a1,a2⟩:=eF P hi
 have i1:decide ((0:Int)≤(i:Int)∧(i:Int) < (P.length:Int))=true:=decide_eq_true (by omega)
 have i2:decide (i < P.length)=true:=decide_eq_true hi
 have q1:C7 N (P[i].1,P[i].2.1,P[i].2.2)=some (P[i].1,P[i].2.1,fD P[i]):=z8 N P[i]
 have q2:=Mi hN l hs hl out S P hP P[i] h1 h2
 generalize pJ l S P P[i]=P2 at *
 simp only [dD,gA,List.length_map,ne,cond_false,cond_true,i1,i2,Nat.zero_add,Int.toNat_natCast,a1,a2,q1,ir,iu,cn,cj,eH,eI,cT.cells,cT.bA,Bool.and_self,Bool.and_true,decide_true,Option.bind_some,Nat.beq_refl,q2,bN (show i < 9223372036854775807 by omega)]
theorem Mj (l:List aQ) (out:yA) (S P:List aQ) :
  dD N l (out,(),(P.length:Int),bP S,P)=some (.inr (out,(),bP S,P)):=by
 have e:((P.length:Int) == (P.length:Int))=true:=beq_self_eq_true _
 simp only [dD,gA,List.length_map,e,cond_true,ir,iu,cn,cj,eH,eI,cT.cells,cT.bA,Bool.and_self,Bool.and_true,decide_true,Option.bind_some,Nat.beq_refl]
end
end Go.Proofs.YtldcljfjjoidhaaGreatDoor
namespace Go.Proofs.YtldcljfjjoidhaaGreatDoor
open Go Go.Am Go.Sort
open List (map)
open Int (toNat)
open Go.IntKind (wrap)
open Go.Am.aO (fits)
set_option maxRecDepth 100000
theorem Mk (l S P:List aQ) (b x:aQ):x∈dj l S P b↔x∈P∨(x=b∧b∈l∧b∉S):=by
 unfold dj
 by_cases h1:b∈S++P
 ·rw [if_pos h1]
  constructor
  ·exact .inl
  ·rintro (h | ⟨rfl,h2,h3⟩)
   ·exact h
   ·exact (List.mem_append.1 h1).resolve_left h3
 ·rw [if_neg h1]
  have sO:b∉S:=fun h=>h1 (List.mem_append.2 (.inl h))
  by_cases h2:b∈l
  ·rw [if_pos h2,List.mem_append,List.mem_singleton]
   constructor
   ·rintro (h | rfl)
    ·exact .inl h
    ·exact .inr ⟨rfl,h2,sO⟩
   ·rintro (h | ⟨rfl,-,-⟩)
    ·exact .inl h
    ·exact .inr rfl
  ·rw [if_neg h2]
   constructor
   ·exact .inl
   ·rintro (h | ⟨rfl,h3,-⟩)
    ·exact h
    ·exact absurd h3 h2
theorem Ml (l S P:List aQ) (b:aQ):∃ t,dj l S P b=P++t∧(P.Nodup→(dj l S P b).Nodup):=by
 unfold dj
 by_cases h1:b∈S++P
 ·rw [if_pos h1]; exact ⟨[],by simp,id⟩
 ·rw [if_neg h1]
  by_cases h2:b∈l
  ·rw [if_pos h2]
   refine ⟨[b],rfl,fun h=>?_⟩
   rw [List.nodup_append]
   refine ⟨h,by simp,fun x hx y hy=>?_⟩
   rw [List.mem_singleton] at hy
   subst hy
   rintro rfl
   exact h1 (List.mem_append.2 (.inr hx))
  ·rw [if_neg h2]; exact ⟨[],by simp,id⟩
theorem yn (l S:List aQ) (x:aQ):∀ (ks P:List aQ),x∈ks.foldl (dj l S) P↔x∈P∨(x∈ks∧x∈l∧x∉S)
 | [],P=>by simp
 | b :: ks,P=>by
  rw [List.foldl_cons,yn l S x ks,Mk,List.mem_cons]
  constructor
  ·rintro ((h | ⟨rfl,h2,h3⟩) | ⟨h1,h2,h3⟩)
   ·exact .inl h
   ·exact .inr ⟨.inl rfl,h2,h3⟩
   ·exact .inr ⟨.inr h1,h2,h3⟩
  ·rintro (h | ⟨rfl | h1,h2,h3⟩)
   ·exact .inl (.inl h)
   ·exact .inl (.inr ⟨rfl,h2,h3⟩)
   ·exact .inr ⟨h1,h2,h3⟩
theorem yo (l S:List aQ):∀ (ks P:List aQ),∃ t,ks.foldl (dj l S) P=P++t∧(P.Nodup→(ks.foldl (dj l S) P).Nodup)
 | [],P=>⟨[],by simp,id⟩
 | b :: ks,P=>by
  obtain ⟨t1,e1,n1⟩:=Ml l S P b
  obtain ⟨t2,e2,gU⟩:=yo l S ks (dj l S P b)
  rw [List.foldl_cons]
  exact ⟨t1++t2,by rw [e2,e1,List.append_assoc],fun h=>gU (n1 h)⟩
theorem Fq {b:aQ} (h:gz b=0):fD b=(b.1+b.2.2,b.2.1+1)∧MT (eP b)∧MT (fD b):=by
 obtain ⟨c1,c2,c3⟩:=j7 h
 have k1:=fX c1
 have k2:=fX c3
 unfold eP at k1
 simp only at k1
 refine ⟨?_,?_,?_⟩
 ·unfold fD
  rw [ki (by omega),ki (by omega)]
 ·unfold MT eP
  simp only
  omega
 ·unfold MT
  omega
theorem kW {y:aQ} (h:gz y=0) (k:Int × Int):y∈mD k↔eP y=k∨fD y=k:=by
 obtain ⟨c1,c2,c3⟩:=j7 h
 obtain ⟨u1,-,-⟩:=Fq h
 rw [u1]
 obtain ⟨a,b,s⟩:=y
 obtain ⟨k1,k2⟩:=k
 unfold mD eP
 simp only [List.mem_cons,List.not_mem_nil,or_false,Prod.mk.injEq] at c2 ⊢
 constructor
 ·rintro (⟨rfl,rfl,rfl⟩ | ⟨rfl,rfl,rfl⟩ | ⟨rfl,rfl,rfl⟩ | ⟨rfl,rfl,rfl⟩)
  ·exact .inr ⟨by omega,by omega⟩
  ·exact .inr ⟨by omega,by omega⟩
  ·exact .inl ⟨rfl,rfl⟩
  ·exact .inl ⟨rfl,rfl⟩
 ·rintro (⟨rfl,rfl⟩ | ⟨rfl,rfl⟩)
  ·rcases c2 with rfl | rfl
   ·exact .inr (.inr (.inl ⟨rfl,rfl,rfl⟩))
   ·exact .inr (.inr (.inr ⟨rfl,rfl,rfl⟩))
  ·rcases c2 with rfl | rfl
   ·exact .inr (.inl ⟨by omega,by omega,rfl⟩)
   ·exact .inl ⟨by omega,by omega,rfl⟩
theorem Dq {l:List aQ} (hv:∀ b∈l,gz b=0) (S P:List aQ) (b x:aQ):x∈pJ l S P b↔x∈P∨(x∈l∧x∉S∧kU b x=true):=by
 unfold pJ
 rw [yn,yn]
 unfold kU
 simp only [Bool.or_eq_true,decide_eq_true_eq]
 constructor
 ·rintro ((h | ⟨h1,h2,h3⟩) | ⟨h1,h2,h3⟩)
  ·exact .inl h
  ·refine .inr ⟨h2,h3,?_⟩
   rcases (kW (hv x h2) _).1 h1 with h | h
   ·exact .inl (.inl (.inl h.symm))
   ·exact .inl (.inl (.inr h.symm))
  ·refine .inr ⟨h2,h3,?_⟩
   rcases (kW (hv x h2) _).1 h1 with h | h
   ·exact .inl (.inr h.symm)
   ·exact .inr h.symm
 ·rintro (h | ⟨h2,h3,((h | h) | h) | h⟩)
  ·exact .inl (.inl h)
  ·exact .inl (.inr ⟨(kW (hv x h2) _).2 (.inl h.symm),h2,h3⟩)
  ·exact .inl (.inr ⟨(kW (hv x h2) _).2 (.inr h.symm),h2,h3⟩)
  ·exact .inr ⟨(kW (hv x h2) _).2 (.inl h.symm),h2,h3⟩
  ·exact .inr ⟨(kW (hv x h2) _).2 (.inr h.symm),h2,h3⟩
theorem Mm (l S P:List aQ) (b:aQ):∃ t,pJ l S P b=P++t∧(P.Nodup→(pJ l S P b).Nodup):=by
 obtain ⟨t1,e1,n1⟩:=yo l S (mD (eP b)) P
 obtain ⟨t2,e2,gU⟩:=yo l S (mD (fD b)) ((mD (eP b)).foldl (dj l S) P)
 unfold pJ
 exact ⟨t1++t2,by rw [e2,e1,List.append_assoc],fun h=>gU (n1 h)⟩
def Yp (l S:List aQ) (c:aQ) (Q:List aQ):Prop:=Q.Nodup∧c∈Q∧∀ x∈Q,x∈l∧x∉S∧Gy l c x
section
variable {N:Nat} (hN:e7 N)
include hN
theorem Mn (l:List aQ) (h:dH l=0) (out:yA) (S:List aQ) (c:aQ) (hc:c∈l) (hS:c∉S) :
  ∃ F,aN (dD N l) N (out,(),0,bP (S++[c]),[c])=some (out,(),bP (S++F),F)∧Yp l S c F∧∀ x∈F,∀ y∈l,kU x y=true→y∈S++F:=by
 obtain ⟨g1,g2,g3⟩:=cX h
 obtain ⟨x,h1,F,rfl,h2,h3⟩:=px (rd:=dD N l) (fun v=>∃ (Q:List aQ) (i:Nat),v=(out,(),(i:Int),bP (S++Q),Q)∧i≤Q.length∧Yp l S c Q∧∀ j (hj:j < Q.length),j < i→∀ y∈l,kU Q[j] y=true→y∈S++Q)
  (fun v=>l.length - v.2.2.1.toNat) (fun x=>∃ F,x=(out,(),bP (S++F),F)∧Yp l S c F∧∀ x∈F,∀ y∈l,kU x y=true→y∈S++F) (by
  rintro v ⟨Q,i,rfl,hi,⟨q1,q2,q3⟩,hq⟩
  have ql:=e9 Q l q1 fun x hx=>(q3 x hx).1
  by_cases cg:i < Q.length
  ·have hb:=g2 _ (q3 _ (List.getElem_mem cg)).1
   obtain ⟨-,u2,u3⟩:=Fq hb
   have st:=Ii hN l g3 (by omega) out S Q (by omega) i cg u2 u3
   obtain ⟨t,et,en⟩:=Mm l S Q Q[i]
   refine .inl ⟨_,st,⟨pJ l S Q Q[i],i+1,rfl,?_,⟨en q1,?_,fun x hx=>?_⟩,fun j hj Ym y hy yx=>?_⟩,?_⟩
   ·rw [et,List.length_append]; omega
   ·rw [et]; exact List.mem_append.2 (.inl q2)
   ·rcases (Dq g2 S Q Q[i] x).1 hx with hx | ⟨x1,x2,x3⟩
    ·exact q3 x hx
    ·exact ⟨x1,x2,.step (q3 _ (List.getElem_mem cg)).2.2 x1 x3⟩
   ·by_cases hyS:y∈S
    ·exact List.mem_append.2 (.inl hyS)
    ·refine List.mem_append.2 (.inr ((Dq g2 S Q Q[i] y).2 ?_))
     by_cases hje:j=i
     ·subst hje
      have e:(pJ l S Q Q[j])[j]=Q[j]:=by
       have:(pJ l S Q Q[j])[j]?=Q[j]?:=by rw [et,List.getElem?_append_left cg]
       rw [List.getElem?_eq_getElem hj,List.getElem?_eq_getElem cg] at this
       exact Option.some.inj this
      rw [e] at yx
      exact .inr ⟨hy,hyS,yx⟩
     ·have hjQ:j < Q.length:=by omega
      have e:(pJ l S Q Q[i])[j]=Q[j]:=by
       have:(pJ l S Q Q[i])[j]?=Q[j]?:=by rw [et,List.getElem?_append_left hjQ]
       rw [List.getElem?_eq_getElem hj,List.getElem?_eq_getElem hjQ] at this
       exact Option.some.inj this
      rw [e] at yx
      rcases List.mem_append.1 (hq j hjQ (by omega) y hy yx) with h5 | h5
      ·exact absurd h5 hyS
      ·exact .inl h5
   ·show l.length - toNat ((i+1:Nat):Int) < l.length - toNat (i:Int)
    rw [Int.toNat_natCast,Int.toNat_natCast]
    omega
  ·have hiq:i=Q.length:=by omega
   subst hiq
   refine .inr ⟨_,Mj hN l out (S++Q) Q,Q,rfl,⟨q1,q2,q3⟩,fun x hx y hy yx=>?_⟩
   obtain ⟨j,hj,rfl⟩:=List.getElem_of_mem hx
   exact hq j hj hj y hy yx) N (out,(),0,bP (S++[c]),[c]) ⟨[c],0,rfl,by simp,⟨by simp,by simp,fun x hx=>by rw [List.mem_singleton] at hx; subst hx; exact ⟨hc,hS,.base⟩⟩,fun j _ hj=>by omega⟩ (by
   show l.length - toNat 0 < N
   unfold e7 at hN
   omega)
 exact ⟨F,h1,h2,h3⟩
end
theorem Bt {l S:List aQ} {c:aQ} {F:List aQ} (hg:Yp l S c F) (hS:∀ x∈S,x∈l∧∀ y∈l,kU x y=true→y∈S) (hF:∀ x∈F,∀ y∈l,kU x y=true→y∈S++F) (x:aQ):x∈F↔Gy l c x:=by
 obtain ⟨q1,q2,q3⟩:=hg
 constructor
 ·exact fun hx=>(q3 x hx).2.2
 ·intro hx
  induction hx with
  | base=>exact q2
  | step ha hy ht ih=>
   rename_i a y
   rcases List.mem_append.1 (hF a ih y hy ht) with h | h
   ·exact absurd ((hS y h).2 a (q3 a ih).1 (by rw [Ic]; exact ht)) (q3 a ih).2.1
   ·exact h
theorem QG {l S:List aQ} {c:aQ} {F:List aQ} (hc:c∈l) (hg:Yp l S c F) (hS:∀ x∈S,x∈l∧∀ y∈l,kU x y=true→y∈S) (hF:∀ x∈F,∀ y∈l,kU x y=true→y∈S++F):F.mergeSort (fun x y=>!(ltOf fL) y x)=gN l c:=by
 obtain ⟨s1,s2⟩:=Lq tq F
 have n1:vq (ltOf fL) (gN l c):=(mw tq HZ (0,0,0) (vx l l.length [c] 0)).1
 refine Gn tq ?_ n1 (fun x=>by rw [s2,ko l c hc,Bt hg hS hF])
 have hn:(F.mergeSort (fun x y=>!(ltOf fL) y x)).Nodup:=(List.mergeSort_perm F _).nodup_iff.2 hg.1
 refine List.Pairwise.imp₂ ?_ s1 hn
 intro a b RL cm
 cases hc:ltOf fL a b with
 | true=>rfl
 | false=>exact absurd (HZ a b hc RL) cm
end Go.Proofs.YtldcljfjjoidhaaGreatDoor
namespace Go.Proofs.YtldcljfjjoidhaaGreatDoor
open Go Go.Am Go.Sort
open List (map)
open Int (toNat)
open Go.IntKind (wrap)
open Go.Am.aO (fits)
set_option maxRecDepth 100000
def Mo (l:List aQ) (s:yA × List aQ) (k:Nat):Prop:=s.1=(l.take k).foldl (qK l) []∧(∀ x,x∈s.2↔∃ p∈s.1,x∈p)∧s.1.length≤k∧∀ p∈s.1,∃ c∈l,p=gN l c
theorem Dr {l:List aQ} {s:yA × List aQ} {k:Nat} (h:Mo l s k):∀ x∈s.2,x∈l∧∀ y∈l,kU x y=true→y∈s.2:=by
 intro x hx
 obtain ⟨h1,h2,h3,h4⟩:=h
 obtain ⟨p,hp,hxp⟩:=(h2 x).1 hx
 obtain ⟨c,hc,rfl⟩:=h4 p hp
 have hr:=(ko l c hc x).1 hxp
 exact ⟨hr.Yn hc,fun y hy ht=>(h2 y).2 ⟨_,hp,(ko l c hc y).2 (.step hr hy ht)⟩⟩
theorem yp {α β:Type} (f:β→α→β) (b:β) (l:List α) {k:Nat} (hk:k < l.length):(l.take (k+1)).foldl f b=f ((l.take k).foldl f b) l[k]:=by
 rw [List.take_add_one,List.getElem?_eq_getElem hk,List.foldl_append]
 rfl
section
variable {N:Nat} (hN:e7 N)
include hN
theorem Mp (l:List aQ) (h:dH l=0) (s:yA × List aQ) (k:Nat) (hk:k < l.length) (hP:Mo l s k):∃ s':yA × List aQ,fZ N l (s.1,(k:Int),bP s.2)=some (.inl (s'.1,((k+1:Nat):Int),bP s'.2))∧Mo l s' (k+1):=by
 obtain ⟨g1,g2,g3⟩:=cX h
 have iz:=Dr hP
 obtain ⟨out,S⟩:=s
 obtain ⟨h1,h2,h3,h4⟩:=hP
 simp only at h1 h2 h3 h4 iz
 obtain ⟨a1,a2⟩:=eF l hk
 have hb:l[k]∈l:=List.getElem_mem hk
 generalize hbe:l[k]=b at *
 have kk:dZ BK (.agg [.int .i64 b.1,.int .i64 b.2.1,.int .i64 b.2.2]) (ab (map aS (bP S)))=true:=cT.keys b _
 have kg:cM BK (.agg [.int .i64 b.1,.int .i64 b.2.1,.int .i64 b.2.2]) (AV.bool false) (ab (map aS (bP S)))=AV.bool (decide (b∈S)):=by
  have:=cT.getD b false (bP S)
  rw [oN] at this
  exact this
 have fb:∀ x:Bool,fits p4 (AV.bool x)=true:=fun _=>rfl
 have db:∀ x:Bool,Ug (AV.bool x)=x:=fun _=>rfl
 have Jy:(out.any fun p=>decide (b∈p))=decide (b∈S):=by
  rw [Bool.eq_iff_iff,decide_eq_true_eq,h2 b,List.any_eq_true]
  constructor
  ·rintro ⟨p,hp,e⟩; exact ⟨p,hp,of_decide_eq_true e⟩
  ·rintro ⟨p,hp,e⟩; exact ⟨p,hp,decide_eq_true e⟩
 have zn:(l.take (k+1)).foldl (qK l) []=if b∈S then out else out++[gN l b]:=by
  rw [yp (qK l) [] l hk,← h1,hbe]
  unfold qK
  rw [Jy]
  by_cases hS:b∈S
  ·rw [if_pos hS,if_pos (decide_eq_true hS)]
  ·rw [if_neg hS,if_neg (by simpa using hS)]
 by_cases hS:b∈S
 ·rw [decide_eq_true hS] at kg
  rw [if_pos hS] at zn
  refine ⟨(out,S),?_,zn.symm,h2,by simp only; omega,h4⟩
  simp only [fZ,ca,iJ,List.length_map,aX hk,ay hk,Int.toNat_natCast,a1,a2,kk,kg,fb,db,ir,iu,eH,eI,cT.cells,cT.bA,Bool.and_self,Bool.and_true,cond_true,decide_true,Option.bind_some,bN (show k < 9223372036854775807 by omega)]
 ·rw [decide_eq_false hS] at kg
  rw [if_neg hS] at zn
  obtain ⟨F,f1,f2,f3⟩:=Mn hN l h out S b hb hS
  have srt:=QG hb f2 iz f3
  have fl:=e9 F l f2.1 fun x hx=>(f2.2.2 x hx).1
  have kp:eN BK (.agg [.int .i64 b.1,.int .i64 b.2.1,.int .i64 b.2.2]) (AV.bool true) (ab (map aS (bP S)))=ab (map aS (bP (S++[b]))):=by
   have:=cT.put b true (bP S)
   rw [oO _ _ hS] at this
   exact this
  have es:ms au fL (map ae F)=map ae (gN l b):=by
   unfold ms
   rw [show map au.bo (map ae F)=F from cj _,← srt]
   rfl
  have sl:(gN l b).length=F.length:=by rw [← srt,List.length_mergeSort]
  have z1:allFit (fits au) [AV.agg [AV.int .i64 b.1,AV.int .i64 b.2.1,AV.int .i64 b.2.2]]=true:=rfl
  have z2:map ak [AV.agg [AV.int .i64 b.1,AV.int .i64 b.2.1,AV.int .i64 b.2.2]]=[b]:=rfl
  have z3:Nat.beq 1 1=true:=rfl
  have I2:decide (F.length≤140737488355328)=true:=decide_eq_true (by omega)
  have Jt:decide ((out.length+1) * 24≤140737488355328)=true:=decide_eq_true (by omega)
  refine ⟨(out++[gN l b],S++F),?_,zn.symm,fun x=>?_,by simp only [List.length_append,List.length_singleton]; omega,fun p hp=>?_⟩
  ·simp only [fZ,ca,iJ,List.length_map,aX hk,ay hk,Int.toNat_natCast,a1,a2,kk,kg,kp,fb,db,ir,iu,cn,cj,eH,eI,cT.cells,cT.bA,Bool.and_self,Bool.and_true,cond_true,cond_false,decide_true,Option.bind_some,z1,z2,z3,Bool.true_and,f1,es,sl,I2,Jt,H4 hN,L7,List.length_append,List.length_singleton,bN (show k < 9223372036854775807 by omega)]
  ·rw [List.mem_append,h2 x]
   constructor
   ·rintro (⟨p,hp,e⟩ | hx)
    ·exact ⟨p,List.mem_append.2 (.inl hp),e⟩
    ·exact ⟨gN l b,List.mem_append.2 (.inr (by simp)),(ko l b hb x).2 ((Bt f2 iz f3 x).1 hx)⟩
   ·rintro ⟨p,hp,e⟩
    rcases List.mem_append.1 hp with hp | hp
    ·exact .inl ⟨p,hp,e⟩
    ·rw [List.mem_singleton] at hp
     subst hp
     exact .inr ((Bt f2 iz f3 x).2 ((ko l b hb x).1 e))
  ·rcases List.mem_append.1 hp with hp | hp
   ·exact h4 p hp
   ·rw [List.mem_singleton] at hp
    exact ⟨b,hb,hp⟩
def dJ (l:List aQ):yA:=l.foldl (qK l) []
theorem Ij (l:List aQ):Zm N l=some (if dH l=0 then (dJ l,0) else ([],dH l)):=by
 rw [UJ]
 simp only [cn,cj,Bool.and_true,cond_true,Option.bind_some,Bo hN,H0]
 by_cases h:dH l=0
 ·rw [if_pos h,if_pos h]
  obtain ⟨g1,g2,g3⟩:=cX h
  obtain ⟨x,e1,s,rfl,e2⟩:=zZ (rd:=fZ N l) l.length (fun (s:yA × List aQ) k=>(s.1,(k:Int),bP s.2)) (Mo l) (fun x=>∃ s:yA × List aQ,x=(s.1,bP s.2)∧Mo l s l.length) (fun s k hk hP=>Mp hN l h s k hk hP) (fun s hP=>⟨(s.1,bP s.2),by
   simp only [fZ,ca,iJ,List.length_map,bJ,cond_false,cond_true,ir,iu,eH,eI,cT.cells,cT.bA,Bool.and_self,Bool.and_true,decide_true,Option.bind_some],s,rfl,hP⟩) N ([],[]) 0 (Nat.zero_le _) (by unfold e7 at hN; omega) ⟨rfl,fun x=>by simp,by simp,fun p hp=>by cases hp⟩
  have e1:aN (fZ N l) N ([],0,[])=some (s.1,bP s.2):=e1
  have z:((bif (allFit (fits cG) ([]:List AV)&&allFit (fits cR) (an ([]:List (AV × AV)))) then some ((map dR ([]:List AV)),0,(map fw (an ([]:List (AV × AV))))) else none:Option (yA × Int × List (aQ × Bool))).bind fun Ye=>bif bA ([]:List (AV × AV))&&decide (0=Ye.1.length) then some Ye else none)=some ([],0,[]):=rfl
  simp only [List.length_map,z,Option.bind_some,e1,ir,iu,cond_true]
  have:=e2.1
  rw [List.take_length] at this
  rw [this]
  rfl
 ·rw [if_neg h,if_neg h]
  rfl
end
end Go.Proofs.YtldcljfjjoidhaaGreatDoor
namespace Go.Proofs.YtldcljfjjoidhaaGreatDoor
open Go Go.Am Go.Sort
open List (map)
open Int (toNat)
open Go.IntKind (wrap)
open Go.Am.aO (fits)
set_option maxRecDepth 100000
theorem Ds {κ ν:Type} [DecidableEq κ]:∀ {m:List (κ × ν)} {x:κ × ν},(m.map Prod.fst).Nodup→x∈m→getM x.1 m=some x.2
 | [],x,_,h=>by cases h
 | (k',v') :: m,x,hn,h=>by
  rw [List.map_cons,List.nodup_cons] at hn
  unfold getM
  rcases List.mem_cons.1 h with rfl | h
  ·rw [if_pos rfl]
  ·rw [if_neg,Ds hn.2 h]
   intro e
   exact hn.1 (List.mem_map.2 ⟨x,h,e⟩)
def qL (m:List (XA × Int)) (k:Int × Int):Int:=(getM k m).getD 0
theorem Dt (m:List (XA × Int)) (a b:Int) (h:0≤qL m (a,b)∧qL m (a,b)≤1000000) (k:Int × Int):qL (qD m a b) k=qL m k+if k=(a,b) then 1 else 0:=by
 unfold qL at *
 unfold qD
 rw [xF]
 by_cases e:k=(a,b)
 ·subst e
  rw [if_pos rfl,if_pos rfl]
  show wrap .i64 _=_
  rw [ki (by omega)]
 ·rw [if_neg e,if_neg e]
  omega
theorem Ik (m:List (XA × Int)) (a b:Int):(qD m a b).map Prod.fst=if (a,b)∈m.map Prod.fst then m.map Prod.fst else m.map Prod.fst++[(a,b)]:=by
 unfold qD
 refine (zV (κ:=Int × Int) (ν:=Int)).trans ?_
 by_cases h:(a,b)∈m.map Prod.fst
 ·rw [if_pos h,if_pos h]
 ·rw [if_neg h,if_neg h]
theorem Il (b:aQ) (l:List aQ) (k:Int × Int):jN (b :: l) k=jN l k+if eP b=k∨fD b=k then 1 else 0:=by
 unfold jN
 rw [List.filter_cons]
 by_cases h:eP b=k∨fD b=k
 ·rw [if_pos h,if_pos (by simpa using h),List.length_cons]
 ·rw [if_neg h,if_neg (by simpa using h)]
  rfl
theorem Mq {b:aQ} (h:gz b=0):eP b≠fD b:=by
 obtain ⟨u1,-,-⟩:=Fq h
 rw [u1]
 intro e
 have:=congrArg Prod.snd e
 simp only [eP] at this
 omega
theorem Mr {b:aQ} (h:gz b=0) (m:List (XA × Int)) (n:Int) (hm:∀ k,0≤qL m k∧qL m k≤n) (hn:n≤900000) (k:Int × Int):qL (xI m b) k=qL m k+if eP b=k∨fD b=k then 1 else 0:=by
 have cm:=Mq h
 unfold xI
 have e1:=Dt m (qE b).1 (qE b).2 (by have:=hm ((qE b).1,(qE b).2); omega)
 have e2:=Dt (qD m (qE b).1 (qE b).2) (Gi b).1 (Gi b).2 (by
  rw [e1]
  have:=hm ((Gi b).1,(Gi b).2)
  split <;> omega) k
 rw [e2,e1]
 have l1:((qE b).1,(qE b).2)=eP b:=rfl
 have l2:((Gi b).1,(Gi b).2)=fD b:=rfl
 rw [l1,l2]
 by_cases h1:k=eP b
 ·subst h1
  rw [if_pos rfl,if_neg cm,if_pos (.inl rfl)]
  omega
 ·by_cases h2:k=fD b
  ·subst h2
   rw [if_neg h1,if_pos rfl,if_pos (.inr rfl)]
   omega
  ·rw [if_neg h1,if_neg h2,if_neg (by rintro (h | h); exact h1 h.symm; exact h2 h.symm)]
   omega
theorem Du:∀ (l:List aQ) (m:List (XA × Int)) (n:Int),(∀ b∈l,gz b=0)→(∀ k,0≤qL m k∧qL m k≤n)→n+l.length≤900000→∀ k,qL (l.foldl xI m) k=qL m k+jN l k
 | [],m,n,_,_,_,k=>by simp [jN]
 | b :: l,m,n,hv,hm,hn,k=>by
  rw [List.length_cons] at hn
  have e:=Mr (hv b (by simp)) m n hm (by omega)
  rw [List.foldl_cons,Du l (xI m b) (n+1) (fun x hx=>hv x (List.mem_cons_of_mem _ hx)) (fun k=>by
   rw [e]
   have:=hm k
   split <;> omega) (by omega) k,e,Il]
  split <;> omega
theorem tC:∀ (l:List aQ) (m:List (XA × Int)),(m.map Prod.fst).Nodup→((l.foldl xI m).map Prod.fst).Nodup∧∀ k,k∈(l.foldl xI m).map Prod.fst↔k∈m.map Prod.fst∨∃ b∈l,k=eP b∨k=fD b
 | [],m,h=>⟨h,fun k=>by simp⟩
 | b :: l,m,h=>by
  have one:∀ (m:List (XA × Int)) (q:Int × Int),(m.map Prod.fst).Nodup→((qD m q.1 q.2).map Prod.fst).Nodup∧∀ k,k∈(qD m q.1 q.2).map Prod.fst↔k∈m.map Prod.fst∨k=q:=fun m q h=>by
   rw [Ik]
   by_cases hq:(q.1,q.2)∈m.map Prod.fst
   ·rw [if_pos hq]
    refine ⟨h,fun k=>⟨.inl,?_⟩⟩
    rintro (h | rfl)
    ·exact h
    ·exact hq
   ·rw [if_neg hq]
    refine ⟨?_,fun k=>?_⟩
    ·rw [List.nodup_append]
     refine ⟨h,by simp,fun x hx y hy=>?_⟩
     rw [List.mem_singleton] at hy
     subst hy
     rintro rfl
     exact hq hx
    ·rw [List.mem_append,List.mem_singleton]
  obtain ⟨a1,a2⟩:=one m (qE b) h
  obtain ⟨b1,b2⟩:=one (qD m (qE b).1 (qE b).2) (Gi b) a1
  obtain ⟨c1,c2⟩:=tC l (xI m b) b1
  rw [List.foldl_cons]
  refine ⟨c1,fun k=>?_⟩
  have b2':k∈(xI m b).map Prod.fst↔k∈(qD m (qE b).1 (qE b).2).map Prod.fst∨k=Gi b:=b2 k
  rw [c2,b2',a2]
  constructor
  ·rintro (((h | h) | h) | ⟨d,hd,h⟩)
   ·exact .inl h
   ·exact .inr ⟨b,by simp,.inl h⟩
   ·exact .inr ⟨b,by simp,.inr h⟩
   ·exact .inr ⟨d,List.mem_cons_of_mem _ hd,h⟩
  ·rintro (h | ⟨d,hd,h⟩)
   ·exact .inl (.inl (.inl h))
   ·rcases List.mem_cons.1 hd with rfl | hd
    ·rcases h with h | h
     ·exact .inl (.inl (.inr h))
     ·exact .inl (.inr h)
    ·exact .inr ⟨d,hd,h⟩
theorem Im {l:List aQ} (hn:l.Nodup) (hv:∀ b∈l,gz b=0) (k:Int × Int):jN l k≤4:=by
 unfold jN
 have h1:(l.filter fun b=>decide (eP b=k) || decide (fD b=k)).Nodup:=hn.filter _
 refine e9 _ (mD k) h1 fun x hx=>?_
 obtain ⟨h2,h3⟩:=List.mem_filter.1 hx
 exact (kW (hv x h2) k).2 (by simpa using h3)
theorem Dv (m:List (XA × Int)) (j:Int):iO m j (List.range m.length)=(m.countP fun x=>decide (x.2=j):Nat):=by
 have e:(List.range m.length).map (fun i=>m.getD i ((0,0),0))=m:=by
  refine List.ext_getElem (by simp) fun i h1 h2=>?_
  simp [h2]
 unfold iO
 conv=>rhs; rw [← e,List.countP_map]
 rfl
theorem GG:∀ (m:List (XA × Int)),(∀ x∈m,0≤x.2∧x.2≤4)→(m.countP fun x=>decide (x.2=1))+(m.countP fun x=>decide (x.2=3))=m.countP fun x=>decide (x.2 % 2=1)
 | [],_=>rfl
 | x :: m,h=>by
  have ih:=GG m fun y hy=>h y (List.mem_cons_of_mem _ hy)
  have hx:=h x (by simp)
  rw [List.countP_cons,List.countP_cons,List.countP_cons,← ih]
  by_cases e1:x.2=1
  ·simp [e1]; omega
  ·by_cases e3:x.2=3
   ·simp [e3]; omega
   ·have:¬ x.2 % 2=1:=by omega
    simp [e1,e3,this]
theorem Dw {l:List aQ} (h:dH l=0):(zX l).2.1+(zX l).2.2.2.1=((cU l).countP (fun k=>decide (jN l k % 2=1)):Nat)∧∀ x∈li l,0≤x.2∧x.2≤4:=by
 obtain ⟨g1,g2,g3⟩:=cX h
 have hn:=pu tq g3
 obtain ⟨k1,k2⟩:=tC l [] (by simp)
 have CW:=Du l [] 0 g2 (fun k=>by simp [qL,getM]) (by omega)
 have kn:(cU l).Nodup:=pu PZ (mw PZ Ui (0,0) (eJ l)).1
 have hx:∀ x∈li l,x.2=(jN l x.1:Int):=fun x hx=>by
  have e1:=Ds k1 hx
  have e2:=CW x.1
  unfold qL at e2
  have e1:getM x.1 (l.foldl xI [])=some x.2:=e1
  rw [e1] at e2
  simpa [getM] using e2
 have h4:∀ x∈li l,0≤x.2∧x.2≤4:=fun x pE=>by
  have:=Im hn g2 x.1
  rw [hx x pE]
  omega
 refine ⟨?_,h4⟩
 show iO (li l) 1 _+iO (li l) 3 _=_
 rw [Dv,Dv]
 have c1:=GG (li l) h4
 have c2:(li l).countP (fun x=>decide (x.2 % 2=1))=((li l).map Prod.fst).countP fun k=>decide (jN l k % 2=1):=by
  rw [List.countP_map]
  refine List.countP_congr fun x pE=>?_
  have:=hx x pE
  simp only [Function.comp,decide_eq_true_eq]
  rw [this]
  omega
 have c3:((li l).map Prod.fst).Perm (cU l):=by
  have k1':((li l).map Prod.fst).Nodup:=k1
  rw [List.perm_ext_iff_of_nodup k1' kn]
  intro k
  have:=k2 k
  rw [xY]
  simpa [li] using this
 rw [c2,c3.countP_eq] at c1
 omega
end Go.Proofs.YtldcljfjjoidhaaGreatDoor
