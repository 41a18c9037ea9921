/- Plain laws: the parts of a net. -/
import Derived.Test.YtfiopgedfcaodaaGreatDoorSeamWb
import Derived.Test.YtfiopgedfcaodaaGreatDoorSeamKB
set_option linter.all false
namespace Go.Proofs.YtfiopgedfcaodaaGreatDoor
open Go Go.Am
set_option maxRecDepth 100000
def kH (l:List P3) (b:P3):List P3:=yC less (0,0,0) (yX l l.length [b] 0)
def vl (l:List P3) (P:List (List P3)) (b:P3):List (List P3):=if (P.any fun p=>decide (b∈p))=true then P else P++[kH l b]
section
variable {N:Nat} (hN:cU N)
include hN
theorem VQ (l:List P3) (P:List (List P3)) (i:Nat) (hi:i < l.length) (hP:P.length≤100000) (hp:∀ p∈P,p.length≤1000000):ak (ka N l (P,(i:Int))) N (P,false,0)=some (P,P.any fun p=>decide (l[i]∈p)):=by
 obtain ⟨z1,z2⟩:=iH l hi
 have key:=bD (rd:=ka N l (P,(i:Int))) P (fun (s:Bool) k=>(P,s,(k:Int))) (fun s p=>s || decide (l[i]∈p)) (fun s=>(P,s)) (fun _ _=>True)
  (fun s k hk _=>by
   obtain ⟨a1,a2⟩:=yG P hk
   have hH:F4 N (P[k],(l[i].1,l[i].2.1,l[i].2.2))=some (decide (l[i]∈P[k])):=DX hN P[k] l[i] (hp _ (List.getElem_mem hk))
   refine ⟨?_,trivial⟩
   cases s with
   | true=>simp only [ka,List.length_map,Int.toNat_natCast,ax hk,cond_true,eH,ee,Bool.and_true,Option.bind_some,decide_true,Bool.true_or,aN (show k < 9223372036854775807 by omega)]
   | false=>simp only [ka,List.length_map,Int.toNat_natCast,ax hk,an hk,an hi,a1,a2,z1,z2,cond_true,cond_false,Bool.and_self,eN,eO,eH,ee,Bool.and_true,Option.bind_some,hH,decide_true,Bool.false_or,aN (show k < 9223372036854775807 by omega)]) (fun s _=>by
   simp only [ka,List.length_map,aJ,cond_false,eH,ee,Bool.and_true,cond_true,Option.bind_some,decide_true]) N false 0 (Nat.zero_le _) (by unfold cU at hN; omega) trivial
 rw [List.drop_zero] at key
 have gen:∀ (P:List (List P3)) (s:Bool),P.foldl (fun s p=>s || decide (l[i]∈p)) s=(s || P.any fun p=>decide (l[i]∈p)):=by
  intro P
  induction P with
  | nil=>intro s; simp
  | cons p P ih=>intro s; rw [List.foldl_cons,ih,List.any_cons,Bool.or_assoc]
 rw [gen,Bool.false_or] at key
 exact key
theorem Jc (l:List P3) (hl:l.length≤100000):T67 N l=some (l.foldl (vl l) []):=by
 have ZG:∀ b∈l,(kH l b).length≤100000:=fun b hb=>by
  have ho:([b]:List P3).Nodup∧∀ x∈[b],x∈l:=⟨by simp,fun x hx=>by rw [List.mem_singleton] at hx; subst hx; exact hb⟩
  have gen:∀ (n:Nat) (o:List P3) (i:Nat),(o.Nodup∧∀ x∈o,x∈l)→(yX l n o i).length≤l.length:=by
   intro n
   induction n with
   | zero=>intro o i h; exact gB o l h.1 h.2
   | succ n ih=>
    intro o i h
    rw [yX]
    split
    ·exact ih _ _ (sQ _ l o h fun x hx=>hx)
    ·exact gB o l h.1 h.2
  have g2:∀ (m s:List P3),(m.foldl (fun s k=>mw less (0,0,0) k s) s).length≤s.length+m.length:=by
   intro m
   induction m with
   | nil=>intro s; simp
   | cons x m ih=>
    intro s
    have h1:=ih (mw less (0,0,0) x s)
    have h2:=sN (lt:=less) (0,0,0) x s
    rw [List.foldl_cons,List.length_cons]
    omega
  have h4:=gen l.length [b] 0 ho
  have h5:(yC less (0,0,0) (yX l l.length [b] 0)).length≤([]:List P3).length+(yX l l.length [b] 0).length:=g2 (yX l l.length [b] 0) []
  unfold kH
  simp only [List.length_nil] at h5
  omega
 rw [Vt]
 have key:=bD (rd:=yq N l) l (fun (P:List (List P3)) k=>(P,(k:Int))) (vl l) (fun P=>P) (fun P k=>P.length≤k∧k≤l.length∧∀ p∈P,p.length≤100000)
  (fun P k hk hP=>by
   obtain ⟨p1,p2,p3⟩:=hP
   obtain ⟨a1,a2⟩:=iH l hk
   have hR:=VQ hN l P k hk (by omega) fun p hp=>by have:=p3 p hp; omega
   have hT:Mi N (l,(l[k].1,l[k].2.1,l[k].2.2))=some (kH l l[k]):=Ja hN l l[k] (List.getElem_mem hk) hl
   have cb:decide ((P.length+1) * 24≤140737488355328)=true:=decide_eq_true (by omega)
   constructor
   ·unfold vl
    simp only [yq,List.length_map,Int.toNat_natCast,ax hk,an hk,a1,a2,Bool.and_self,cond_true,eH,ee,eN,eO,Bool.and_true,Option.bind_some,decide_true]
    rw [hR,Option.bind_some]
    cases hA:P.any fun p=>decide (l[k]∈p) with
    | true=>simp only [Bool.not_true,cond_false,eH,ee,cond_true,Option.bind_some,decide_true,if_true,aN (show k < 9223372036854775807 by omega)]
    | false=>
     simp only [Bool.not_false,cond_true,hT,Option.bind_some,cb,HF,eH,ee,List.length_append,List.length_singleton,decide_true,Bool.false_eq_true,if_false,aN (show k < 9223372036854775807 by omega)]
     rfl
   ·unfold vl
    split
    ·exact ⟨by omega,by omega,p3⟩
    ·refine ⟨by rw [List.length_append,List.length_singleton]; omega,by omega,fun p hp=>?_⟩
     rcases List.mem_append.1 hp with hp | hp
     ·exact p3 p hp
     ·rw [List.mem_singleton] at hp
      subst hp
      exact ZG _ (List.getElem_mem hk)) (fun P _=>by
   simp only [yq,List.length_map,aJ,cond_false,eH,ee,Bool.and_true,cond_true,Option.bind_some,decide_true]) N [] 0 (Nat.zero_le _) (by unfold cU at hN; omega) ⟨Nat.le_refl _,Nat.zero_le _,fun p hp=>by cases hp⟩
 rw [List.drop_zero] at key
 have gR:ak (yq N l) N ([],0)=_:=key
 have z:(((bif (allFit (aA.fits hZ) ([]:List AV)&&true) then some ((List.map d115 ([]:List AV)),0) else none:Option ((List (List P3)) × Int)).bind fun L0=>bif (decide (0=(List.map n115 L0.1).length)&&true) then some L0 else none):Option ((List (List P3)) × Int))=some ([],0):=rfl
 rw [z,Option.bind_some,gR,Option.bind_some]
 simp only [eH,ee,cond_true]
end
end Go.Proofs.YtfiopgedfcaodaaGreatDoor
