/- Plain laws: how many points,edges and openings. -/
import Derived.Test.YtegoimldbgdeiaaSeamKA
import Derived.Test.YtegoimldbgdeiaaTrwC
set_option linter.all false
namespace Go.Proofs.Ytegoimldbgdeiaa
open Go Go.Am
open List (map)
open Int (toNat)
open Go.IntKind (wrap)
open Go.Am.aM (fits)
set_option maxRecDepth 100000
theorem EI:iq .int (fun k:Int=>AV.int .i64 k) AV.bool pC:=⟨fun a b=>Ig .i64 a b,fun _=>rfl,fun _=>rfl⟩
theorem Q9 (a:Int) (m:List (Int × Bool)):cK .int (AV.int .i64 a) (aC (map pC m))=true:=EI.keys a m
theorem Ra (a:Int) (v:Bool) (m:List (Int × Bool)):cL .int (AV.int .i64 a) (AV.bool v) (aC (map pC m))=aC (map pC (gR a v m)):=EI.put a v m
theorem jb (m:List (Int × Bool)):af (aC (map pC m))=map pC m:=EI.cells m
theorem jc (m:List (Int × Bool)):jd (aC (map pC m))=true:=EI.jd m
theorem YP (m:List (Int × Bool)):(aC (map pC m)).length=m.length:=by rw [EI.Wr,List.length_map]
def uh (l:List Int):List (Int × Bool):=l.map fun x=>(x,true)
theorem MH (l:List Int) (x:Int):gR x true (uh l)=uh (if x∈l then l else l++[x]):=by
 by_cases h:x∈l
 ·rw [if_pos h]
  induction l with
  |nil=>cases h
  |cons y l ih=>
   show gR x true ((y,true) :: uh l)=(y,true) :: uh l;unfold gR;by_cases hy:x=y
   ·rw [if_pos hy,hy]
   ·rw [if_neg hy,ih (by rcases List.mem_cons.1 h with h | h; exact absurd h hy; exact h)]
 ·rw [if_neg h];have:getM x (uh l)=none:=by unfold uh; rw [JP,if_neg h]
  rw [ED this];unfold uh;rw [List.map_append];rfl
def fH (pc:List Int) (piece p:Int):Bool:=if piece < 0 then true else pc.getD p.toNat 0 == piece
def C8 (i:Nat):Int:=(i:Int)
def po {α:Type} (pc:List Int) (piece:Int) (key:α→Int) (l:List α) (s:Int):Int:=l.foldl (fun s x=>if fH pc piece (key x)=true then s+1 else s) s
def Hd (pc:List Int) (p:Int):Prop:=0≤p∧p < (pc.length:Int)
theorem ui {pc:List Int} {p:Int} (h:Hd pc p):∃ k:Nat,p=(k:Int)∧∃ hk:k < pc.length,∀ piece,¬ piece < 0→fH pc piece p=(pc[k] == piece):=by
 obtain ⟨h1,h2⟩:=h;refine ⟨p.toNat,by omega,by omega,fun piece hp=>?_⟩;unfold fH;rw [if_neg hp,List.getD_eq_getElem?_getD,List.getElem?_eq_getElem (show p.toNat < pc.length by omega)];rfl
theorem MI {N:Nat} (hN:ey N) (t:cu) (p n z o u s0:Int) (piece:Int) (pc:List Int) (S:List (Int × Bool)) (pm:List ((Int × Int) × Int)) (c:Nat) (L:List Nat) (hl:t.2.length≤1000000) (hs:0≤s0∧s0≤1000000) (hr:∀ x∈t.2,Hd pc (x.1)) :
  ar (mo N t) N (0,p,s0,n,z,o,u,piece,pc,S,pm,(c:Int),iF L)=some (p,(po pc piece (fun x=>x.1) t.2 s0),n,z,o,u,piece,pc,S,pm,(c:Int),iF L):=by
 have key:=dL (rd:=mo N t) t.2 (fun (s:Int) k=>((k:Int),p,s,n,z,o,u,piece,pc,S,pm,(c:Int),iF L)) (fun s x=>if fH pc piece (x.1)=true then s+1 else s) (fun s=>(p,s,n,z,o,u,piece,pc,S,pm,(c:Int),iF L)) (fun s k=>0≤s∧s≤s0+(k:Int)) (fun s k hk hP=>by
  obtain ⟨a1,a2⟩:=wv t.2 hk;obtain ⟨j,ej,hj,hm⟩:=ui (hr _ (List.getElem_mem hk));obtain ⟨b1,b2⟩:=EG pc hj;have ws:wrap .i64 (s+1)=s+1:=KB ⟨by omega,by omega⟩;refine ⟨?_,by split <;> omega⟩;by_cases hp:piece < 0
  ·have em:fH pc piece (t.2[k].1)=true:=by unfold fH; rw [if_pos hp]
   rw [em];simp only [mo,List.length_map,ap hk,ah hk,a1,a2,hp,em,if_true,ws,aR (show k < 9223372036854775807 by omega),dI,dJ,jb,jc,eJ,eK,dS,dT,fA,fB,kF,kG,iG,Int.toNat_natCast,Bool.and_self,Bool.and_true,cond_true,cond_false,Option.bind_some,eq_self,decide_true]
  ·have em:=hm piece hp;have dp:decide (piece < 0)=false:=decide_eq_false hp;rw [em]
   skip
   cases hb:(pc[j] == piece)
   ·simp only [mo,List.length_map,ap hk,ah hk,a1,a2,dp,ej,ah hj,b1,b2,hb,Bool.false_eq_true,if_false,aR (show k < 9223372036854775807 by omega),dI,dJ,jb,jc,eJ,eK,dS,dT,fA,fB,kF,kG,iG,Int.toNat_natCast,Bool.and_self,Bool.and_true,cond_true,cond_false,Option.bind_some,eq_self,decide_true]
   ·simp only [mo,List.length_map,ap hk,ah hk,a1,a2,dp,ej,ah hj,b1,b2,hb,if_true,ws,aR (show k < 9223372036854775807 by omega),dI,dJ,jb,jc,eJ,eK,dS,dT,fA,fB,kF,kG,iG,Int.toNat_natCast,Bool.and_self,Bool.and_true,cond_true,cond_false,Option.bind_some,eq_self,decide_true]) (fun s _=>by
  simp only [mo,List.length_map,aJ,dI,dJ,jb,jc,eJ,eK,dS,dT,fA,fB,kF,kG,iG,Int.toNat_natCast,Bool.and_self,Bool.and_true,cond_true,cond_false,Option.bind_some,eq_self,decide_true]) N s0 0 (Nat.zero_le _) (by unfold ey at hN; omega) ⟨hs.1,by simp⟩
 rw [List.drop_zero] at key;exact key
theorem MJ {N:Nat} (hN:ey N) (fr:List (Int × Int)) (p n z o u s0:Int) (piece:Int) (pc:List Int) (S:List (Int × Bool)) (pm:List ((Int × Int) × Int)) (c:Nat) (L:List Nat) (hl:fr.length≤1000000) (hs:0≤s0∧s0≤1000000) (hr:∀ x∈fr,Hd pc (x.1)) :
  ar (mq N fr) N (0,p,s0,n,z,o,u,piece,pc,S,pm,(c:Int),iF L)=some (p,(po pc piece (fun x=>x.1) fr s0),n,z,o,u,piece,pc,S,pm,(c:Int),iF L):=by
 have key:=dL (rd:=mq N fr) fr (fun (s:Int) k=>((k:Int),p,s,n,z,o,u,piece,pc,S,pm,(c:Int),iF L)) (fun s x=>if fH pc piece (x.1)=true then s+1 else s) (fun s=>(p,s,n,z,o,u,piece,pc,S,pm,(c:Int),iF L)) (fun s k=>0≤s∧s≤s0+(k:Int)) (fun s k hk hP=>by
  obtain ⟨a1,a2⟩:=T1 fr hk;obtain ⟨j,ej,hj,hm⟩:=ui (hr _ (List.getElem_mem hk));obtain ⟨b1,b2⟩:=EG pc hj;have ws:wrap .i64 (s+1)=s+1:=KB ⟨by omega,by omega⟩;refine ⟨?_,by split <;> omega⟩;by_cases hp:piece < 0
  ·have em:fH pc piece (fr[k].1)=true:=by unfold fH; rw [if_pos hp]
   rw [em];simp only [mq,List.length_map,ap hk,ah hk,a1,a2,hp,em,if_true,ws,aR (show k < 9223372036854775807 by omega),dI,dJ,jb,jc,eJ,eK,dS,dT,fA,fB,kF,kG,iG,Int.toNat_natCast,Bool.and_self,Bool.and_true,cond_true,cond_false,Option.bind_some,eq_self,decide_true]
  ·have em:=hm piece hp;have dp:decide (piece < 0)=false:=decide_eq_false hp;rw [em]
   skip
   cases hb:(pc[j] == piece)
   ·simp only [mq,List.length_map,ap hk,ah hk,a1,a2,dp,ej,ah hj,b1,b2,hb,Bool.false_eq_true,if_false,aR (show k < 9223372036854775807 by omega),dI,dJ,jb,jc,eJ,eK,dS,dT,fA,fB,kF,kG,iG,Int.toNat_natCast,Bool.and_self,Bool.and_true,cond_true,cond_false,Option.bind_some,eq_self,decide_true]
   ·simp only [mq,List.length_map,ap hk,ah hk,a1,a2,dp,ej,ah hj,b1,b2,hb,if_true,ws,aR (show k < 9223372036854775807 by omega),dI,dJ,jb,jc,eJ,eK,dS,dT,fA,fB,kF,kG,iG,Int.toNat_natCast,Bool.and_self,Bool.and_true,cond_true,cond_false,Option.bind_some,eq_self,decide_true]) (fun s _=>by
  simp only [mq,List.length_map,aJ,dI,dJ,jb,jc,eJ,eK,dS,dT,fA,fB,kF,kG,iG,Int.toNat_natCast,Bool.and_self,Bool.and_true,cond_true,cond_false,Option.bind_some,eq_self,decide_true]) N s0 0 (Nat.zero_le _) (by unfold ey at hN; omega) ⟨hs.1,by simp⟩
 rw [List.drop_zero] at key;exact key
theorem ace (l:List (List (Int × Int))) {k:Nat} (hk:k < l.length):d50 (ab (map n50 l) k)=l[k]∧fits Uf (ab (map n50 l) k)=true:=by
 rw [fu n50 l k hk,abS,abR]; exact ⟨rfl,rfl⟩
theorem JS {N:Nat} (hN:ey N) (op:List (List (Int × Int))) (cz:∀ x∈op,x≠[]) (p e n z u s0:Int) (piece:Int) (pc:List Int) (S:List (Int × Bool)) (pm:List ((Int × Int) × Int)) (c:Nat) (L:List Nat) (hl:op.length≤1000000) (hs:0≤s0∧s0≤1000000) (hr:∀ x∈op,Hd pc ((x.getD 0 (0,0)).1)) :
  ar (jR N op) N (0,p,e,n,z,s0,u,piece,pc,S,pm,(c:Int),iF L)=some (p,e,n,z,(po pc piece (fun x=>(x.getD 0 (0,0)).1) op s0),u,piece,pc,S,pm,(c:Int),iF L):=by
 have key:=dL (rd:=jR N op) op (fun (s:Int) k=>((k:Int),p,e,n,z,s,u,piece,pc,S,pm,(c:Int),iF L)) (fun s x=>if fH pc piece ((x.getD 0 (0,0)).1)=true then s+1 else s) (fun s=>(p,e,n,z,s,u,piece,pc,S,pm,(c:Int),iF L)) (fun s k=>0≤s∧s≤s0+(k:Int)) (fun s k hk hP=>by
  obtain ⟨a1,a2⟩:=ace op hk;obtain ⟨x0,xt,hx⟩:∃ x0 xt,op[k]=x0 :: xt:=by
   have:=cz _ (List.getElem_mem hk);cases h:op[k] with
   |nil=>exact absurd h this
   |cons a b=>exact ⟨a,b,rfl⟩
  have ek:op[k].getD 0 (0,0)=x0:=by rw [hx]; rfl
  have e1:decide ((0:Int)≤0∧0 < (((x0 :: xt).length:Nat):Int))=true:=decide_eq_true ⟨by omega,by rw [List.length_cons]; omega⟩;have e2:d67 (ab (map pg (x0 :: xt)) 0)=x0:=Mf x0;have e3:fits xy (ab (map pg (x0 :: xt)) 0)=true:=Me x0;have tz:toNat 0=0:=rfl;obtain ⟨j,ej,hj,hm⟩:=ui (hr _ (List.getElem_mem hk));obtain ⟨b1,b2⟩:=EG pc hj;have ej2:x0.1=(j:Int):=by rw [← ej,ek]
  have ws:wrap .i64 (s+1)=s+1:=KB ⟨by omega,by omega⟩;refine ⟨?_,by split <;> omega⟩;by_cases hp:piece < 0
  ·have em:fH pc piece ((op[k].getD 0 (0,0)).1)=true:=by unfold fH; rw [if_pos hp]
   rw [em];simp only [jR,List.length_map,ap hk,ah hk,a1,a2,hx,e1,e2,e3,tz,hp,em,if_true,ws,aR (show k < 9223372036854775807 by omega),dI,dJ,jb,jc,eJ,eK,dS,dT,fA,fB,kF,kG,iG,Int.toNat_natCast,Bool.and_self,Bool.and_true,cond_true,cond_false,Option.bind_some,eq_self,decide_true]
  ·have em:=hm piece hp;have dp:decide (piece < 0)=false:=decide_eq_false hp;rw [em]
   skip
   cases hb:(pc[j] == piece)
   ·simp only [jR,List.length_map,ap hk,ah hk,a1,a2,hx,e1,e2,e3,tz,dp,ej2,ah hj,b1,b2,hb,Bool.false_eq_true,if_false,aR (show k < 9223372036854775807 by omega),dI,dJ,jb,jc,eJ,eK,dS,dT,fA,fB,kF,kG,iG,Int.toNat_natCast,Bool.and_self,Bool.and_true,cond_true,cond_false,Option.bind_some,eq_self,decide_true]
   ·simp only [jR,List.length_map,ap hk,ah hk,a1,a2,hx,e1,e2,e3,tz,dp,ej2,ah hj,b1,b2,hb,if_true,ws,aR (show k < 9223372036854775807 by omega),dI,dJ,jb,jc,eJ,eK,dS,dT,fA,fB,kF,kG,iG,Int.toNat_natCast,Bool.and_self,Bool.and_true,cond_true,cond_false,Option.bind_some,eq_self,decide_true]) (fun s _=>by
  simp only [jR,List.length_map,aJ,dI,dJ,jb,jc,eJ,eK,dS,dT,fA,fB,kF,kG,iG,Int.toNat_natCast,Bool.and_self,Bool.and_true,cond_true,cond_false,Option.bind_some,eq_self,decide_true]) N s0 0 (Nat.zero_le _) (by unfold ey at hN; omega) ⟨hs.1,by simp⟩
 rw [List.drop_zero] at key;exact key
theorem MK {N:Nat} (hN:ey N) (t:cu) (p e z o u s0:Int) (piece:Int) (pc:List Int) (S:List (Int × Bool)) (pm:List ((Int × Int) × Int)) (c:Nat) (L:List Nat) (hl:(List.range t.1.length).length≤1000000) (hs:0≤s0∧s0≤1000000) (hr:∀ x∈(List.range t.1.length),Hd pc (C8 x)) :
  ar (mn N t) N (0,p,e,s0,z,o,u,piece,pc,S,pm,(c:Int),iF L)=some (p,e,(po pc piece (fun x=>C8 x) (List.range t.1.length) s0),z,o,u,piece,pc,S,pm,(c:Int),iF L):=by
 have key:=dL (rd:=mn N t) (List.range t.1.length) (fun (s:Int) k=>((k:Int),p,e,s,z,o,u,piece,pc,S,pm,(c:Int),iF L)) (fun s x=>if fH pc piece (C8 x)=true then s+1 else s) (fun s=>(p,e,s,z,o,u,piece,pc,S,pm,(c:Int),iF L)) (fun s k=>0≤s∧s≤s0+(k:Int)) (fun s k hk hP=>by
  have BQ:k < t.1.length:=by rw [List.length_range] at hk; exact hk
  obtain ⟨j,ej,hj,hm⟩:=ui (hr _ (List.getElem_mem hk));obtain ⟨b1,b2⟩:=EG pc hj;have ek:(List.range t.1.length)[k]=k:=by simp
  have ej2:(k:Int)=(j:Int):=by rw [← ej,ek]; rfl
  have ejk:k=j:=by omega
  subst ejk;have ws:wrap .i64 (s+1)=s+1:=KB ⟨by omega,by omega⟩;refine ⟨?_,by split <;> omega⟩;by_cases hp:piece < 0
  ·have em:fH pc piece (C8 ((List.range t.1.length)[k]))=true:=by unfold fH; rw [if_pos hp]
   rw [em];simp only [mn,List.length_map,ap BQ,ah BQ,hp,em,if_true,ws,aR (show k < 9223372036854775807 by omega),dI,dJ,jb,jc,eJ,eK,dS,dT,fA,fB,kF,kG,iG,Int.toNat_natCast,Bool.and_self,Bool.and_true,cond_true,cond_false,Option.bind_some,eq_self,decide_true]
  ·have em:=hm piece hp;have dp:decide (piece < 0)=false:=decide_eq_false hp;rw [em]
   skip
   cases hb:(pc[k] == piece)
   ·simp only [mn,List.length_map,ap BQ,ah BQ,dp,ah hj,b1,b2,hb,Bool.false_eq_true,if_false,aR (show k < 9223372036854775807 by omega),dI,dJ,jb,jc,eJ,eK,dS,dT,fA,fB,kF,kG,iG,Int.toNat_natCast,Bool.and_self,Bool.and_true,cond_true,cond_false,Option.bind_some,eq_self,decide_true]
   ·simp only [mn,List.length_map,ap BQ,ah BQ,dp,ah hj,b1,b2,hb,if_true,ws,aR (show k < 9223372036854775807 by omega),dI,dJ,jb,jc,eJ,eK,dS,dT,fA,fB,kF,kG,iG,Int.toNat_natCast,Bool.and_self,Bool.and_true,cond_true,cond_false,Option.bind_some,eq_self,decide_true]) (fun s _=>by
  simp only [mn,List.length_map,List.length_range,aJ,dI,dJ,jb,jc,eJ,eK,dS,dT,fA,fB,kF,kG,iG,Int.toNat_natCast,Bool.and_self,Bool.and_true,cond_true,cond_false,Option.bind_some,eq_self,decide_true]) N s0 0 (Nat.zero_le _) (by unfold ey at hN; omega) ⟨hs.1,by simp⟩
 rw [List.drop_zero] at key;exact key
end Go.Proofs.Ytegoimldbgdeiaa
namespace Go.Proofs.Ytegoimldbgdeiaa
open Go Go.Am
open List (map)
open Int (toNat)
open Go.IntKind (wrap)
open Go.Am.aM (fits)
set_option maxRecDepth 100000
def vx (pc:List Int) (piece:Int) (s:List Int) (e:(Int × Int) × Int):List Int:=if fH pc piece e.1.1=true then (if e.2∈s then s else s++[e.2]) else s
def EJ (pc:List Int) (piece:Int) (pm:List ((Int × Int) × Int)):List Int:=pm.foldl (vx pc piece) []
theorem zT {pc:List Int} {piece:Int} {s:List Int} {e:(Int × Int) × Int} (h:s.Nodup):(vx pc piece s e).Nodup:=by
 unfold vx;split
 ·split
  ·exact h
  ·rename_i hn;exact List.nodup_append.2 ⟨h,by simp,fun a ha b hb hab=>hn (by rw [List.mem_singleton] at hb; subst hb; subst hab; exact ha)⟩
 ·exact h
theorem EL {pc:List Int} {piece:Int} {s:List Int} {e:(Int × Int) × Int} {x:Int}:x∈vx pc piece s e↔x∈s∨(fH pc piece e.1.1=true∧e.2=x):=by
 unfold vx;by_cases h1:fH pc piece e.1.1=true
 ·rw [if_pos h1];by_cases h2:e.2∈s
  ·rw [if_pos h2];exact ⟨.inl,fun h=>h.elim id fun h=>h.2 ▸ h2⟩
  ·rw [if_neg h2,List.mem_append,List.mem_singleton];exact ⟨fun h=>h.elim .inl fun h=>.inr ⟨h1,h.symm⟩,fun h=>h.elim .inl fun h=>.inr h.2.symm⟩
 ·rw [if_neg h1];exact ⟨.inl,fun h=>h.elim id fun h=>absurd h.1 h1⟩
theorem He (pc:List Int) (piece:Int) (pm:List ((Int × Int) × Int)):(EJ pc piece pm).Nodup∧∀ x,x∈EJ pc piece pm↔∃ e∈pm,fH pc piece e.1.1=true∧e.2=x:=by
 have gen:∀ (pm:List ((Int × Int) × Int)) (s:List Int),s.Nodup→(pm.foldl (vx pc piece) s).Nodup∧∀ x,x∈pm.foldl (vx pc piece) s↔x∈s∨∃ e∈pm,fH pc piece e.1.1=true∧e.2=x:=by
  intro pm
  induction pm with
  |nil=>intro s h; exact ⟨h,fun x=>⟨.inl,fun h=>h.elim id fun ⟨e,he,_⟩=>by cases he⟩⟩
  |cons e pm ih=>
   intro s h;obtain ⟨h1,h2⟩:=ih (vx pc piece s e) (zT h);refine ⟨h1,fun x=>?_⟩;rw [List.foldl_cons,h2,EL];constructor
   ·rintro ((h|h)|⟨e',NB,h⟩)
    ·exact .inl h
    ·exact .inr ⟨e,List.mem_cons_self,h⟩
    ·exact .inr ⟨e',List.mem_cons_of_mem _ NB,h⟩
   ·rintro (h|⟨e',NB,h⟩)
    ·exact .inl (.inl h)
    ·rcases List.mem_cons.1 NB with rfl|NB
     ·exact .inl (.inr h)
     ·exact .inr ⟨e',NB,h⟩
 obtain ⟨h1,h2⟩:=gen pm [] List.nodup_nil;exact ⟨h1,fun x=>by rw [show EJ pc piece pm=pm.foldl (vx pc piece) [] from rfl,h2]; simp⟩
def PK (t:cu) (piece:Int) (pc:List Int) (pm:List ((Int × Int) × Int)) (fr:List (Int × Int)) (op:List (List (Int × Int))) (mx:Int):Int × Int × Int × Int × Int × Int:=
 let pts:Int:=((EJ pc piece pm).length:Int)
 let Rb:=po pc piece C8 (List.range t.1.length) 0
 let edg:=po pc piece (fun x:Int × Int=>x.1) fr (po pc piece (fun x:pH=>x.1) t.2 0)
 (pts,edg,Rb,wrap .i64 (mx+1),po pc piece (fun x:List (Int × Int)=>(x.getD 0 (0,0)).1) op 0,wrap .i64 (wrap .i64 (pts - edg)+Rb))
theorem Ir {α:Type} (pc:List Int) (piece:Int) (key:α→Int):∀ (l:List α) (s:Int),s≤po pc piece key l s∧po pc piece key l s≤s+(l.length:Int)
 |[],s=>⟨Int.le_refl _,by simp [po]⟩
 |x :: l,s=>by
  have h:=Ir pc piece key l (if fH pc piece (key x)=true then s+1 else s);have e:po pc piece key (x :: l) s=po pc piece key l (if fH pc piece (key x)=true then s+1 else s):=rfl;rw [e,List.length_cons];split at h <;> (rename_i hm; simp only [hm,if_true,if_false,Bool.false_eq_true]; omega)
section
variable {N:Nat} (hN:ey N)
include hN
theorem Is (t:cu) (piece:Int) (pc:List Int) (pm:List ((Int × Int) × Int)) (fr:List (Int × Int)) (op:List (List (Int × Int))) (mx:Int)
  (hf:Wv N t=some fr) (ho:Ww N t=some op) (hx:YI N pc=some mx) (h1:t.1.length≤1000) (h2:t.2.length≤100000) (h3:fr.length≤1000000) (h4:op.length≤1000000)
  (r0:∀ e∈pm,Hd pc e.1.1) (r1:pc.length=t.1.length) (r2:∀ s∈t.2,Hd pc s.1) (r3:∀ e∈fr,Hd pc e.1) (r4:∀ l∈op,l≠[]) (r5:∀ l∈op,Hd pc (l.getD 0 (0,0)).1) (hpm:pm.length≤1000000000) :
  ∀ (n:Nat) (L:List Nat) (s:List Int),L.length < n→L.Nodup→(∀ i∈L,i < pm.length)→s.Nodup→(∀ x,x∈s↔∃ j,∃ hj:j < pm.length,j∉L∧fH pc piece pm[j].1.1=true∧pm[j].2=x) →
   dC (ug N t) n (piece,pc,uh s,pm,(pm.length:Int),iF L)=some (PK t piece pc pm fr op mx)
 |0,L,s,h,_,_,_,_=>by omega
 |n+1,L,s,h,hL,hi,hs,fN=>by
  rw [mh];have ec:decide (pm.length=pm.length)=true:=decide_eq_true rfl;cases BO:L with
  |nil=>
   have i0:List.isEmpty ([]:List Nat)=true:=rfl;subst BO;have sl:s.length=(EJ pc piece pm).length:=by
    obtain ⟨d1,d2⟩:=He pc piece pm;refine List.Perm.length_eq ((List.perm_ext_iff_of_nodup hs d1).2 fun x=>?_);rw [fN,d2];constructor
    ·rintro ⟨j,hj,-,h⟩;exact ⟨pm[j],List.getElem_mem hj,h⟩
    ·rintro ⟨e,he,h⟩;obtain ⟨j,hj,rfl⟩:=List.getElem_of_mem he;exact ⟨j,hj,by simp,h⟩
   have c0:=Ir pc piece (fun x:pH=>x.1) t.2 0;have q1:=MK hN t (s.length:Int) 0 0 0 0 0 piece pc (uh s) pm pm.length [] (by rw [List.length_range]; omega) (by omega) (fun x hx=>by
    have:=List.mem_range.1 hx;unfold Hd C8;omega)
   have q2:=MI hN t (s.length:Int) (po pc piece C8 (List.range t.1.length) 0) 0 0 0 0 piece pc (uh s) pm pm.length [] (by omega) (by omega) r2;have q3:=MJ hN fr (s.length:Int) (po pc piece C8 (List.range t.1.length) 0) 0 0 0 (po pc piece (fun x:pH=>x.1) t.2 0) piece pc (uh s) pm pm.length [] h3 (by omega) r3;have q4:=JS hN op r4 (s.length:Int) (po pc piece (fun x:Int × Int=>x.1) fr (po pc piece (fun x:pH=>x.1) t.2 0)) (po pc piece C8 (List.range t.1.length) 0) 0 0 0 piece pc (uh s) pm pm.length [] h4 (by omega) r5;have XO:(uh s).length=s.length:=by unfold uh; rw [List.length_map]
   have ht:Wv N (t.1,t.2)=some fr:=hf;have ht2:Ww N (t.1,t.2)=some op:=ho;simp only [ug,C6,Int.toNat_natCast,ec,cond_true,iG,i0,YP,XO,dI,dJ,jb,jc,eJ,eK,dS,dT,fA,fB,kF,kG,bW,bX,cj,ck,Bool.and_self,Bool.and_true,Option.bind_some,q1,q2,ht,q3,ht2,q4,hx];rw [sl];rfl
  |cons a L'=>
   rw [← BO];have i0:List.isEmpty L=false:=by rw [BO]; rfl
   simp only [ug,C6,Int.toNat_natCast,ec,cond_true,cond_false,iG,i0];refine tS (by rw [BO]; simp) fun i hmi=>?_
   have bO:=hi i hmi;have nJ:(L.erase i).length=L.length - 1:=List.length_erase_of_mem hmi;have oM:0 < L.length:=List.length_pos_of_mem hmi;have dl:decide (i < pm.length)=true:=decide_eq_true bO;have ih:=fun s' (qM:s'.Nodup) Xv=>Is t piece pc pm fr op mx hf ho hx h1 h2 h3 h4 r0 r1 r2 r3 r4 r5 hpm n (L.erase i) s' (by omega) (hL.erase i) (fun j hj=>hi j (List.mem_of_mem_erase hj)) qM Xv
   have hme:∀ x,(x∈vx pc piece s pm[i])↔∃ j,∃ hj:j < pm.length,j∉L.erase i∧fH pc piece pm[j].1.1=true∧pm[j].2=x:=fun x=>by
    rw [EL,fN];constructor
    ·rintro (⟨j,hj,G7,h⟩|h)
     ·exact ⟨j,hj,fun hm=>G7 (List.mem_of_mem_erase hm),h⟩
     ·exact ⟨i,bO,fun hm=>((List.Nodup.mem_erase_iff hL).1 hm).1 rfl,h⟩
    ·rintro ⟨j,hj,G7,h⟩;by_cases hji:j=i
     ·subst hji; exact .inr h
     ·exact .inl ⟨j,hj,fun hm=>G7 ((List.Nodup.mem_erase_iff hL).2 ⟨hji,hm⟩),h⟩
   have NR:=ih (vx pc piece s pm[i]) (zT hs) hme;obtain ⟨j,ej,hj,hm⟩:=ui (r0 pm[i] (List.getElem_mem bO));obtain ⟨b1,b2⟩:=EG pc hj;rw [T0 pm bO];simp only [Me,Mf,Fb,Fc,Bool.and_self,cond_true,dl,ec];have sp:=MH s pm[i].2;by_cases hp:piece < 0
   ·have em:fH pc piece pm[i].1.1=true:=by unfold fH; rw [if_pos hp]
    unfold vx at NR;rw [if_pos em] at NR;simp only [hp,decide_true,dI,dJ,jb,jc,eJ,eK,dS,dT,fA,fB,kF,kG,iG,Int.toNat_natCast,Bool.and_self,Bool.and_true,cond_true,Option.bind_some,Q9,Ra,sp];exact NR
   ·have em:=hm piece hp;have dp:decide (piece < 0)=false:=decide_eq_false hp;unfold vx at NR;rw [em] at NR;cases hb:(pc[j] == piece)
    ·rw [hb] at NR;rw [if_neg (by decide)] at NR;simp only [List.length_map,eq_self,decide_true,dp,ej,ah hj,b1,b2,hb,dI,dJ,jb,jc,eJ,eK,dS,dT,fA,fB,kF,kG,iG,Int.toNat_natCast,Bool.and_self,Bool.and_true,cond_true,cond_false,Option.bind_some];exact NR
    ·rw [hb,if_pos rfl] at NR;simp only [List.length_map,eq_self,decide_true,dp,ej,ah hj,b1,b2,hb,dI,dJ,jb,jc,eJ,eK,dS,dT,fA,fB,kF,kG,iG,Int.toNat_natCast,Bool.and_self,Bool.and_true,cond_true,cond_false,Option.bind_some,Q9,Ra,sp];exact NR
theorem JU (t:cu) (piece:Int) (fr:List (Int × Int)) (op:List (List (Int × Int))) (mx:Int)
  (hf:Wv N t=some fr) (ho:Ww N t=some op) (hx:YI N (dU t)=some mx) (h1:t.1.length≤1000) (hs:∀ x∈t.1,x.2.length≤1000) (h2:t.2.length≤100000) (hk:∀ s∈t.2,Uc t s=true) (h3:fr.length≤1000000) (h4:op.length≤1000000)
  (r0:∀ e∈fR t,Hd (dU t) e.1.1) (r2:∀ s∈t.2,Hd (dU t) s.1) (r3:∀ e∈fr,Hd (dU t) e.1) (r4:∀ l∈op,l≠[]) (r5:∀ l∈op,Hd (dU t) (l.getD 0 (0,0)).1) (hpm:(fR t).length≤1000000000) :
  Wx N (t,piece)=some (PK t piece (dU t) (fR t) fr op mx):=by
 have q1:Wk N (t.1,t.2)=some (dU t):=zM hN t (by omega) (by omega);have q2:TU N (t.1,t.2)=some (fR t):=zO hN t h1 hs h2 hk;have r1:(dU t).length=t.1.length:=by unfold dU; simp only [List.length_map,gS]
 have q:=Is hN t piece (dU t) (fR t) fr op mx hf ho hx h1 h2 h3 h4 r0 r1 r2 r3 r4 r5 hpm N (List.range (fR t).length) [] (by rw [List.length_range]; unfold ey at hN; omega) List.nodup_range (fun i hi=>List.mem_range.1 hi) List.nodup_nil (fun x=>by
  constructor
  ·intro h; cases h
  ·rintro ⟨j,hj,G7,-⟩;exact absurd (List.mem_range.2 hj) G7)
 have q:dC (ug N t) N (piece,dU t,[],fR t,((fR t).length:Int),iF (List.range (fR t).length))=some (PK t piece (dU t) (fR t) fr op mx):=q;have f0:allFit (fits cY) ([]:List AV)=true:=rfl;have m0:map dM ([]:List AV)=[]:=rfl;rw [show Wx N (t,piece)=Wx N ((t.1,t.2),piece) from rfl,UA];simp only [bW,bX,cj,ck,Bool.and_self,Bool.and_true,cond_true,Option.bind_some,q1,q2,dI,dJ,c0_,f0,m0,a0_,eJ,dS,dT,eK,C6,kF,kG];exact q
end
end Go.Proofs.Ytegoimldbgdeiaa
namespace Go.Proofs.Ytegoimldbgdeiaa
open Go Go.Am
open List (map)
open Int (toNat)
open Go.IntKind (wrap)
open Go.Am.aM (fits)
set_option maxRecDepth 100000
theorem aE.swap {E:Env} {g:FuncId} {ps:aK} {p:aM} {T T':ps.T→Option p.T} (h:aE E g ⟨ps,p,T⟩) (hT:∀ x y,T' x=some y→T x=some y):aE E g ⟨ps,p,T'⟩:=fun x y hh=>h x y (hT x y hh)
def YQ (t:cu):Bool:=Nat.ble t.1.length 1000&&(t.1.all fun x=>Nat.ble x.2.length 1000)&&Nat.ble t.2.length 1000&&t.2.all (Uc t)
theorem Hf {t:cu} (h:YQ t=true):t.1.length≤1000∧(∀ x∈t.1,x.2.length≤1000)∧t.2.length≤1000∧∀ s∈t.2,Uc t s=true:=by
 unfold YQ at h;simp only [Bool.and_eq_true,List.all_eq_true] at h;exact ⟨Nat.le_of_ble_eq_true h.1.1.1,fun x hx=>Nat.le_of_ble_eq_true (h.1.1.2 x hx),Nat.le_of_ble_eq_true h.1.2,h.2⟩
def JV (pc:List Int) (p:Int):Bool:=decide (0≤p)&&decide (p < (pc.length:Int))
theorem xC {pc:List Int} {p:Int} (h:JV pc p=true):Hd pc p:=by
 unfold JV at h;simp only [Bool.and_eq_true,decide_eq_true_eq] at h;exact h
def C9 (t:cu):Option (List Int):=bif YQ t then some (dU t) else none
def Da (t:cu):Option (List ((Int × Int) × Int)):=bif YQ t then some (fR t) else none
noncomputable def zC (N:Nat) (x:cu × Int):Option (Int × Int × Int × Int × Int × Int):=
 bif YQ x.1 then (Wv N x.1).bind fun fr=>(Ww N x.1).bind fun op=>(YI N (dU x.1)).bind fun mx=>
  bif Nat.ble fr.length 1000000&&(Nat.ble op.length 1000000&&(Nat.ble (fR x.1).length 1000000&&((fR x.1).all (fun e=>JV (dU x.1) e.1.1)&&(x.1.2.all (fun s=>JV (dU x.1) s.1)&&(fr.all (fun e=>JV (dU x.1) e.1)&&op.all (fun l=>!l.isEmpty&&JV (dU x.1) (l.getD 0 (0,0)).1)))))) then some (PK x.1 x.2 (dU x.1) (fR x.1) fr op mx) else none
 else none
section
variable {N:Nat} (hN:ey N)
include hN
theorem JW (t:cu) (y:List Int) (h:C9 t=some y):Wk N t=some y:=by
 unfold C9 at h;obtain ⟨h1,h2⟩:=aY h;cases h2;obtain ⟨a,b,c,d⟩:=Hf h1;exact zM hN t (by omega) (by omega)
theorem JX (t:cu) (y:List ((Int × Int) × Int)) (h:Da t=some y):TU N t=some y:=by
 unfold Da at h;obtain ⟨h1,h2⟩:=aY h;cases h2;obtain ⟨a,b,c,d⟩:=Hf h1;exact zO hN t a b (by omega) d
theorem count_eq (x:cu × Int) (y:Int × Int × Int × Int × Int × Int) (h:zC N x=some y):Wx N x=some y:=by
 unfold zC at h;obtain ⟨h1,h2⟩:=aY h;obtain ⟨a,b,c,d⟩:=Hf h1;obtain ⟨fr,q1,h2⟩:=bind_some h2;obtain ⟨op,q2,h2⟩:=bind_some h2;obtain ⟨mx,q3,h2⟩:=bind_some h2;obtain ⟨h3,h4⟩:=aY h2;cases h4;simp only [Bool.and_eq_true,List.all_eq_true] at h3;obtain ⟨c1,c2,c3,c4,c5,c6,c7⟩:=h3;exact JU hN x.1 x.2 fr op mx q1 q2 q3 a b (by omega) d (Nat.le_of_ble_eq_true c1) (Nat.le_of_ble_eq_true c2) (fun e he=>xC (c4 e he)) (fun s hs=>xC (c5 s hs)) (fun e he=>xC (c6 e he)) (fun l hl=>by
  have:=(c7 l hl).1;intro e;subst e;cases this) (fun l hl=>xC (c7 l hl).2) (by have:=Nat.le_of_ble_eq_true c3; omega)
end
noncomputable def It:bf:=⟨(.cons (.agg (.cons (.list 2 (.agg (.cons .str (.cons (.list 2 (.agg (.cons (.int .i64) (.cons (.int .i64) .nil)))) .nil)))) (.cons (.list 5 (.agg (.cons (.int .i64) (.cons (.int .i64) (.cons (.int .i64) (.cons (.int .i64) (.cons .bool .nil))))))) .nil))) .nil),(.list 1 (.int .i64)),C9⟩
theorem Hg {N:Nat} (hN:ey N):aE bJ 60 It:=aE.swap (Mj N) (fun x y h=>JW hN x y h)
noncomputable def GZ (N:Nat):bf:=⟨(.cons (.agg (.cons (.list 2 (.agg (.cons .str (.cons (.list 2 (.agg (.cons (.int .i64) (.cons (.int .i64) .nil)))) .nil)))) (.cons (.list 5 (.agg (.cons (.int .i64) (.cons (.int .i64) (.cons (.int .i64) (.cons (.int .i64) (.cons .bool .nil))))))) .nil))) (.cons (.int .i64) .nil)),(.agg (.cons (.int .i64) (.cons (.int .i64) (.cons (.int .i64) (.cons (.int .i64) (.cons (.int .i64) (.cons (.int .i64) .nil))))))),zC N⟩
theorem JY {N:Nat} (hN:ey N):aE bJ 58 (GZ N):=fun x y h=>Uz N x y (count_eq hN x y h)
noncomputable def PL (N:Nat) (hN:ey N):qx bJ 79:=⟨(.cons (.agg (.cons (.list 2 (.agg (.cons .str (.cons (.list 2 (.agg (.cons (.int .i64) (.cons (.int .i64) .nil)))) .nil)))) (.cons (.list 5 (.agg (.cons (.int .i64) (.cons (.int .i64) (.cons (.int .i64) (.cons (.int .i64) (.cons .bool .nil))))))) .nil))) .nil),Ym,Da,fun x y h=>Mk N x y (JX hN x y h)⟩
end Go.Proofs.Ytegoimldbgdeiaa
