/- Plain laws: how many points,edges and openings. -/
import Derived.Test.YtegoimldbgdeiaaSeamKA
import Derived.Test.YtegoimldbgdeiaaTrwC
set_option linter.all false
open Bool renaming and_self→aat, and_true→aau, false_eq_true→aaA, and_eq_true→aaP
open Int renaming toNat_natCast→aae
open List renaming length_map→aas, range→aax, getElem_mem→aay, length_range→aaK, drop_zero→aaM, mem_range→aa0, mem_of_mem_erase→aa3
open Nat renaming le_of_ble_eq_true→aav, zero_le→aaT, ble→aa6
open Option renaming bind_some→aal
namespace Go.Proofs.Ytegoimldbgdeiaa
open Go Go.Am
open List (map)
open Int (toNat)
open Go.IntKind (wrap)
open Go.Am.aL (fits)
set_option maxRecDepth 100000
theorem Ju:jo .int (fun k:Int=>AV.int .i64 k) AV.bool tg:=⟨fun a b=>NB .i64 a b,fun _=>rfl,fun _=>rfl⟩
theorem X0 (a:Int) (m:List (Int × Bool)):cX .int (AV.int .i64 a) (ar (map tg m))=true:=Ju.keys a m
theorem X1 (a:Int) (v:Bool) (m:List (Int × Bool)):dq .int (AV.int .i64 a) (AV.bool v) (ar (map tg m))=ar (map tg (fx a v m)):=Ju.put a v m
theorem kE (m:List (Int × Bool)):ab (ar (map tg m))=map tg m:=Ju.cells m
theorem kF (m:List (Int × Bool)):iz (ar (map tg m))=true:=Ju.iz m
theorem afm (m:List (Int × Bool)):(ar (map tg m)).length=m.length:=by rw [Ju.ent,aas]
def yx (l:List Int):List (Int × Bool):=l.map fun x=>(x,true)
theorem Sz (l:List Int) (x:Int):fx x true (yx l)=yx (if x∈l then l else l++[x]):=by
 by_cases h:x∈l
 ·rw [if_pos h]
  induction l with
  |nil=>cases h
  |cons y l ih=>
   show fx x true ((y,true) :: yx l)=(y,true) :: yx l;unfold fx;by_cases hy:x=y
   ·rw [if_pos hy,hy]
   ·rw [if_neg hy,ih (by rcases List.mem_cons.1 h with h | h; exact absurd h hy; exact h)]
 ·rw [if_neg h];have:getM x (yx l)=none:=by unfold yx; rw [zQ,if_neg h]
  rw [yt this];unfold yx;rw [List.map_append];rfl
def au (pc:List Int) (piece p:Int):Bool:=if piece < 0 then true else pc.getD p.toNat 0 == piece
def E4 (i:Nat):Int:=(i:Int)
def nB {α:Type} (pc:List Int) (piece:Int) (key:α→Int) (l:List α) (s:Int):Int:=l.foldl (fun s x=>if au pc piece (key x)=true then s+1 else s) s
def Jv (pc:List Int) (p:Int):Prop:=0≤p∧p < (pc.length:Int)
theorem yy {pc:List Int} {p:Int} (h:Jv pc p):∃ k:Nat,p=(k:Int)∧∃ hk:k < pc.length,∀ piece,¬ piece < 0→au pc piece p=(pc[k] == piece):=by
 obtain ⟨h1,h2⟩:=h;refine ⟨p.toNat,by omega,by omega,fun piece hp=>?_⟩;unfold au;rw [if_neg hp,List.getD_eq_getElem?_getD,List.getElem?_eq_getElem (show p.toNat < pc.length by omega)];rfl
theorem SA {N:Nat} (hN:eZ N) (t:aZ) (p n z o u s0:Int) (piece:Int) (pc:List Int) (S:List (Int × Bool)) (pm:List ((Int × Int) × Int)) (c:Nat) (L:List Nat) (hl:t.2.length≤1000000) (hs:0≤s0∧s0≤1000000) (hr:∀ x∈t.2,Jv pc (x.1)) :
  aw (pq N t) N (0,p,s0,n,z,o,u,piece,pc,S,pm,(c:Int),jY L)=some (p,(nB pc piece (fun x=>x.1) t.2 s0),n,z,o,u,piece,pc,S,pm,(c:Int),jY L):=by
 have key:=dQ (rd:=pq N t) t.2 (fun (s:Int) k=>((k:Int),p,s,n,z,o,u,piece,pc,S,pm,(c:Int),jY L)) (fun s x=>if au pc piece (x.1)=true then s+1 else s) (fun s=>(p,s,n,z,o,u,piece,pc,S,pm,(c:Int),jY L)) (fun s k=>0≤s∧s≤s0+(k:Int)) (fun s k hk hP=>by
  obtain ⟨a1,a2⟩:=uE t.2 hk;obtain ⟨j,ej,hj,hm⟩:=yy (hr _ (aay hk));obtain ⟨b1,b2⟩:=Pz pc hj;have ws:wrap .i64 (s+1)=s+1:=wR ⟨by omega,by omega⟩;refine ⟨?_,by split <;> omega⟩;by_cases hp:piece < 0
  ·have em:au pc piece (t.2[k].1)=true:=by unfold au; rw [if_pos hp]
   rw [em];simp only [pq,lW,aas,ay hk,ai hk,a1,a2,hp,em,if_true,ws,bc (show k < 9223372036854775807 by omega),gw,gy,kE,kF,dX,dY,df,dg,gS,gT,nH,nI,jZ,aae,aat,aau,cond_true,cond_false,aal,eq_self,decide_true]
  ·have em:=hm piece hp;have dp:decide (piece < 0)=false:=decide_eq_false hp;rw [em]
   skip
   cases hb:(pc[j] == piece)
   ·simp only [pq,lW,aas,ay hk,ai hk,a1,a2,dp,ej,ai hj,b1,b2,hb,aaA,if_false,bc (show k < 9223372036854775807 by omega),gw,gy,kE,kF,dX,dY,df,dg,gS,gT,nH,nI,jZ,aae,aat,aau,cond_true,cond_false,aal,eq_self,decide_true]
   ·simp only [pq,lW,aas,ay hk,ai hk,a1,a2,dp,ej,ai hj,b1,b2,hb,if_true,ws,bc (show k < 9223372036854775807 by omega),gw,gy,kE,kF,dX,dY,df,dg,gS,gT,nH,nI,jZ,aae,aat,aau,cond_true,cond_false,aal,eq_self,decide_true]) (fun s _=>by
  simp only [pq,lW,aas,aS,gw,gy,kE,kF,dX,dY,df,dg,gS,gT,nH,nI,jZ,aae,aat,aau,cond_true,cond_false,aal,eq_self,decide_true]) N s0 0 (aaT _) (by unfold eZ at hN; omega) ⟨hs.1,by simp⟩
 rw [aaM] at key;exact key
theorem SB {N:Nat} (hN:eZ N) (fr:List (Int × Int)) (p n z o u s0:Int) (piece:Int) (pc:List Int) (S:List (Int × Bool)) (pm:List ((Int × Int) × Int)) (c:Nat) (L:List Nat) (hl:fr.length≤1000000) (hs:0≤s0∧s0≤1000000) (hr:∀ x∈fr,Jv pc (x.1)) :
  aw (pt N fr) N (0,p,s0,n,z,o,u,piece,pc,S,pm,(c:Int),jY L)=some (p,(nB pc piece (fun x=>x.1) fr s0),n,z,o,u,piece,pc,S,pm,(c:Int),jY L):=by
 have key:=dQ (rd:=pt N fr) fr (fun (s:Int) k=>((k:Int),p,s,n,z,o,u,piece,pc,S,pm,(c:Int),jY L)) (fun s x=>if au pc piece (x.1)=true then s+1 else s) (fun s=>(p,s,n,z,o,u,piece,pc,S,pm,(c:Int),jY L)) (fun s k=>0≤s∧s≤s0+(k:Int)) (fun s k hk hP=>by
  obtain ⟨a1,a2⟩:=DJ fr hk;obtain ⟨j,ej,hj,hm⟩:=yy (hr _ (aay hk));obtain ⟨b1,b2⟩:=Pz pc hj;have ws:wrap .i64 (s+1)=s+1:=wR ⟨by omega,by omega⟩;refine ⟨?_,by split <;> omega⟩;by_cases hp:piece < 0
  ·have em:au pc piece (fr[k].1)=true:=by unfold au; rw [if_pos hp]
   rw [em];simp only [pt,lX,aas,ay hk,ai hk,a1,a2,hp,em,if_true,ws,bc (show k < 9223372036854775807 by omega),gw,gy,kE,kF,dX,dY,df,dg,gS,gT,nH,nI,jZ,aae,aat,aau,cond_true,cond_false,aal,eq_self,decide_true]
  ·have em:=hm piece hp;have dp:decide (piece < 0)=false:=decide_eq_false hp;rw [em]
   skip
   cases hb:(pc[j] == piece)
   ·simp only [pt,lX,aas,ay hk,ai hk,a1,a2,dp,ej,ai hj,b1,b2,hb,aaA,if_false,bc (show k < 9223372036854775807 by omega),gw,gy,kE,kF,dX,dY,df,dg,gS,gT,nH,nI,jZ,aae,aat,aau,cond_true,cond_false,aal,eq_self,decide_true]
   ·simp only [pt,lX,aas,ay hk,ai hk,a1,a2,dp,ej,ai hj,b1,b2,hb,if_true,ws,bc (show k < 9223372036854775807 by omega),gw,gy,kE,kF,dX,dY,df,dg,gS,gT,nH,nI,jZ,aae,aat,aau,cond_true,cond_false,aal,eq_self,decide_true]) (fun s _=>by
  simp only [pt,lX,aas,aS,gw,gy,kE,kF,dX,dY,df,dg,gS,gT,nH,nI,jZ,aae,aat,aau,cond_true,cond_false,aal,eq_self,decide_true]) N s0 0 (aaT _) (by unfold eZ at hN; omega) ⟨hs.1,by simp⟩
 rw [aaM] at key;exact key
theorem SC (l:List (List (Int × Int))) {k:Nat} (hk:k < l.length):d50 (ae (map kD l) k)=l[k]∧fits Js (ae (map kD l) k)=true:=by
 rw [fY kD l k hk,aiP,aiO]; exact ⟨rfl,rfl⟩
theorem PC {N:Nat} (hN:eZ N) (op:List (List (Int × Int))) (du:∀ x∈op,x≠[]) (p e n z u s0:Int) (piece:Int) (pc:List Int) (S:List (Int × Bool)) (pm:List ((Int × Int) × Int)) (c:Nat) (L:List Nat) (hl:op.length≤1000000) (hs:0≤s0∧s0≤1000000) (hr:∀ x∈op,Jv pc ((x.getD 0 (0,0)).1)) :
  aw (lY N op) N (0,p,e,n,z,s0,u,piece,pc,S,pm,(c:Int),jY L)=some (p,e,n,z,(nB pc piece (fun x=>(x.getD 0 (0,0)).1) op s0),u,piece,pc,S,pm,(c:Int),jY L):=by
 have key:=dQ (rd:=lY N op) op (fun (s:Int) k=>((k:Int),p,e,n,z,s,u,piece,pc,S,pm,(c:Int),jY L)) (fun s x=>if au pc piece ((x.getD 0 (0,0)).1)=true then s+1 else s) (fun s=>(p,e,n,z,s,u,piece,pc,S,pm,(c:Int),jY L)) (fun s k=>0≤s∧s≤s0+(k:Int)) (fun s k hk hP=>by
  obtain ⟨a1,a2⟩:=SC op hk;obtain ⟨x0,xt,hx⟩:∃ x0 xt,op[k]=x0 :: xt:=by
   have:=du _ (aay hk);cases h:op[k] with
   |nil=>exact absurd h this
   |cons a b=>exact ⟨a,b,rfl⟩
  have ek:op[k].getD 0 (0,0)=x0:=by rw [hx]; rfl
  have e1:decide ((0:Int)≤0∧0 < (((x0 :: xt).length:Nat):Int))=true:=decide_eq_true ⟨by omega,by rw [List.length_cons]; omega⟩;have e2:d67 (ae (map lg (x0 :: xt)) 0)=x0:=Sc x0;have e3:fits te (ae (map lg (x0 :: xt)) 0)=true:=Sb x0;have tz:toNat 0=0:=rfl;obtain ⟨j,ej,hj,hm⟩:=yy (hr _ (aay hk));obtain ⟨b1,b2⟩:=Pz pc hj;have ej2:x0.1=(j:Int):=by rw [← ej,ek]
  have ws:wrap .i64 (s+1)=s+1:=wR ⟨by omega,by omega⟩;refine ⟨?_,by split <;> omega⟩;by_cases hp:piece < 0
  ·have em:au pc piece ((op[k].getD 0 (0,0)).1)=true:=by unfold au; rw [if_pos hp]
   rw [em];simp only [lY,ko,aas,ay hk,ai hk,a1,a2,hx,e1,e2,e3,tz,hp,em,if_true,ws,bc (show k < 9223372036854775807 by omega),gw,gy,kE,kF,dX,dY,df,dg,gS,gT,nH,nI,jZ,aae,aat,aau,cond_true,cond_false,aal,eq_self,decide_true]
  ·have em:=hm piece hp;have dp:decide (piece < 0)=false:=decide_eq_false hp;rw [em]
   skip
   cases hb:(pc[j] == piece)
   ·simp only [lY,ko,aas,ay hk,ai hk,a1,a2,hx,e1,e2,e3,tz,dp,ej2,ai hj,b1,b2,hb,aaA,if_false,bc (show k < 9223372036854775807 by omega),gw,gy,kE,kF,dX,dY,df,dg,gS,gT,nH,nI,jZ,aae,aat,aau,cond_true,cond_false,aal,eq_self,decide_true]
   ·simp only [lY,ko,aas,ay hk,ai hk,a1,a2,hx,e1,e2,e3,tz,dp,ej2,ai hj,b1,b2,hb,if_true,ws,bc (show k < 9223372036854775807 by omega),gw,gy,kE,kF,dX,dY,df,dg,gS,gT,nH,nI,jZ,aae,aat,aau,cond_true,cond_false,aal,eq_self,decide_true]) (fun s _=>by
  simp only [lY,ko,aas,aS,gw,gy,kE,kF,dX,dY,df,dg,gS,gT,nH,nI,jZ,aae,aat,aau,cond_true,cond_false,aal,eq_self,decide_true]) N s0 0 (aaT _) (by unfold eZ at hN; omega) ⟨hs.1,by simp⟩
 rw [aaM] at key;exact key
theorem SD {N:Nat} (hN:eZ N) (t:aZ) (p e z o u s0:Int) (piece:Int) (pc:List Int) (S:List (Int × Bool)) (pm:List ((Int × Int) × Int)) (c:Nat) (L:List Nat) (hl:(aax t.1.length).length≤1000000) (hs:0≤s0∧s0≤1000000) (hr:∀ x∈(aax t.1.length),Jv pc (E4 x)) :
  aw (po N t) N (0,p,e,s0,z,o,u,piece,pc,S,pm,(c:Int),jY L)=some (p,e,(nB pc piece (fun x=>E4 x) (aax t.1.length) s0),z,o,u,piece,pc,S,pm,(c:Int),jY L):=by
 have key:=dQ (rd:=po N t) (aax t.1.length) (fun (s:Int) k=>((k:Int),p,e,s,z,o,u,piece,pc,S,pm,(c:Int),jY L)) (fun s x=>if au pc piece (E4 x)=true then s+1 else s) (fun s=>(p,e,s,z,o,u,piece,pc,S,pm,(c:Int),jY L)) (fun s k=>0≤s∧s≤s0+(k:Int)) (fun s k hk hP=>by
  have Qu:k < t.1.length:=by rw [aaK] at hk; exact hk
  obtain ⟨j,ej,hj,hm⟩:=yy (hr _ (aay hk));obtain ⟨b1,b2⟩:=Pz pc hj;have ek:(aax t.1.length)[k]=k:=by simp
  have ej2:(k:Int)=(j:Int):=by rw [← ej,ek]; rfl
  have ejk:k=j:=by omega
  subst ejk;have ws:wrap .i64 (s+1)=s+1:=wR ⟨by omega,by omega⟩;refine ⟨?_,by split <;> omega⟩;by_cases hp:piece < 0
  ·have em:au pc piece (E4 ((aax t.1.length)[k]))=true:=by unfold au; rw [if_pos hp]
   rw [em];simp only [po,lV,aas,ay Qu,ai Qu,hp,em,if_true,ws,bc (show k < 9223372036854775807 by omega),gw,gy,kE,kF,dX,dY,df,dg,gS,gT,nH,nI,jZ,aae,aat,aau,cond_true,cond_false,aal,eq_self,decide_true]
  ·have em:=hm piece hp;have dp:decide (piece < 0)=false:=decide_eq_false hp;rw [em]
   skip
   cases hb:(pc[k] == piece)
   ·simp only [po,lV,aas,ay Qu,ai Qu,dp,ai hj,b1,b2,hb,aaA,if_false,bc (show k < 9223372036854775807 by omega),gw,gy,kE,kF,dX,dY,df,dg,gS,gT,nH,nI,jZ,aae,aat,aau,cond_true,cond_false,aal,eq_self,decide_true]
   ·simp only [po,lV,aas,ay Qu,ai Qu,dp,ai hj,b1,b2,hb,if_true,ws,bc (show k < 9223372036854775807 by omega),gw,gy,kE,kF,dX,dY,df,dg,gS,gT,nH,nI,jZ,aae,aat,aau,cond_true,cond_false,aal,eq_self,decide_true]) (fun s _=>by
  simp only [po,lV,aas,aaK,aS,gw,gy,kE,kF,dX,dY,df,dg,gS,gT,nH,nI,jZ,aae,aat,aau,cond_true,cond_false,aal,eq_self,decide_true]) N s0 0 (aaT _) (by unfold eZ at hN; omega) ⟨hs.1,by simp⟩
 rw [aaM] at key;exact key
end Go.Proofs.Ytegoimldbgdeiaa
namespace Go.Proofs.Ytegoimldbgdeiaa
open Go Go.Am
open List (map)
open Int (toNat)
open Go.IntKind (wrap)
open Go.Am.aL (fits)
set_option maxRecDepth 100000
def zS (pc:List Int) (piece:Int) (s:List Int) (e:(Int × Int) × Int):List Int:=if au pc piece e.1.1=true then (if e.2∈s then s else s++[e.2]) else s
def F6 (pc:List Int) (piece:Int) (pm:List ((Int × Int) × Int)):List Int:=pm.foldl (zS pc piece) []
theorem DU {pc:List Int} {piece:Int} {s:List Int} {e:(Int × Int) × Int} (h:s.Nodup):(zS pc piece s e).Nodup:=by
 unfold zS;split
 ·split
  ·exact h
  ·rename_i hn;exact List.nodup_append.2 ⟨h,by simp,fun a ha b hb hab=>hn (by rw [List.mem_singleton] at hb; subst hb; subst hab; exact ha)⟩
 ·exact h
theorem Jw {pc:List Int} {piece:Int} {s:List Int} {e:(Int × Int) × Int} {x:Int}:x∈zS pc piece s e↔x∈s∨(au pc piece e.1.1=true∧e.2=x):=by
 unfold zS;by_cases h1:au pc piece e.1.1=true
 ·rw [if_pos h1];by_cases h2:e.2∈s
  ·rw [if_pos h2];exact ⟨.inl,fun h=>h.elim id fun h=>h.2 ▸ h2⟩
  ·rw [if_neg h2,List.mem_append,List.mem_singleton];exact ⟨fun h=>h.elim .inl fun h=>.inr ⟨h1,h.symm⟩,fun h=>h.elim .inl fun h=>.inr h.2.symm⟩
 ·rw [if_neg h1];exact ⟨.inl,fun h=>h.elim id fun h=>absurd h.1 h1⟩
theorem DV (pc:List Int) (piece:Int) (pm:List ((Int × Int) × Int)):(F6 pc piece pm).Nodup∧∀ x,x∈F6 pc piece pm↔∃ e∈pm,au pc piece e.1.1=true∧e.2=x:=by
 have gen:∀ (pm:List ((Int × Int) × Int)) (s:List Int),s.Nodup→(pm.foldl (zS pc piece) s).Nodup∧∀ x,x∈pm.foldl (zS pc piece) s↔x∈s∨∃ e∈pm,au pc piece e.1.1=true∧e.2=x:=by
  intro pm
  induction pm with
  |nil=>intro s h; exact ⟨h,fun x=>⟨.inl,fun h=>h.elim id fun ⟨e,he,_⟩=>by cases he⟩⟩
  |cons e pm ih=>
   intro s h;obtain ⟨h1,h2⟩:=ih (zS pc piece s e) (DU h);refine ⟨h1,fun x=>?_⟩;rw [List.foldl_cons,h2,Jw];constructor
   ·rintro ((h|h)|⟨e',Qn,h⟩)
    ·exact .inl h
    ·exact .inr ⟨e,List.mem_cons_self,h⟩
    ·exact .inr ⟨e',List.mem_cons_of_mem _ Qn,h⟩
   ·rintro (h|⟨e',Qn,h⟩)
    ·exact .inl (.inl h)
    ·rcases List.mem_cons.1 Qn with rfl|Qn
     ·exact .inl (.inr h)
     ·exact .inr ⟨e',Qn,h⟩
 obtain ⟨h1,h2⟩:=gen pm [] List.nodup_nil;exact ⟨h1,fun x=>by rw [show F6 pc piece pm=pm.foldl (zS pc piece) [] from rfl,h2]; simp⟩
def Jx (t:aZ) (piece:Int) (pc:List Int) (pm:List ((Int × Int) × Int)) (fr:List (Int × Int)) (op:List (List (Int × Int))) (mx:Int):Int × Int × Int × Int × Int × Int:=
 let pts:Int:=((F6 pc piece pm).length:Int)
 let E5:=nB pc piece E4 (aax t.1.length) 0
 let edg:=nB pc piece (fun x:Int × Int=>x.1) fr (nB pc piece (fun x:kQ=>x.1) t.2 0)
 (pts,edg,E5,wrap .i64 (mx+1),nB pc piece (fun x:List (Int × Int)=>(x.getD 0 (0,0)).1) op 0,wrap .i64 (wrap .i64 (pts - edg)+E5))
theorem NP {α:Type} (pc:List Int) (piece:Int) (key:α→Int):∀ (l:List α) (s:Int),s≤nB pc piece key l s∧nB pc piece key l s≤s+(l.length:Int)
 |[],s=>⟨Int.le_refl _,by simp [nB]⟩
 |x :: l,s=>by
  have h:=NP pc piece key l (if au pc piece (key x)=true then s+1 else s);have e:nB pc piece key (x :: l) s=nB pc piece key l (if au pc piece (key x)=true then s+1 else s):=rfl;rw [e,List.length_cons];split at h <;> (rename_i hm; simp only [hm,if_true,if_false,aaA]; omega)
section
variable {N:Nat} (hN:eZ N)
include hN
theorem NQ (t:aZ) (piece:Int) (pc:List Int) (pm:List ((Int × Int) × Int)) (fr:List (Int × Int)) (op:List (List (Int × Int))) (mx:Int)
  (hf:PA N t=some fr) (ho:NO N t=some op) (hx:XZ N pc=some mx) (h1:t.1.length≤1000) (h2:t.2.length≤100000) (h3:fr.length≤1000000) (h4:op.length≤1000000)
  (r0:∀ e∈pm,Jv pc e.1.1) (r1:pc.length=t.1.length) (r2:∀ s∈t.2,Jv pc s.1) (r3:∀ e∈fr,Jv pc e.1) (r4:∀ l∈op,l≠[]) (r5:∀ l∈op,Jv pc (l.getD 0 (0,0)).1) (hpm:pm.length≤1000000000) :
  ∀ (n:Nat) (L:List Nat) (s:List Int),L.length < n→L.Nodup→(∀ i∈L,i < pm.length)→s.Nodup→(∀ x,x∈s↔∃ j,∃ hj:j < pm.length,j∉L∧au pc piece pm[j].1.1=true∧pm[j].2=x) →
   eN (yw N t) n (piece,pc,yx s,pm,(pm.length:Int),jY L)=some (Jx t piece pc pm fr op mx)
 |0,L,s,h,_,_,_,_=>by omega
 |n+1,L,s,h,hL,hi,hs,gK=>by
  rw [pi];have ec:decide (pm.length=pm.length)=true:=decide_eq_true rfl;cases FY:L with
  |nil=>
   have i0:List.isEmpty ([]:List Nat)=true:=rfl;subst FY;have sl:s.length=(F6 pc piece pm).length:=by
    obtain ⟨d1,d2⟩:=DV pc piece pm;refine List.Perm.length_eq ((List.perm_ext_iff_of_nodup hs d1).2 fun x=>?_);rw [gK,d2];constructor
    ·rintro ⟨j,hj,-,h⟩;exact ⟨pm[j],aay hj,h⟩
    ·rintro ⟨e,he,h⟩;obtain ⟨j,hj,rfl⟩:=List.getElem_of_mem he;exact ⟨j,hj,by simp,h⟩
   have c0:=NP pc piece (fun x:kQ=>x.1) t.2 0;have q1:=SD hN t (s.length:Int) 0 0 0 0 0 piece pc (yx s) pm pm.length [] (by rw [aaK]; omega) (by omega) (fun x hx=>by
    have:=aa0.1 hx;unfold Jv E4;omega)
   have q2:=SA hN t (s.length:Int) (nB pc piece E4 (aax t.1.length) 0) 0 0 0 0 piece pc (yx s) pm pm.length [] (by omega) (by omega) r2;have q3:=SB hN fr (s.length:Int) (nB pc piece E4 (aax t.1.length) 0) 0 0 0 (nB pc piece (fun x:kQ=>x.1) t.2 0) piece pc (yx s) pm pm.length [] h3 (by omega) r3;have q4:=PC hN op r4 (s.length:Int) (nB pc piece (fun x:Int × Int=>x.1) fr (nB pc piece (fun x:kQ=>x.1) t.2 0)) (nB pc piece E4 (aax t.1.length) 0) 0 0 0 piece pc (yx s) pm pm.length [] h4 (by omega) r5;have sl2:(yx s).length=s.length:=by unfold yx; rw [aas]
   have ht:PA N (t.1,t.2)=some fr:=hf;have ht2:NO N (t.1,t.2)=some op:=ho;simp only [yw,E3,aae,ec,cond_true,jZ,i0,afm,sl2,gw,gy,kE,kF,dX,dY,df,dg,gS,gT,nH,nI,bN,bO,bZ,b8,aat,aau,aal,q1,q2,ht,q3,ht2,q4,hx];rw [sl];rfl
  |cons a L'=>
   rw [← FY];have i0:List.isEmpty L=false:=by rw [FY]; rfl
   simp only [yw,E3,aae,ec,cond_true,cond_false,jZ,i0];refine yg (by rw [FY]; simp) fun i hmi=>?_
   have cI:=hi i hmi;have qQ:(L.erase i).length=L.length - 1:=List.length_erase_of_mem hmi;have sf:0 < L.length:=List.length_pos_of_mem hmi;have dl:decide (i < pm.length)=true:=decide_eq_true cI;have ih:=fun s' (vG:s'.Nodup) h2'=>NQ t piece pc pm fr op mx hf ho hx h1 h2 h3 h4 r0 r1 r2 r3 r4 r5 hpm n (L.erase i) s' (by omega) (hL.erase i) (fun j hj=>hi j (aa3 hj)) vG h2'
   have hme:∀ x,(x∈zS pc piece s pm[i])↔∃ j,∃ hj:j < pm.length,j∉L.erase i∧au pc piece pm[j].1.1=true∧pm[j].2=x:=fun x=>by
    rw [Jw,gK];constructor
    ·rintro (⟨j,hj,Ma,h⟩|h)
     ·exact ⟨j,hj,fun hm=>Ma (aa3 hm),h⟩
     ·exact ⟨i,cI,fun hm=>((List.Nodup.mem_erase_iff hL).1 hm).1 rfl,h⟩
    ·rintro ⟨j,hj,Ma,h⟩;by_cases hji:j=i
     ·subst hji; exact .inr h
     ·exact .inl ⟨j,hj,fun hm=>Ma ((List.Nodup.mem_erase_iff hL).2 ⟨hji,hm⟩),h⟩
   have Ui:=ih (zS pc piece s pm[i]) (DU hs) hme;obtain ⟨j,ej,hj,hm⟩:=yy (r0 pm[i] (aay cI));obtain ⟨b1,b2⟩:=Pz pc hj;rw [aaz pm cI];simp only [Sb,Sc,Ht,Hu,aat,cond_true,dl,ec];have sp:=Sz s pm[i].2;by_cases hp:piece < 0
   ·have em:au pc piece pm[i].1.1=true:=by unfold au; rw [if_pos hp]
    unfold zS at Ui;rw [if_pos em] at Ui;simp only [hp,decide_true,gw,gy,kE,kF,dX,dY,df,dg,gS,gT,nH,nI,jZ,aae,aat,aau,cond_true,aal,X0,X1,sp];exact Ui
   ·have em:=hm piece hp;have dp:decide (piece < 0)=false:=decide_eq_false hp;unfold zS at Ui;rw [em] at Ui;cases hb:(pc[j] == piece)
    ·rw [hb] at Ui;rw [if_neg (by decide)] at Ui;simp only [aas,eq_self,decide_true,dp,ej,ai hj,b1,b2,hb,gw,gy,kE,kF,dX,dY,df,dg,gS,gT,nH,nI,jZ,aae,aat,aau,cond_true,cond_false,aal];exact Ui
    ·rw [hb,if_pos rfl] at Ui;simp only [aas,eq_self,decide_true,dp,ej,ai hj,b1,b2,hb,gw,gy,kE,kF,dX,dY,df,dg,gS,gT,nH,nI,jZ,aae,aat,aau,cond_true,cond_false,aal,X0,X1,sp];exact Ui
theorem F7 (t:aZ) (piece:Int) (fr:List (Int × Int)) (op:List (List (Int × Int))) (mx:Int)
  (hf:PA N t=some fr) (ho:NO N t=some op) (hx:XZ N (ah t)=some mx) (h1:t.1.length≤1000) (hs:∀ x∈t.1,x.2.length≤1000) (h2:t.2.length≤100000) (hk:∀ s∈t.2,VS t s=true) (h3:fr.length≤1000000) (h4:op.length≤1000000)
  (r0:∀ e∈dF t,Jv (ah t) e.1.1) (r2:∀ s∈t.2,Jv (ah t) s.1) (r3:∀ e∈fr,Jv (ah t) e.1) (r4:∀ l∈op,l≠[]) (r5:∀ l∈op,Jv (ah t) (l.getD 0 (0,0)).1) (hpm:(dF t).length≤1000000000) :
  Sx N (t,piece)=some (Jx t piece (ah t) (dF t) fr op mx):=by
 have q1:Ud N (t.1,t.2)=some (ah t):=sO hN t (by omega) (by omega);have q2:T79 N (t.1,t.2)=some (dF t):=DK hN t h1 hs h2 hk;have r1:(ah t).length=t.1.length:=by unfold ah; simp only [aas,gn]
 have q:=NQ hN t piece (ah t) (dF t) fr op mx hf ho hx h1 h2 h3 h4 r0 r1 r2 r3 r4 r5 hpm N (aax (dF t).length) [] (by rw [aaK]; unfold eZ at hN; omega) List.nodup_range (fun i hi=>aa0.1 hi) List.nodup_nil (fun x=>by
  constructor
  ·intro h; cases h
  ·rintro ⟨j,hj,Ma,-⟩;exact absurd (aa0.2 hj) Ma)
 have q:eN (yw N t) N (piece,ah t,[],dF t,((dF t).length:Int),jY (aax (dF t).length))=some (Jx t piece (ah t) (dF t) fr op mx):=q;have f0:allFit (fits fM) ([]:List AV)=true:=rfl;have m0:map e8 ([]:List AV)=[]:=rfl;rw [show Sx N (t,piece)=Sx N ((t.1,t.2),piece) from rfl,abc];simp only [bN,bO,bZ,b8,aat,aau,cond_true,aal,q1,q2,gw,gy,c0_,f0,m0,a0_,dX,df,dg,dY,E3,nH,nI];exact q
end
end Go.Proofs.Ytegoimldbgdeiaa
namespace Go.Proofs.Ytegoimldbgdeiaa
open Go Go.Am
open List (map)
open Int (toNat)
open Go.IntKind (wrap)
open Go.Am.aL (fits)
set_option maxRecDepth 100000
theorem aK.swap {E:Env} {g:FuncId} {ps:aU} {p:aL} {T T':ps.T→Option p.T} (h:aK E g ⟨ps,p,T⟩) (hT:∀ x y,T' x=some y→T x=some y):aK E g ⟨ps,p,T'⟩:=fun x y hh=>h x y (hT x y hh)
def okT (t:aZ):Bool:=aa6 t.1.length 1000&&(t.1.all fun x=>aa6 x.2.length 1000)&&aa6 t.2.length 1000&&t.2.all (VS t)
theorem Mm {t:aZ} (h:okT t=true):t.1.length≤1000∧(∀ x∈t.1,x.2.length≤1000)∧t.2.length≤1000∧∀ s∈t.2,VS t s=true:=by
 unfold okT at h;simp only [aaP,List.all_eq_true] at h;exact ⟨aav h.1.1.1,fun x hx=>aav (h.1.1.2 x hx),aav h.1.2,h.2⟩
def PD (pc:List Int) (p:Int):Bool:=decide (0≤p)&&decide (p < (pc.length:Int))
theorem BR {pc:List Int} {p:Int} (h:PD pc p=true):Jv pc p:=by
 unfold PD at h;simp only [aaP,decide_eq_true_eq] at h;exact h
def HA (t:aZ):Option (List Int):=bif okT t then some (ah t) else none
def HB (t:aZ):Option (List ((Int × Int) × Int)):=bif okT t then some (dF t) else none
noncomputable def Dy (N:Nat) (x:aZ × Int):Option (Int × Int × Int × Int × Int × Int):=
 bif okT x.1 then (PA N x.1).bind fun fr=>(NO N x.1).bind fun op=>(XZ N (ah x.1)).bind fun mx=>
  bif aa6 fr.length 1000000&&(aa6 op.length 1000000&&(aa6 (dF x.1).length 1000000&&((dF x.1).all (fun e=>PD (ah x.1) e.1.1)&&(x.1.2.all (fun s=>PD (ah x.1) s.1)&&(fr.all (fun e=>PD (ah x.1) e.1)&&op.all (fun l=>!l.isEmpty&&PD (ah x.1) (l.getD 0 (0,0)).1)))))) then some (Jx x.1 x.2 (ah x.1) (dF x.1) fr op mx) else none
 else none
section
variable {N:Nat} (hN:eZ N)
include hN
theorem PE (t:aZ) (y:List Int) (h:HA t=some y):Ud N t=some y:=by
 unfold HA at h;obtain ⟨h1,h2⟩:=bl h;cases h2;obtain ⟨a,b,c,d⟩:=Mm h1;exact sO hN t (by omega) (by omega)
theorem PF (t:aZ) (y:List ((Int × Int) × Int)) (h:HB t=some y):T79 N t=some y:=by
 unfold HB at h;obtain ⟨h1,h2⟩:=bl h;cases h2;obtain ⟨a,b,c,d⟩:=Mm h1;exact DK hN t a b (by omega) d
theorem count_eq (x:aZ × Int) (y:Int × Int × Int × Int × Int × Int) (h:Dy N x=some y):Sx N x=some y:=by
 unfold Dy at h;obtain ⟨h1,h2⟩:=bl h;obtain ⟨a,b,c,d⟩:=Mm h1;obtain ⟨fr,q1,h2⟩:=bind_some h2;obtain ⟨op,q2,h2⟩:=bind_some h2;obtain ⟨mx,q3,h2⟩:=bind_some h2;obtain ⟨h3,h4⟩:=bl h2;cases h4;simp only [aaP,List.all_eq_true] at h3;obtain ⟨c1,c2,c3,c4,c5,c6,c7⟩:=h3;exact F7 hN x.1 x.2 fr op mx q1 q2 q3 a b (by omega) d (aav c1) (aav c2) (fun e he=>BR (c4 e he)) (fun s hs=>BR (c5 s hs)) (fun e he=>BR (c6 e he)) (fun l hl=>by
  have:=(c7 l hl).1;intro e;subst e;cases this) (fun l hl=>BR (c7 l hl).2) (by have:=aav c3; omega)
end
noncomputable def NR:bi:=⟨(.cons nA .nil),aQ,HA⟩
theorem Mn {N:Nat} (hN:eZ N):aK ck 60 NR:=aK.swap (Hw N) (fun x y h=>PE hN x y h)
noncomputable def L4 (N:Nat):bi:=⟨(.cons nA (.cons (.int .i64) .nil)),Np,Dy N⟩
theorem PG {N:Nat} (hN:eZ N):aK ck 58 (L4 N):=fun x y h=>Ml N x y (count_eq hN x y h)
noncomputable def V5 (N:Nat) (hN:eZ N):sI ck 79:=⟨(.cons nA .nil),o79,HB,fun x y h=>Sg N x y (PF hN x y h)⟩
end Go.Proofs.Ytegoimldbgdeiaa
