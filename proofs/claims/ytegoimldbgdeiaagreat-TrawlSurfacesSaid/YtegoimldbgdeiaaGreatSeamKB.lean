/- Plain laws: how many points,edges and openings. -/
import Derived.Test.YtegoimldbgdeiaaGreatSeamKA
import Derived.Test.YtegoimldbgdeiaaGreatTrzC
set_option linter.all false
open Bool renaming and_self→aak, and_true→aaq, false_eq_true→aaG, and_eq_true→abr
open Int renaming toNat_natCast→aaa
open List renaming length_map→aah, range→aas, getElem_mem→aaF, length_range→aaN, drop_zero→abp, mem_range→abu, mem_of_mem_erase→abv
open Nat renaming le_of_ble_eq_true→aar, zero_le→abt, ble→abw
open Option renaming bind_some→aag
namespace Go.Proofs.YtegoimldbgdeiaaGreat
open Go Go.Am
open List (map)
open Int (toNat)
open Go.IntKind (wrap)
open Go.Am.aM (fits)
set_option maxRecDepth 100000
theorem J5:jw .int (fun k:Int=>AV.int .i64 k) AV.bool tN:=⟨fun a b=>Ot .i64 a b,fun _=>rfl,fun _=>rfl⟩
theorem Zc (a:Int) (m:List (Int × Bool)):cW .int (AV.int .i64 a) (az (map tN m))=true:=J5.keys a m
theorem Zd (a:Int) (v:Bool) (m:List (Int × Bool)):eu .int (AV.int .i64 a) (AV.bool v) (az (map tN m))=az (map tN (gl a v m)):=J5.put a v m
theorem ll (m:List (Int × Bool)):ae (az (map tN m))=map tN m:=J5.cells m
theorem lm (m:List (Int × Bool)):iD (az (map tN m))=true:=J5.iD m
theorem af2 (m:List (Int × Bool)):(az (map tN m)).length=m.length:=by rw [J5.ent,aah]
def zd (l:List Int):List (Int × Bool):=l.map fun x=>(x,true)
theorem Ti (l:List Int) (x:Int):gl x true (zd l)=zd (if x∈l then l else l++[x]):=by
 by_cases h:x∈l
 ·rw [if_pos h]
  induction l with
  |nil=>cases h
  |cons y l ih=>
   show gl x true ((y,true) :: zd l)=(y,true) :: zd l;unfold gl;by_cases hy:x=y
   ·rw [if_pos hy,hy]
   ·rw [if_neg hy,ih (by rcases List.mem_cons.1 h with h | h; exact absurd h hy; exact h)]
 ·rw [if_neg h];have:getM x (zd l)=none:=by unfold zd; rw [AB,if_neg h]
  rw [Eb this];unfold zd;rw [List.map_append];rfl
def eR (pc:List Int) (piece p:Int):Bool:=if piece < 0 then true else pc.getD p.toNat 0 == piece
def HW (i:Nat):Int:=(i:Int)
def qe {α:Type} (pc:List Int) (piece:Int) (key:α→Int) (l:List α) (s:Int):Int:=l.foldl (fun s x=>if eR pc piece (key x)=true then s+1 else s) s
def J6 (pc:List Int) (p:Int):Prop:=0≤p∧p < (pc.length:Int)
theorem ze {pc:List Int} {p:Int} (h:J6 pc p):∃ k:Nat,p=(k:Int)∧∃ hk:k < pc.length,∀ piece,¬ piece < 0→eR pc piece p=(pc[k] == piece):=by
 obtain ⟨h1,h2⟩:=h;refine ⟨p.toNat,by omega,by omega,fun piece hp=>?_⟩;unfold eR;rw [if_neg hp,List.getD_eq_getElem?_getD,List.getElem?_eq_getElem (show p.toNat < pc.length by omega)];rfl
theorem Tj {N:Nat} (hN:eQ N) (t:bk) (p n z o u s0:Int) (piece:Int) (pc:List Int) (S:List (Int × Bool)) (pm:List ((Int × Int) × Int)) (c:Nat) (L:List Nat) (hl:t.2.length≤1000000) (hs:0≤s0∧s0≤1000000) (hr:∀ x∈t.2,J6 pc (x.1)) :
  aA (pK N t) N (0,p,s0,n,z,o,u,piece,pc,S,pm,(c:Int),iq L)=some (p,(qe pc piece (fun x=>x.1) t.2 s0),n,z,o,u,piece,pc,S,pm,(c:Int),iq L):=by
 have key:=dT (rd:=pK N t) t.2 (fun (s:Int) k=>((k:Int),p,s,n,z,o,u,piece,pc,S,pm,(c:Int),iq L)) (fun s x=>if eR pc piece (x.1)=true then s+1 else s) (fun s=>(p,s,n,z,o,u,piece,pc,S,pm,(c:Int),iq L)) (fun s k=>0≤s∧s≤s0+(k:Int)) (fun s k hk hP=>by
  obtain ⟨a1,a2⟩:=Bv t.2 hk;obtain ⟨j,ej,hj,hm⟩:=ze (hr _ (aaF hk));obtain ⟨b1,b2⟩:=Iq pc hj;have ws:wrap .i64 (s+1)=s+1:=KZ ⟨by omega,by omega⟩;refine ⟨?_,by split <;> omega⟩;by_cases hp:piece < 0
  ·have em:eR pc piece (t.2[k].1)=true:=by unfold eR; rw [if_pos hp]
   rw [em];simp only [pK,mC,aah,ar hk,ah hk,a1,a2,hp,em,if_true,ws,aS (show k < 9223372036854775807 by omega),ji,jj,ll,lm,cR,cS,cL,cM,iK,iL,mw,my,jC,aaa,aak,aaq,cond_true,cond_false,aag,eq_self,decide_true]
  ·have em:=hm piece hp;have dp:decide (piece < 0)=false:=decide_eq_false hp;rw [em]
   skip
   cases hb:(pc[j] == piece)
   ·simp only [pK,mC,aah,ar hk,ah hk,a1,a2,dp,ej,ah hj,b1,b2,hb,aaG,if_false,aS (show k < 9223372036854775807 by omega),ji,jj,ll,lm,cR,cS,cL,cM,iK,iL,mw,my,jC,aaa,aak,aaq,cond_true,cond_false,aag,eq_self,decide_true]
   ·simp only [pK,mC,aah,ar hk,ah hk,a1,a2,dp,ej,ah hj,b1,b2,hb,if_true,ws,aS (show k < 9223372036854775807 by omega),ji,jj,ll,lm,cR,cS,cL,cM,iK,iL,mw,my,jC,aaa,aak,aaq,cond_true,cond_false,aag,eq_self,decide_true]) (fun s _=>by
  simp only [pK,mC,aah,aI,ji,jj,ll,lm,cR,cS,cL,cM,iK,iL,mw,my,jC,aaa,aak,aaq,cond_true,cond_false,aag,eq_self,decide_true]) N s0 0 (abt _) (by unfold eQ at hN; omega) ⟨hs.1,by simp⟩
 rw [abp] at key;exact key
theorem Tk {N:Nat} (hN:eQ N) (fr:List (Int × Int)) (p n z o u s0:Int) (piece:Int) (pc:List Int) (S:List (Int × Bool)) (pm:List ((Int × Int) × Int)) (c:Nat) (L:List Nat) (hl:fr.length≤1000000) (hs:0≤s0∧s0≤1000000) (hr:∀ x∈fr,J6 pc (x.1)) :
  aA (pL N fr) N (0,p,s0,n,z,o,u,piece,pc,S,pm,(c:Int),iq L)=some (p,(qe pc piece (fun x=>x.1) fr s0),n,z,o,u,piece,pc,S,pm,(c:Int),iq L):=by
 have key:=dT (rd:=pL N fr) fr (fun (s:Int) k=>((k:Int),p,s,n,z,o,u,piece,pc,S,pm,(c:Int),iq L)) (fun s x=>if eR pc piece (x.1)=true then s+1 else s) (fun s=>(p,s,n,z,o,u,piece,pc,S,pm,(c:Int),iq L)) (fun s k=>0≤s∧s≤s0+(k:Int)) (fun s k hk hP=>by
  obtain ⟨a1,a2⟩:=JZ fr hk;obtain ⟨j,ej,hj,hm⟩:=ze (hr _ (aaF hk));obtain ⟨b1,b2⟩:=Iq pc hj;have ws:wrap .i64 (s+1)=s+1:=KZ ⟨by omega,by omega⟩;refine ⟨?_,by split <;> omega⟩;by_cases hp:piece < 0
  ·have em:eR pc piece (fr[k].1)=true:=by unfold eR; rw [if_pos hp]
   rw [em];simp only [pL,mD,aah,ar hk,ah hk,a1,a2,hp,em,if_true,ws,aS (show k < 9223372036854775807 by omega),ji,jj,ll,lm,cR,cS,cL,cM,iK,iL,mw,my,jC,aaa,aak,aaq,cond_true,cond_false,aag,eq_self,decide_true]
  ·have em:=hm piece hp;have dp:decide (piece < 0)=false:=decide_eq_false hp;rw [em]
   skip
   cases hb:(pc[j] == piece)
   ·simp only [pL,mD,aah,ar hk,ah hk,a1,a2,dp,ej,ah hj,b1,b2,hb,aaG,if_false,aS (show k < 9223372036854775807 by omega),ji,jj,ll,lm,cR,cS,cL,cM,iK,iL,mw,my,jC,aaa,aak,aaq,cond_true,cond_false,aag,eq_self,decide_true]
   ·simp only [pL,mD,aah,ar hk,ah hk,a1,a2,dp,ej,ah hj,b1,b2,hb,if_true,ws,aS (show k < 9223372036854775807 by omega),ji,jj,ll,lm,cR,cS,cL,cM,iK,iL,mw,my,jC,aaa,aak,aaq,cond_true,cond_false,aag,eq_self,decide_true]) (fun s _=>by
  simp only [pL,mD,aah,aI,ji,jj,ll,lm,cR,cS,cL,cM,iK,iL,mw,my,jC,aaa,aak,aaq,cond_true,cond_false,aag,eq_self,decide_true]) N s0 0 (abt _) (by unfold eQ at hN; omega) ⟨hs.1,by simp⟩
 rw [abp] at key;exact key
theorem ajZ (l:List (List (Int × Int))) {k:Nat} (hk:k < l.length):d37 (af (map n37 l) k)=l[k]∧fits OB (af (map n37 l) k)=true:=by
 rw [gb n37 l k hk,ajK,ajJ]; exact ⟨rfl,rfl⟩
theorem Qb {N:Nat} (hN:eQ N) (op:List (List (Int × Int))) (df:∀ x∈op,x≠[]) (p e n z u s0:Int) (piece:Int) (pc:List Int) (S:List (Int × Bool)) (pm:List ((Int × Int) × Int)) (c:Nat) (L:List Nat) (hl:op.length≤1000000) (hs:0≤s0∧s0≤1000000) (hr:∀ x∈op,J6 pc ((x.getD 0 (0,0)).1)) :
  aA (mE N op) N (0,p,e,n,z,s0,u,piece,pc,S,pm,(c:Int),iq L)=some (p,e,n,z,(qe pc piece (fun x=>(x.getD 0 (0,0)).1) op s0),u,piece,pc,S,pm,(c:Int),iq L):=by
 have key:=dT (rd:=mE N op) op (fun (s:Int) k=>((k:Int),p,e,n,z,s,u,piece,pc,S,pm,(c:Int),iq L)) (fun s x=>if eR pc piece ((x.getD 0 (0,0)).1)=true then s+1 else s) (fun s=>(p,e,n,z,s,u,piece,pc,S,pm,(c:Int),iq L)) (fun s k=>0≤s∧s≤s0+(k:Int)) (fun s k hk hP=>by
  obtain ⟨a1,a2⟩:=ajZ op hk;obtain ⟨x0,xt,hx⟩:∃ x0 xt,op[k]=x0 :: xt:=by
   have:=df _ (aaF hk);cases h:op[k] with
   |nil=>exact absurd h this
   |cons a b=>exact ⟨a,b,rfl⟩
  have ek:op[k].getD 0 (0,0)=x0:=by rw [hx]; rfl
  have e1:decide ((0:Int)≤0∧0 < (((x0 :: xt).length:Nat):Int))=true:=decide_eq_true ⟨by omega,by rw [List.length_cons]; omega⟩;have e2:d100 (af (map n100 (x0 :: xt)) 0)=x0:=JS x0;have e3:fits lA (af (map n100 (x0 :: xt)) 0)=true:=JR x0;have tz:toNat 0=0:=rfl;obtain ⟨j,ej,hj,hm⟩:=ze (hr _ (aaF hk));obtain ⟨b1,b2⟩:=Iq pc hj;have ej2:x0.1=(j:Int):=by rw [← ej,ek]
  have ws:wrap .i64 (s+1)=s+1:=KZ ⟨by omega,by omega⟩;refine ⟨?_,by split <;> omega⟩;by_cases hp:piece < 0
  ·have em:eR pc piece ((op[k].getD 0 (0,0)).1)=true:=by unfold eR; rw [if_pos hp]
   rw [em];simp only [mE,kO,aah,ar hk,ah hk,a1,a2,hx,e1,e2,e3,tz,hp,em,if_true,ws,aS (show k < 9223372036854775807 by omega),ji,jj,ll,lm,cR,cS,cL,cM,iK,iL,mw,my,jC,aaa,aak,aaq,cond_true,cond_false,aag,eq_self,decide_true]
  ·have em:=hm piece hp;have dp:decide (piece < 0)=false:=decide_eq_false hp;rw [em]
   skip
   cases hb:(pc[j] == piece)
   ·simp only [mE,kO,aah,ar hk,ah hk,a1,a2,hx,e1,e2,e3,tz,dp,ej2,ah hj,b1,b2,hb,aaG,if_false,aS (show k < 9223372036854775807 by omega),ji,jj,ll,lm,cR,cS,cL,cM,iK,iL,mw,my,jC,aaa,aak,aaq,cond_true,cond_false,aag,eq_self,decide_true]
   ·simp only [mE,kO,aah,ar hk,ah hk,a1,a2,hx,e1,e2,e3,tz,dp,ej2,ah hj,b1,b2,hb,if_true,ws,aS (show k < 9223372036854775807 by omega),ji,jj,ll,lm,cR,cS,cL,cM,iK,iL,mw,my,jC,aaa,aak,aaq,cond_true,cond_false,aag,eq_self,decide_true]) (fun s _=>by
  simp only [mE,kO,aah,aI,ji,jj,ll,lm,cR,cS,cL,cM,iK,iL,mw,my,jC,aaa,aak,aaq,cond_true,cond_false,aag,eq_self,decide_true]) N s0 0 (abt _) (by unfold eQ at hN; omega) ⟨hs.1,by simp⟩
 rw [abp] at key;exact key
theorem Tl {N:Nat} (hN:eQ N) (t:bk) (p e z o u s0:Int) (piece:Int) (pc:List Int) (S:List (Int × Bool)) (pm:List ((Int × Int) × Int)) (c:Nat) (L:List Nat) (hl:(aas t.1.length).length≤1000000) (hs:0≤s0∧s0≤1000000) (hr:∀ x∈(aas t.1.length),J6 pc (HW x)) :
  aA (pJ N t) N (0,p,e,s0,z,o,u,piece,pc,S,pm,(c:Int),iq L)=some (p,e,(qe pc piece (fun x=>HW x) (aas t.1.length) s0),z,o,u,piece,pc,S,pm,(c:Int),iq L):=by
 have key:=dT (rd:=pJ N t) (aas t.1.length) (fun (s:Int) k=>((k:Int),p,e,s,z,o,u,piece,pc,S,pm,(c:Int),iq L)) (fun s x=>if eR pc piece (HW x)=true then s+1 else s) (fun s=>(p,e,s,z,o,u,piece,pc,S,pm,(c:Int),iq L)) (fun s k=>0≤s∧s≤s0+(k:Int)) (fun s k hk hP=>by
  have zP:k < t.1.length:=by rw [aaN] at hk; exact hk
  obtain ⟨j,ej,hj,hm⟩:=ze (hr _ (aaF hk));obtain ⟨b1,b2⟩:=Iq pc hj;have ek:(aas t.1.length)[k]=k:=by simp
  have ej2:(k:Int)=(j:Int):=by rw [← ej,ek]; rfl
  have ejk:k=j:=by omega
  subst ejk;have ws:wrap .i64 (s+1)=s+1:=KZ ⟨by omega,by omega⟩;refine ⟨?_,by split <;> omega⟩;by_cases hp:piece < 0
  ·have em:eR pc piece (HW ((aas t.1.length)[k]))=true:=by unfold eR; rw [if_pos hp]
   rw [em];simp only [pJ,mB,aah,ar zP,ah zP,hp,em,if_true,ws,aS (show k < 9223372036854775807 by omega),ji,jj,ll,lm,cR,cS,cL,cM,iK,iL,mw,my,jC,aaa,aak,aaq,cond_true,cond_false,aag,eq_self,decide_true]
  ·have em:=hm piece hp;have dp:decide (piece < 0)=false:=decide_eq_false hp;rw [em]
   skip
   cases hb:(pc[k] == piece)
   ·simp only [pJ,mB,aah,ar zP,ah zP,dp,ah hj,b1,b2,hb,aaG,if_false,aS (show k < 9223372036854775807 by omega),ji,jj,ll,lm,cR,cS,cL,cM,iK,iL,mw,my,jC,aaa,aak,aaq,cond_true,cond_false,aag,eq_self,decide_true]
   ·simp only [pJ,mB,aah,ar zP,ah zP,dp,ah hj,b1,b2,hb,if_true,ws,aS (show k < 9223372036854775807 by omega),ji,jj,ll,lm,cR,cS,cL,cM,iK,iL,mw,my,jC,aaa,aak,aaq,cond_true,cond_false,aag,eq_self,decide_true]) (fun s _=>by
  simp only [pJ,mB,aah,aaN,aI,ji,jj,ll,lm,cR,cS,cL,cM,iK,iL,mw,my,jC,aaa,aak,aaq,cond_true,cond_false,aag,eq_self,decide_true]) N s0 0 (abt _) (by unfold eQ at hN; omega) ⟨hs.1,by simp⟩
 rw [abp] at key;exact key
end Go.Proofs.YtegoimldbgdeiaaGreat
namespace Go.Proofs.YtegoimldbgdeiaaGreat
open Go Go.Am
open List (map)
open Int (toNat)
open Go.IntKind (wrap)
open Go.Am.aM (fits)
set_option maxRecDepth 100000
def AE (pc:List Int) (piece:Int) (s:List Int) (e:(Int × Int) × Int):List Int:=if eR pc piece e.1.1=true then (if e.2∈s then s else s++[e.2]) else s
def vg (pc:List Int) (piece:Int) (pm:List ((Int × Int) × Int)):List Int:=pm.foldl (AE pc piece) []
theorem Ek {pc:List Int} {piece:Int} {s:List Int} {e:(Int × Int) × Int} (h:s.Nodup):(AE pc piece s e).Nodup:=by
 unfold AE;split
 ·split
  ·exact h
  ·rename_i hn;exact List.nodup_append.2 ⟨h,by simp,fun a ha b hb hab=>hn (by rw [List.mem_singleton] at hb; subst hb; subst hab; exact ha)⟩
 ·exact h
theorem J7 {pc:List Int} {piece:Int} {s:List Int} {e:(Int × Int) × Int} {x:Int}:x∈AE pc piece s e↔x∈s∨(eR pc piece e.1.1=true∧e.2=x):=by
 unfold AE;by_cases h1:eR pc piece e.1.1=true
 ·rw [if_pos h1];by_cases h2:e.2∈s
  ·rw [if_pos h2];exact ⟨.inl,fun h=>h.elim id fun h=>h.2 ▸ h2⟩
  ·rw [if_neg h2,List.mem_append,List.mem_singleton];exact ⟨fun h=>h.elim .inl fun h=>.inr ⟨h1,h.symm⟩,fun h=>h.elim .inl fun h=>.inr h.2.symm⟩
 ·rw [if_neg h1];exact ⟨.inl,fun h=>h.elim id fun h=>absurd h.1 h1⟩
theorem xz (pc:List Int) (piece:Int) (pm:List ((Int × Int) × Int)):(vg pc piece pm).Nodup∧∀ x,x∈vg pc piece pm↔∃ e∈pm,eR pc piece e.1.1=true∧e.2=x:=by
 have gen:∀ (pm:List ((Int × Int) × Int)) (s:List Int),s.Nodup→(pm.foldl (AE pc piece) s).Nodup∧∀ x,x∈pm.foldl (AE pc piece) s↔x∈s∨∃ e∈pm,eR pc piece e.1.1=true∧e.2=x:=by
  intro pm
  induction pm with
  |nil=>intro s h; exact ⟨h,fun x=>⟨.inl,fun h=>h.elim id fun ⟨e,he,_⟩=>by cases he⟩⟩
  |cons e pm ih=>
   intro s h;obtain ⟨h1,h2⟩:=ih (AE pc piece s e) (Ek h);refine ⟨h1,fun x=>?_⟩;rw [List.foldl_cons,h2,J7];constructor
   ·rintro ((h|h)|⟨e',UP,h⟩)
    ·exact .inl h
    ·exact .inr ⟨e,List.mem_cons_self,h⟩
    ·exact .inr ⟨e',List.mem_cons_of_mem _ UP,h⟩
   ·rintro (h|⟨e',UP,h⟩)
    ·exact .inl (.inl h)
    ·rcases List.mem_cons.1 UP with rfl|UP
     ·exact .inl (.inr h)
     ·exact .inr ⟨e',UP,h⟩
 obtain ⟨h1,h2⟩:=gen pm [] List.nodup_nil;exact ⟨h1,fun x=>by rw [show vg pc piece pm=pm.foldl (AE pc piece) [] from rfl,h2]; simp⟩
def J8 (t:bk) (piece:Int) (pc:List Int) (pm:List ((Int × Int) × Int)) (fr:List (Int × Int)) (op:List (List (Int × Int))) (mx:Int):Int × Int × Int × Int × Int × Int:=
 let pts:Int:=((vg pc piece pm).length:Int)
 let E4:=qe pc piece HW (aas t.1.length) 0
 let edg:=qe pc piece (fun x:Int × Int=>x.1) fr (qe pc piece (fun x:oN=>x.1) t.2 0)
 (pts,edg,E4,wrap .i64 (mx+1),qe pc piece (fun x:List (Int × Int)=>(x.getD 0 (0,0)).1) op 0,wrap .i64 (wrap .i64 (pts - edg)+E4))
theorem OG {α:Type} (pc:List Int) (piece:Int) (key:α→Int):∀ (l:List α) (s:Int),s≤qe pc piece key l s∧qe pc piece key l s≤s+(l.length:Int)
 |[],s=>⟨Int.le_refl _,by simp [qe]⟩
 |x :: l,s=>by
  have h:=OG pc piece key l (if eR pc piece (key x)=true then s+1 else s);have e:qe pc piece key (x :: l) s=qe pc piece key l (if eR pc piece (key x)=true then s+1 else s):=rfl;rw [e,List.length_cons];split at h <;> (rename_i hm; simp only [hm,if_true,if_false,aaG]; omega)
section
variable {N:Nat} (hN:eQ N)
include hN
theorem OH (t:bk) (piece:Int) (pc:List Int) (pm:List ((Int × Int) × Int)) (fr:List (Int × Int)) (op:List (List (Int × Int))) (mx:Int)
  (hf:Q5 N t=some fr) (ho:UU N t=some op) (hx:T60 N pc=some mx) (h1:t.1.length≤1000) (h2:t.2.length≤100000) (h3:fr.length≤1000000) (h4:op.length≤1000000)
  (r0:∀ e∈pm,J6 pc e.1.1) (r1:pc.length=t.1.length) (r2:∀ s∈t.2,J6 pc s.1) (r3:∀ e∈fr,J6 pc e.1) (r4:∀ l∈op,l≠[]) (r5:∀ l∈op,J6 pc (l.getD 0 (0,0)).1) (hpm:pm.length≤1000000000) :
  ∀ (n:Nat) (L:List Nat) (s:List Int),L.length < n→L.Nodup→(∀ i∈L,i < pm.length)→s.Nodup→(∀ x,x∈s↔∃ j,∃ hj:j < pm.length,j∉L∧eR pc piece pm[j].1.1=true∧pm[j].2=x) →
   gK (zb N t) n (piece,pc,zd s,pm,(pm.length:Int),iq L)=some (J8 t piece pc pm fr op mx)
 |0,L,s,h,_,_,_,_=>by omega
 |n+1,L,s,h,hL,hi,hs,gY=>by
  rw [pG];have ec:decide (pm.length=pm.length)=true:=decide_eq_true rfl;cases Gp:L with
  |nil=>
   have i0:List.isEmpty ([]:List Nat)=true:=rfl;subst Gp;have sl:s.length=(vg pc piece pm).length:=by
    obtain ⟨d1,d2⟩:=xz pc piece pm;refine List.Perm.length_eq ((List.perm_ext_iff_of_nodup hs d1).2 fun x=>?_);rw [gY,d2];constructor
    ·rintro ⟨j,hj,-,h⟩;exact ⟨pm[j],aaF hj,h⟩
    ·rintro ⟨e,he,h⟩;obtain ⟨j,hj,rfl⟩:=List.getElem_of_mem he;exact ⟨j,hj,by simp,h⟩
   have c0:=OG pc piece (fun x:oN=>x.1) t.2 0;have q1:=Tl hN t (s.length:Int) 0 0 0 0 0 piece pc (zd s) pm pm.length [] (by rw [aaN]; omega) (by omega) (fun x hx=>by
    have:=abu.1 hx;unfold J6 HW;omega)
   have q2:=Tj hN t (s.length:Int) (qe pc piece HW (aas t.1.length) 0) 0 0 0 0 piece pc (zd s) pm pm.length [] (by omega) (by omega) r2;have q3:=Tk hN fr (s.length:Int) (qe pc piece HW (aas t.1.length) 0) 0 0 0 (qe pc piece (fun x:oN=>x.1) t.2 0) piece pc (zd s) pm pm.length [] h3 (by omega) r3;have q4:=Qb hN op r4 (s.length:Int) (qe pc piece (fun x:Int × Int=>x.1) fr (qe pc piece (fun x:oN=>x.1) t.2 0)) (qe pc piece HW (aas t.1.length) 0) 0 0 0 piece pc (zd s) pm pm.length [] h4 (by omega) r5;have sl2:(zd s).length=s.length:=by unfold zd; rw [aah]
   have ht:Q5 N (t.1,t.2)=some fr:=hf;have ht2:UU N (t.1,t.2)=some op:=ho;simp only [zb,yW,aaa,ec,cond_true,jC,i0,af2,sl2,ji,jj,ll,lm,cR,cS,cL,cM,iK,iL,mw,my,bT,bU,cg,cj,aak,aaq,aag,q1,q2,ht,q3,ht2,q4,hx];rw [sl];rfl
  |cons a L'=>
   rw [← Gp];have i0:List.isEmpty L=false:=by rw [Gp]; rfl
   simp only [zb,yW,aaa,ec,cond_true,cond_false,jC,i0];refine yJ (by rw [Gp]; simp) fun i hmi=>?_
   have cE:=hi i hmi;have mN:(L.erase i).length=L.length - 1:=List.length_erase_of_mem hmi;have oZ:0 < L.length:=List.length_pos_of_mem hmi;have dl:decide (i < pm.length)=true:=decide_eq_true cE;have ih:=fun s' (rC:s'.Nodup) h2'=>OH t piece pc pm fr op mx hf ho hx h1 h2 h3 h4 r0 r1 r2 r3 r4 r5 hpm n (L.erase i) s' (by omega) (hL.erase i) (fun j hj=>hi j (abv hj)) rC h2'
   have hme:∀ x,(x∈AE pc piece s pm[i])↔∃ j,∃ hj:j < pm.length,j∉L.erase i∧eR pc piece pm[j].1.1=true∧pm[j].2=x:=fun x=>by
    rw [J7,gY];constructor
    ·rintro (⟨j,hj,MX,h⟩|h)
     ·exact ⟨j,hj,fun hm=>MX (abv hm),h⟩
     ·exact ⟨i,cE,fun hm=>((List.Nodup.mem_erase_iff hL).1 hm).1 rfl,h⟩
    ·rintro ⟨j,hj,MX,h⟩;by_cases hji:j=i
     ·subst hji; exact .inr h
     ·exact .inl ⟨j,hj,fun hm=>MX ((List.Nodup.mem_erase_iff hL).2 ⟨hji,hm⟩),h⟩
   have UW:=ih (AE pc piece s pm[i]) (Ek hs) hme;obtain ⟨j,ej,hj,hm⟩:=ze (r0 pm[i] (aaF cE));obtain ⟨b1,b2⟩:=Iq pc hj;rw [S0 pm cE];simp only [JR,JS,Gl,Gm,aak,cond_true,dl,ec];have sp:=Ti s pm[i].2;by_cases hp:piece < 0
   ·have em:eR pc piece pm[i].1.1=true:=by unfold eR; rw [if_pos hp]
    unfold AE at UW;rw [if_pos em] at UW;simp only [hp,decide_true,ji,jj,ll,lm,cR,cS,cL,cM,iK,iL,mw,my,jC,aaa,aak,aaq,cond_true,aag,Zc,Zd,sp];exact UW
   ·have em:=hm piece hp;have dp:decide (piece < 0)=false:=decide_eq_false hp;unfold AE at UW;rw [em] at UW;cases hb:(pc[j] == piece)
    ·rw [hb] at UW;rw [if_neg (by decide)] at UW;simp only [aah,eq_self,decide_true,dp,ej,ah hj,b1,b2,hb,ji,jj,ll,lm,cR,cS,cL,cM,iK,iL,mw,my,jC,aaa,aak,aaq,cond_true,cond_false,aag];exact UW
    ·rw [hb,if_pos rfl] at UW;simp only [aah,eq_self,decide_true,dp,ej,ah hj,b1,b2,hb,ji,jj,ll,lm,cR,cS,cL,cM,iK,iL,mw,my,jC,aaa,aak,aaq,cond_true,cond_false,aag,Zc,Zd,sp];exact UW
theorem Gv (t:bk) (piece:Int) (fr:List (Int × Int)) (op:List (List (Int × Int))) (mx:Int)
  (hf:Q5 N t=some fr) (ho:UU N t=some op) (hx:T60 N (ax t)=some mx) (h1:t.1.length≤1000) (hs:∀ x∈t.1,x.2.length≤1000) (h2:t.2.length≤100000) (hk:∀ s∈t.2,WJ t s=true) (h3:fr.length≤1000000) (h4:op.length≤1000000)
  (r0:∀ e∈bE t,J6 (ax t) e.1.1) (r2:∀ s∈t.2,J6 (ax t) s.1) (r3:∀ e∈fr,J6 (ax t) e.1) (r4:∀ l∈op,l≠[]) (r5:∀ l∈op,J6 (ax t) (l.getD 0 (0,0)).1) (hpm:(bE t).length≤1000000000) :
  WY N (t,piece)=some (J8 t piece (ax t) (bE t) fr op mx):=by
 have q1:YY N (t.1,t.2)=some (ax t):=xw hN t (by omega) (by omega);have q2:Ww N (t.1,t.2)=some (bE t):=xx hN t h1 hs h2 hk;have r1:(ax t).length=t.1.length:=by unfold ax; simp only [aah,gw]
 have q:=OH hN t piece (ax t) (bE t) fr op mx hf ho hx h1 h2 h3 h4 r0 r1 r2 r3 r4 r5 hpm N (aas (bE t).length) [] (by rw [aaN]; unfold eQ at hN; omega) List.nodup_range (fun i hi=>abu.1 hi) List.nodup_nil (fun x=>by
  constructor
  ·intro h; cases h
  ·rintro ⟨j,hj,MX,-⟩;exact absurd (abu.2 hj) MX)
 have q:gK (zb N t) N (piece,ax t,[],bE t,((bE t).length:Int),iq (aas (bE t).length))=some (J8 t piece (ax t) (bE t) fr op mx):=q;have f0:allFit (fits gy) ([]:List AV)=true:=rfl;have m0:map fO ([]:List AV)=[]:=rfl;rw [show WY N (t,piece)=WY N ((t.1,t.2),piece) from rfl,ab2];simp only [bT,bU,cg,cj,aak,aaq,cond_true,aag,q1,q2,ji,jj,c0_,f0,m0,a0_,cR,cL,cM,cS,yW,mw,my];exact q
end
end Go.Proofs.YtegoimldbgdeiaaGreat
namespace Go.Proofs.YtegoimldbgdeiaaGreat
open Go Go.Am
open List (map)
open Int (toNat)
open Go.IntKind (wrap)
open Go.Am.aM (fits)
set_option maxRecDepth 100000
theorem aJ.swap {E:Env} {g:FuncId} {ps:aR} {p:aM} {T T':ps.T→Option p.T} (h:aJ E g ⟨ps,p,T⟩) (hT:∀ x y,T' x=some y→T x=some y):aJ E g ⟨ps,p,T'⟩:=fun x y hh=>h x y (hT x y hh)
def okT (t:bk):Bool:=abw t.1.length 1000&&(t.1.all fun x=>abw x.2.length 1000)&&abw t.2.length 1000&&t.2.all (WJ t)
theorem M5 {t:bk} (h:okT t=true):t.1.length≤1000∧(∀ x∈t.1,x.2.length≤1000)∧t.2.length≤1000∧∀ s∈t.2,WJ t s=true:=by
 unfold okT at h;simp only [abr,List.all_eq_true] at h;exact ⟨aar h.1.1.1,fun x hx=>aar (h.1.1.2 x hx),aar h.1.2,h.2⟩
def Qd (pc:List Int) (p:Int):Bool:=decide (0≤p)&&decide (p < (pc.length:Int))
theorem Ck {pc:List Int} {p:Int} (h:Qd pc p=true):J6 pc p:=by
 unfold Qd at h;simp only [abr,decide_eq_true_eq] at h;exact h
def HX (t:bk):Option (List Int):=bif okT t then some (ax t) else none
def HY (t:bk):Option (List ((Int × Int) × Int)):=bif okT t then some (bE t) else none
noncomputable def D4 (N:Nat) (x:bk × Int):Option (Int × Int × Int × Int × Int × Int):=
 bif okT x.1 then (Q5 N x.1).bind fun fr=>(UU N x.1).bind fun op=>(T60 N (ax x.1)).bind fun mx=>
  bif abw fr.length 1000000&&(abw op.length 1000000&&(abw (bE x.1).length 1000000&&((bE x.1).all (fun e=>Qd (ax x.1) e.1.1)&&(x.1.2.all (fun s=>Qd (ax x.1) s.1)&&(fr.all (fun e=>Qd (ax x.1) e.1)&&op.all (fun l=>!l.isEmpty&&Qd (ax x.1) (l.getD 0 (0,0)).1)))))) then some (J8 x.1 x.2 (ax x.1) (bE x.1) fr op mx) else none
 else none
section
variable {N:Nat} (hN:eQ N)
include hN
theorem Qe (t:bk) (y:List Int) (h:HX t=some y):YY N t=some y:=by
 unfold HX at h;obtain ⟨h1,h2⟩:=bo h;cases h2;obtain ⟨a,b,c,d⟩:=M5 h1;exact xw hN t (by omega) (by omega)
theorem Qf (t:bk) (y:List ((Int × Int) × Int)) (h:HY t=some y):Ww N t=some y:=by
 unfold HY at h;obtain ⟨h1,h2⟩:=bo h;cases h2;obtain ⟨a,b,c,d⟩:=M5 h1;exact xx hN t a b (by omega) d
theorem count_eq (x:bk × Int) (y:Int × Int × Int × Int × Int × Int) (h:D4 N x=some y):WY N x=some y:=by
 unfold D4 at h;obtain ⟨h1,h2⟩:=bo h;obtain ⟨a,b,c,d⟩:=M5 h1;obtain ⟨fr,q1,h2⟩:=bind_some h2;obtain ⟨op,q2,h2⟩:=bind_some h2;obtain ⟨mx,q3,h2⟩:=bind_some h2;obtain ⟨h3,h4⟩:=bo h2;cases h4;simp only [abr,List.all_eq_true] at h3;obtain ⟨c1,c2,c3,c4,c5,c6,c7⟩:=h3;exact Gv hN x.1 x.2 fr op mx q1 q2 q3 a b (by omega) d (aar c1) (aar c2) (fun e he=>Ck (c4 e he)) (fun s hs=>Ck (c5 s hs)) (fun e he=>Ck (c6 e he)) (fun l hl=>by
  have:=(c7 l hl).1;intro e;subst e;cases this) (fun l hl=>Ck (c7 l hl).2) (by have:=aar c3; omega)
end
noncomputable def OI:bH:=⟨(.cons n8 .nil),bQ,HX⟩
theorem M6 {N:Nat} (hN:eQ N):aJ cm 61 OI:=aJ.swap (MS N) (fun x y h=>Qe hN x y h)
noncomputable def MO (N:Nat):bH:=⟨(.cons n8 (.cons (.int .i64) .nil)),Of,D4 N⟩
theorem Qg {N:Nat} (hN:eQ N):aJ cm 62 (MO N):=fun x y h=>Te N x y (count_eq hN x y h)
noncomputable def WZ (N:Nat) (hN:eQ N):Av cm 70:=⟨(.cons n8 .nil),o70,HY,fun x y h=>SW N x y (Qf hN x y h)⟩
end Go.Proofs.YtegoimldbgdeiaaGreat
