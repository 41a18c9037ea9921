/- Plain laws: how many points,edges and openings. -/
import Derived.Test.YtegoimldbgdeiaaGreatSeamKA
import Derived.Test.YtegoimldbgdeiaaGreatTrzC
set_option linter.all false
open Bool renaming and_self→aaq, and_true→aas, false_eq_true→aaK, and_eq_true→aaN
open Int renaming toNat_natCast→aal
open List renaming length_map→aap, range→aax, getElem_mem→aaI, length_range→aaL, drop_zero→aaM, mem_range→aaQ, mem_of_mem_erase→aaR
open Nat renaming le_of_ble_eq_true→aav, zero_le→aaO, ble→aaS
open Option renaming bind_some→aao
namespace Go.Proofs.YtegoimldbgdeiaaGreat
open Go Go.Am
open List (map)
open Int (toNat)
open Go.IntKind (wrap)
open Go.Am.aP (fits)
set_option maxRecDepth 100000
theorem Gf:iS .int (fun k:Int=>AV.int .i64 k) AV.bool qF:=⟨fun a b=>JM .i64 a b,fun _=>rfl,fun _=>rfl⟩
theorem Tm (a:Int) (m:List (Int × Bool)):du .int (AV.int .i64 a) (aG (map qF m))=true:=Gf.keys a m
theorem Tn (a:Int) (v:Bool) (m:List (Int × Bool)):dS .int (AV.int .i64 a) (AV.bool v) (aG (map qF m))=aG (map qF (iy a v m)):=Gf.put a v m
theorem jI (m:List (Int × Bool)):af (aG (map qF m))=map qF m:=Gf.cells m
theorem jJ (m:List (Int × Bool)):jP (aG (map qF m))=true:=Gf.jP m
theorem ZX (m:List (Int × Bool)):(aG (map qF m)).length=m.length:=by rw [Gf.XU,aap]
def vx (l:List Int):List (Int × Bool):=l.map fun x=>(x,true)
theorem N8 (l:List Int) (x:Int):iy x true (vx l)=vx (if x∈l then l else l++[x]):=by
 by_cases h:x∈l
 ·rw [if_pos h]
  induction l with
  |nil=>cases h
  |cons y l ih=>
   show iy x true ((y,true) :: vx l)=(y,true) :: vx l;unfold iy;by_cases hy:x=y
   ·rw [if_pos hy,hy]
   ·rw [if_neg hy,ih (by rcases List.mem_cons.1 h with h | h; exact absurd h hy; exact h)]
 ·rw [if_neg h];have:getM x (vx l)=none:=by unfold vx; rw [Ll,if_neg h]
  rw [F8 this];unfold vx;rw [List.map_append];rfl
def gu (pc:List Int) (piece p:Int):Bool:=if piece < 0 then true else pc.getD p.toNat 0 == piece
def Ep (i:Nat):Int:=(i:Int)
def qt {α:Type} (pc:List Int) (piece:Int) (key:α→Int) (l:List α) (s:Int):Int:=l.foldl (fun s x=>if gu pc piece (key x)=true then s+1 else s) s
def IG (pc:List Int) (p:Int):Prop:=0≤p∧p < (pc.length:Int)
theorem vy {pc:List Int} {p:Int} (h:IG pc p):∃ k:Nat,p=(k:Int)∧∃ hk:k < pc.length,∀ piece,¬ piece < 0→gu pc piece p=(pc[k] == piece):=by
 obtain ⟨h1,h2⟩:=h;refine ⟨p.toNat,by omega,by omega,fun piece hp=>?_⟩;unfold gu;rw [if_neg hp,List.getD_eq_getElem?_getD,List.getElem?_eq_getElem (show p.toNat < pc.length by omega)];rfl
theorem N9 {N:Nat} (hN:fM N) (t:fx) (p n z o u s0:Int) (piece:Int) (pc:List Int) (S:List (Int × Bool)) (pm:List ((Int × Int) × Int)) (c:Nat) (L:List Nat) (hl:t.2.length≤1000000) (hs:0≤s0∧s0≤1000000) (hr:∀ x∈t.2,IG pc (x.1)) :
  aB (nC N t) N (0,p,s0,n,z,o,u,piece,pc,S,pm,(c:Int),je L)=some (p,(qt pc piece (fun x=>x.1) t.2 s0),n,z,o,u,piece,pc,S,pm,(c:Int),je L):=by
 have key:=eI (rd:=nC N t) t.2 (fun (s:Int) k=>((k:Int),p,s,n,z,o,u,piece,pc,S,pm,(c:Int),je L)) (fun s x=>if gu pc piece (x.1)=true then s+1 else s) (fun s=>(p,s,n,z,o,u,piece,pc,S,pm,(c:Int),je L)) (fun s k=>0≤s∧s≤s0+(k:Int)) (fun s k hk hP=>by
  obtain ⟨a1,a2⟩:=Bm t.2 hk;obtain ⟨j,ej,hj,hm⟩:=vy (hr _ (aaI hk));obtain ⟨b1,b2⟩:=Q1 pc hj;have ws:wrap .i64 (s+1)=s+1:=Pd ⟨by omega,by omega⟩;refine ⟨?_,by split <;> omega⟩;by_cases hp:piece < 0
  ·have em:gu pc piece (t.2[k].1)=true:=by unfold gu; rw [if_pos hp]
   rw [em];simp only [nC,kL,aap,aE hk,ap hk,a1,a2,hp,em,if_true,ws,bg (show k < 9223372036854775807 by omega),lV,lW,jI,jJ,cT,cU,cV,cW,gi,gj,lX,lY,jf,aal,aaq,aas,cond_true,cond_false,aao,eq_self,decide_true]
  ·have em:=hm piece hp;have dp:decide (piece < 0)=false:=decide_eq_false hp;rw [em]
   skip
   cases hb:(pc[j] == piece)
   ·simp only [nC,kL,aap,aE hk,ap hk,a1,a2,dp,ej,ap hj,b1,b2,hb,aaK,if_false,bg (show k < 9223372036854775807 by omega),lV,lW,jI,jJ,cT,cU,cV,cW,gi,gj,lX,lY,jf,aal,aaq,aas,cond_true,cond_false,aao,eq_self,decide_true]
   ·simp only [nC,kL,aap,aE hk,ap hk,a1,a2,dp,ej,ap hj,b1,b2,hb,if_true,ws,bg (show k < 9223372036854775807 by omega),lV,lW,jI,jJ,cT,cU,cV,cW,gi,gj,lX,lY,jf,aal,aaq,aas,cond_true,cond_false,aao,eq_self,decide_true]) (fun s _=>by
  simp only [nC,kL,aap,bc,lV,lW,jI,jJ,cT,cU,cV,cW,gi,gj,lX,lY,jf,aal,aaq,aas,cond_true,cond_false,aao,eq_self,decide_true]) N s0 0 (aaO _) (by unfold fM at hN; omega) ⟨hs.1,by simp⟩
 rw [aaM] at key;exact key
theorem Oa {N:Nat} (hN:fM N) (fr:List (Int × Int)) (p n z o u s0:Int) (piece:Int) (pc:List Int) (S:List (Int × Bool)) (pm:List ((Int × Int) × Int)) (c:Nat) (L:List Nat) (hl:fr.length≤1000000) (hs:0≤s0∧s0≤1000000) (hr:∀ x∈fr,IG pc (x.1)) :
  aB (nD N fr) N (0,p,s0,n,z,o,u,piece,pc,S,pm,(c:Int),je L)=some (p,(qt pc piece (fun x=>x.1) fr s0),n,z,o,u,piece,pc,S,pm,(c:Int),je L):=by
 have key:=eI (rd:=nD N fr) fr (fun (s:Int) k=>((k:Int),p,s,n,z,o,u,piece,pc,S,pm,(c:Int),je L)) (fun s x=>if gu pc piece (x.1)=true then s+1 else s) (fun s=>(p,s,n,z,o,u,piece,pc,S,pm,(c:Int),je L)) (fun s k=>0≤s∧s≤s0+(k:Int)) (fun s k hk hP=>by
  obtain ⟨a1,a2⟩:=NW fr hk;obtain ⟨j,ej,hj,hm⟩:=vy (hr _ (aaI hk));obtain ⟨b1,b2⟩:=Q1 pc hj;have ws:wrap .i64 (s+1)=s+1:=Pd ⟨by omega,by omega⟩;refine ⟨?_,by split <;> omega⟩;by_cases hp:piece < 0
  ·have em:gu pc piece (fr[k].1)=true:=by unfold gu; rw [if_pos hp]
   rw [em];simp only [nD,kM,aap,aE hk,ap hk,a1,a2,hp,em,if_true,ws,bg (show k < 9223372036854775807 by omega),lV,lW,jI,jJ,cT,cU,cV,cW,gi,gj,lX,lY,jf,aal,aaq,aas,cond_true,cond_false,aao,eq_self,decide_true]
  ·have em:=hm piece hp;have dp:decide (piece < 0)=false:=decide_eq_false hp;rw [em]
   skip
   cases hb:(pc[j] == piece)
   ·simp only [nD,kM,aap,aE hk,ap hk,a1,a2,dp,ej,ap hj,b1,b2,hb,aaK,if_false,bg (show k < 9223372036854775807 by omega),lV,lW,jI,jJ,cT,cU,cV,cW,gi,gj,lX,lY,jf,aal,aaq,aas,cond_true,cond_false,aao,eq_self,decide_true]
   ·simp only [nD,kM,aap,aE hk,ap hk,a1,a2,dp,ej,ap hj,b1,b2,hb,if_true,ws,bg (show k < 9223372036854775807 by omega),lV,lW,jI,jJ,cT,cU,cV,cW,gi,gj,lX,lY,jf,aal,aaq,aas,cond_true,cond_false,aao,eq_self,decide_true]) (fun s _=>by
  simp only [nD,kM,aap,bc,lV,lW,jI,jJ,cT,cU,cV,cW,gi,gj,lX,lY,jf,aal,aaq,aas,cond_true,cond_false,aao,eq_self,decide_true]) N s0 0 (aaO _) (by unfold fM at hN; omega) ⟨hs.1,by simp⟩
 rw [aaM] at key;exact key
theorem adJ (l:List (List (Int × Int))) {k:Nat} (hk:k < l.length):d37 (ae (map n37 l) k)=l[k]∧fits V5 (ae (map n37 l) k)=true:=by
 rw [fW n37 l k hk,adr,adq]; exact ⟨rfl,rfl⟩
theorem Lo {N:Nat} (hN:fM N) (op:List (List (Int × Int))) (cq:∀ x∈op,x≠[]) (p e n z u s0:Int) (piece:Int) (pc:List Int) (S:List (Int × Bool)) (pm:List ((Int × Int) × Int)) (c:Nat) (L:List Nat) (hl:op.length≤1000000) (hs:0≤s0∧s0≤1000000) (hr:∀ x∈op,IG pc ((x.getD 0 (0,0)).1)) :
  aB (kN N op) N (0,p,e,n,z,s0,u,piece,pc,S,pm,(c:Int),je L)=some (p,e,n,z,(qt pc piece (fun x=>(x.getD 0 (0,0)).1) op s0),u,piece,pc,S,pm,(c:Int),je L):=by
 have key:=eI (rd:=kN N op) op (fun (s:Int) k=>((k:Int),p,e,n,z,s,u,piece,pc,S,pm,(c:Int),je L)) (fun s x=>if gu pc piece ((x.getD 0 (0,0)).1)=true then s+1 else s) (fun s=>(p,e,n,z,s,u,piece,pc,S,pm,(c:Int),je L)) (fun s k=>0≤s∧s≤s0+(k:Int)) (fun s k hk hP=>by
  obtain ⟨a1,a2⟩:=adJ op hk;obtain ⟨x0,xt,hx⟩:∃ x0 xt,op[k]=x0 :: xt:=by
   have:=cq _ (aaI hk);cases h:op[k] with
   |nil=>exact absurd h this
   |cons a b=>exact ⟨a,b,rfl⟩
  have ek:op[k].getD 0 (0,0)=x0:=by rw [hx]; rfl
  have e1:decide ((0:Int)≤0∧0 < (((x0 :: xt).length:Nat):Int))=true:=decide_eq_true ⟨by omega,by rw [List.length_cons]; omega⟩;have e2:d100 (ae (map n100 (x0 :: xt)) 0)=x0:=F7 x0;have e3:fits mo (ae (map n100 (x0 :: xt)) 0)=true:=F6 x0;have tz:toNat 0=0:=rfl;obtain ⟨j,ej,hj,hm⟩:=vy (hr _ (aaI hk));obtain ⟨b1,b2⟩:=Q1 pc hj;have ej2:x0.1=(j:Int):=by rw [← ej,ek]
  have ws:wrap .i64 (s+1)=s+1:=Pd ⟨by omega,by omega⟩;refine ⟨?_,by split <;> omega⟩;by_cases hp:piece < 0
  ·have em:gu pc piece ((op[k].getD 0 (0,0)).1)=true:=by unfold gu; rw [if_pos hp]
   rw [em];simp only [kN,jt,aap,aE hk,ap hk,a1,a2,hx,e1,e2,e3,tz,hp,em,if_true,ws,bg (show k < 9223372036854775807 by omega),lV,lW,jI,jJ,cT,cU,cV,cW,gi,gj,lX,lY,jf,aal,aaq,aas,cond_true,cond_false,aao,eq_self,decide_true]
  ·have em:=hm piece hp;have dp:decide (piece < 0)=false:=decide_eq_false hp;rw [em]
   skip
   cases hb:(pc[j] == piece)
   ·simp only [kN,jt,aap,aE hk,ap hk,a1,a2,hx,e1,e2,e3,tz,dp,ej2,ap hj,b1,b2,hb,aaK,if_false,bg (show k < 9223372036854775807 by omega),lV,lW,jI,jJ,cT,cU,cV,cW,gi,gj,lX,lY,jf,aal,aaq,aas,cond_true,cond_false,aao,eq_self,decide_true]
   ·simp only [kN,jt,aap,aE hk,ap hk,a1,a2,hx,e1,e2,e3,tz,dp,ej2,ap hj,b1,b2,hb,if_true,ws,bg (show k < 9223372036854775807 by omega),lV,lW,jI,jJ,cT,cU,cV,cW,gi,gj,lX,lY,jf,aal,aaq,aas,cond_true,cond_false,aao,eq_self,decide_true]) (fun s _=>by
  simp only [kN,jt,aap,bc,lV,lW,jI,jJ,cT,cU,cV,cW,gi,gj,lX,lY,jf,aal,aaq,aas,cond_true,cond_false,aao,eq_self,decide_true]) N s0 0 (aaO _) (by unfold fM at hN; omega) ⟨hs.1,by simp⟩
 rw [aaM] at key;exact key
theorem Ob {N:Nat} (hN:fM N) (t:fx) (p e z o u s0:Int) (piece:Int) (pc:List Int) (S:List (Int × Bool)) (pm:List ((Int × Int) × Int)) (c:Nat) (L:List Nat) (hl:(aax t.1.length).length≤1000000) (hs:0≤s0∧s0≤1000000) (hr:∀ x∈(aax t.1.length),IG pc (Ep x)) :
  aB (nB N t) N (0,p,e,s0,z,o,u,piece,pc,S,pm,(c:Int),je L)=some (p,e,(qt pc piece (fun x=>Ep x) (aax t.1.length) s0),z,o,u,piece,pc,S,pm,(c:Int),je L):=by
 have key:=eI (rd:=nB N t) (aax t.1.length) (fun (s:Int) k=>((k:Int),p,e,s,z,o,u,piece,pc,S,pm,(c:Int),je L)) (fun s x=>if gu pc piece (Ep x)=true then s+1 else s) (fun s=>(p,e,s,z,o,u,piece,pc,S,pm,(c:Int),je L)) (fun s k=>0≤s∧s≤s0+(k:Int)) (fun s k hk hP=>by
  have GM:k < t.1.length:=by rw [aaL] at hk; exact hk
  obtain ⟨j,ej,hj,hm⟩:=vy (hr _ (aaI hk));obtain ⟨b1,b2⟩:=Q1 pc hj;have ek:(aax t.1.length)[k]=k:=by simp
  have ej2:(k:Int)=(j:Int):=by rw [← ej,ek]; rfl
  have ejk:k=j:=by omega
  subst ejk;have ws:wrap .i64 (s+1)=s+1:=Pd ⟨by omega,by omega⟩;refine ⟨?_,by split <;> omega⟩;by_cases hp:piece < 0
  ·have em:gu pc piece (Ep ((aax t.1.length)[k]))=true:=by unfold gu; rw [if_pos hp]
   rw [em];simp only [nB,kK,aap,aE GM,ap GM,hp,em,if_true,ws,bg (show k < 9223372036854775807 by omega),lV,lW,jI,jJ,cT,cU,cV,cW,gi,gj,lX,lY,jf,aal,aaq,aas,cond_true,cond_false,aao,eq_self,decide_true]
  ·have em:=hm piece hp;have dp:decide (piece < 0)=false:=decide_eq_false hp;rw [em]
   skip
   cases hb:(pc[k] == piece)
   ·simp only [nB,kK,aap,aE GM,ap GM,dp,ap hj,b1,b2,hb,aaK,if_false,bg (show k < 9223372036854775807 by omega),lV,lW,jI,jJ,cT,cU,cV,cW,gi,gj,lX,lY,jf,aal,aaq,aas,cond_true,cond_false,aao,eq_self,decide_true]
   ·simp only [nB,kK,aap,aE GM,ap GM,dp,ap hj,b1,b2,hb,if_true,ws,bg (show k < 9223372036854775807 by omega),lV,lW,jI,jJ,cT,cU,cV,cW,gi,gj,lX,lY,jf,aal,aaq,aas,cond_true,cond_false,aao,eq_self,decide_true]) (fun s _=>by
  simp only [nB,kK,aap,aaL,bc,lV,lW,jI,jJ,cT,cU,cV,cW,gi,gj,lX,lY,jf,aal,aaq,aas,cond_true,cond_false,aao,eq_self,decide_true]) N s0 0 (aaO _) (by unfold fM at hN; omega) ⟨hs.1,by simp⟩
 rw [aaM] at key;exact key
end Go.Proofs.YtegoimldbgdeiaaGreat
namespace Go.Proofs.YtegoimldbgdeiaaGreat
open Go Go.Am
open List (map)
open Int (toNat)
open Go.IntKind (wrap)
open Go.Am.aP (fits)
set_option maxRecDepth 100000
def wZ (pc:List Int) (piece:Int) (s:List Int) (e:(Int × Int) × Int):List Int:=if gu pc piece e.1.1=true then (if e.2∈s then s else s++[e.2]) else s
def Gg (pc:List Int) (piece:Int) (pm:List ((Int × Int) × Int)):List Int:=pm.foldl (wZ pc piece) []
theorem Bs {pc:List Int} {piece:Int} {s:List Int} {e:(Int × Int) × Int} (h:s.Nodup):(wZ pc piece s e).Nodup:=by
 unfold wZ;split
 ·split
  ·exact h
  ·rename_i hn;exact List.nodup_append.2 ⟨h,by simp,fun a ha b hb hab=>hn (by rw [List.mem_singleton] at hb; subst hb; subst hab; exact ha)⟩
 ·exact h
theorem Gh {pc:List Int} {piece:Int} {s:List Int} {e:(Int × Int) × Int} {x:Int}:x∈wZ pc piece s e↔x∈s∨(gu pc piece e.1.1=true∧e.2=x):=by
 unfold wZ;by_cases h1:gu pc piece e.1.1=true
 ·rw [if_pos h1];by_cases h2:e.2∈s
  ·rw [if_pos h2];exact ⟨.inl,fun h=>h.elim id fun h=>h.2 ▸ h2⟩
  ·rw [if_neg h2,List.mem_append,List.mem_singleton];exact ⟨fun h=>h.elim .inl fun h=>.inr ⟨h1,h.symm⟩,fun h=>h.elim .inl fun h=>.inr h.2.symm⟩
 ·rw [if_neg h1];exact ⟨.inl,fun h=>h.elim id fun h=>absurd h.1 h1⟩
theorem IH (pc:List Int) (piece:Int) (pm:List ((Int × Int) × Int)):(Gg pc piece pm).Nodup∧∀ x,x∈Gg pc piece pm↔∃ e∈pm,gu pc piece e.1.1=true∧e.2=x:=by
 have gen:∀ (pm:List ((Int × Int) × Int)) (s:List Int),s.Nodup→(pm.foldl (wZ pc piece) s).Nodup∧∀ x,x∈pm.foldl (wZ pc piece) s↔x∈s∨∃ e∈pm,gu pc piece e.1.1=true∧e.2=x:=by
  intro pm
  induction pm with
  |nil=>intro s h; exact ⟨h,fun x=>⟨.inl,fun h=>h.elim id fun ⟨e,he,_⟩=>by cases he⟩⟩
  |cons e pm ih=>
   intro s h;obtain ⟨h1,h2⟩:=ih (wZ pc piece s e) (Bs h);refine ⟨h1,fun x=>?_⟩;rw [List.foldl_cons,h2,Gh];constructor
   ·rintro ((h|h)|⟨e',GI,h⟩)
    ·exact .inl h
    ·exact .inr ⟨e,List.mem_cons_self,h⟩
    ·exact .inr ⟨e',List.mem_cons_of_mem _ GI,h⟩
   ·rintro (h|⟨e',GI,h⟩)
    ·exact .inl (.inl h)
    ·rcases List.mem_cons.1 GI with rfl|GI
     ·exact .inl (.inr h)
     ·exact .inr ⟨e',GI,h⟩
 obtain ⟨h1,h2⟩:=gen pm [] List.nodup_nil;exact ⟨h1,fun x=>by rw [show Gg pc piece pm=pm.foldl (wZ pc piece) [] from rfl,h2]; simp⟩
def Rv (t:fx) (piece:Int) (pc:List Int) (pm:List ((Int × Int) × Int)) (fr:List (Int × Int)) (op:List (List (Int × Int))) (mx:Int):Int × Int × Int × Int × Int × Int:=
 let pts:Int:=((Gg pc piece pm).length:Int)
 let pan:=qt pc piece Ep (aax t.1.length) 0
 let edg:=qt pc piece (fun x:Int × Int=>x.1) fr (qt pc piece (fun x:qq=>x.1) t.2 0)
 (pts,edg,pan,wrap .i64 (mx+1),qt pc piece (fun x:List (Int × Int)=>(x.getD 0 (0,0)).1) op 0,wrap .i64 (wrap .i64 (pts - edg)+pan))
theorem JW {α:Type} (pc:List Int) (piece:Int) (key:α→Int):∀ (l:List α) (s:Int),s≤qt pc piece key l s∧qt pc piece key l s≤s+(l.length:Int)
 |[],s=>⟨Int.le_refl _,by simp [qt]⟩
 |x :: l,s=>by
  have h:=JW pc piece key l (if gu pc piece (key x)=true then s+1 else s);have e:qt pc piece key (x :: l) s=qt pc piece key l (if gu pc piece (key x)=true then s+1 else s):=rfl;rw [e,List.length_cons];split at h <;> (rename_i hm; simp only [hm,if_true,if_false,aaK]; omega)
section
variable {N:Nat} (hN:fM N)
include hN
theorem JX (t:fx) (piece:Int) (pc:List Int) (pm:List ((Int × Int) × Int)) (fr:List (Int × Int)) (op:List (List (Int × Int))) (mx:Int)
  (hf:XX N t=some fr) (ho:XY N t=some op) (hx:ZV N pc=some mx) (h1:t.1.length≤1000) (h2:t.2.length≤100000) (h3:fr.length≤1000000) (h4:op.length≤1000000)
  (r0:∀ e∈pm,IG pc e.1.1) (r1:pc.length=t.1.length) (r2:∀ s∈t.2,IG pc s.1) (r3:∀ e∈fr,IG pc e.1) (r4:∀ l∈op,l≠[]) (r5:∀ l∈op,IG pc (l.getD 0 (0,0)).1) (hpm:pm.length≤1000000000) :
  ∀ (n:Nat) (L:List Nat) (s:List Int),L.length < n→L.Nodup→(∀ i∈L,i < pm.length)→s.Nodup→(∀ x,x∈s↔∃ j,∃ hj:j < pm.length,j∉L∧gu pc piece pm[j].1.1=true∧pm[j].2=x) →
   fq (vw N t) n (piece,pc,vx s,pm,(pm.length:Int),je L)=some (Rv t piece pc pm fr op mx)
 |0,L,s,h,_,_,_,_=>by omega
 |n+1,L,s,h,hL,hi,hs,gk=>by
  rw [nu];have ec:decide (pm.length=pm.length)=true:=decide_eq_true rfl;cases C8:L with
  |nil=>
   have i0:List.isEmpty ([]:List Nat)=true:=rfl;subst C8;have sl:s.length=(Gg pc piece pm).length:=by
    obtain ⟨d1,d2⟩:=IH pc piece pm;refine List.Perm.length_eq ((List.perm_ext_iff_of_nodup hs d1).2 fun x=>?_);rw [gk,d2];constructor
    ·rintro ⟨j,hj,-,h⟩;exact ⟨pm[j],aaI hj,h⟩
    ·rintro ⟨e,he,h⟩;obtain ⟨j,hj,rfl⟩:=List.getElem_of_mem he;exact ⟨j,hj,by simp,h⟩
   have c0:=JW pc piece (fun x:qq=>x.1) t.2 0;have q1:=Ob hN t (s.length:Int) 0 0 0 0 0 piece pc (vx s) pm pm.length [] (by rw [aaL]; omega) (by omega) (fun x hx=>by
    have:=aaQ.1 hx;unfold IG Ep;omega)
   have q2:=N9 hN t (s.length:Int) (qt pc piece Ep (aax t.1.length) 0) 0 0 0 0 piece pc (vx s) pm pm.length [] (by omega) (by omega) r2;have q3:=Oa hN fr (s.length:Int) (qt pc piece Ep (aax t.1.length) 0) 0 0 0 (qt pc piece (fun x:qq=>x.1) t.2 0) piece pc (vx s) pm pm.length [] h3 (by omega) r3;have q4:=Lo hN op r4 (s.length:Int) (qt pc piece (fun x:Int × Int=>x.1) fr (qt pc piece (fun x:qq=>x.1) t.2 0)) (qt pc piece Ep (aax t.1.length) 0) 0 0 0 piece pc (vx s) pm pm.length [] h4 (by omega) r5;have Y1:(vx s).length=s.length:=by unfold vx; rw [aap]
   have ht:XX N (t.1,t.2)=some fr:=hf;have ht2:XY N (t.1,t.2)=some op:=ho;simp only [vw,vu,aal,ec,cond_true,jf,i0,ZX,Y1,lV,lW,jI,jJ,cT,cU,cV,cW,gi,gj,lX,lY,cI,cJ,bX,bY,aaq,aas,aao,q1,q2,ht,q3,ht2,q4,hx];rw [sl];rfl
  |cons a L'=>
   rw [← C8];have i0:List.isEmpty L=false:=by rw [C8]; rfl
   simp only [vw,vu,aal,ec,cond_true,cond_false,jf,i0];refine vi (by rw [C8]; simp) fun i hmi=>?_
   have bW:=hi i hmi;have kr:(L.erase i).length=L.length - 1:=List.length_erase_of_mem hmi;have mh:0 < L.length:=List.length_pos_of_mem hmi;have dl:decide (i < pm.length)=true:=decide_eq_true bW;have ih:=fun s' (oI:s'.Nodup) YL=>JX t piece pc pm fr op mx hf ho hx h1 h2 h3 h4 r0 r1 r2 r3 r4 r5 hpm n (L.erase i) s' (by omega) (hL.erase i) (fun j hj=>hi j (aaR hj)) oI YL
   have hme:∀ x,(x∈wZ pc piece s pm[i])↔∃ j,∃ hj:j < pm.length,j∉L.erase i∧gu pc piece pm[j].1.1=true∧pm[j].2=x:=fun x=>by
    rw [Gh,gk];constructor
    ·rintro (⟨j,hj,IB,h⟩|h)
     ·exact ⟨j,hj,fun hm=>IB (aaR hm),h⟩
     ·exact ⟨i,bW,fun hm=>((List.Nodup.mem_erase_iff hL).1 hm).1 rfl,h⟩
    ·rintro ⟨j,hj,IB,h⟩;by_cases hji:j=i
     ·subst hji; exact .inr h
     ·exact .inl ⟨j,hj,fun hm=>IB ((List.Nodup.mem_erase_iff hL).2 ⟨hji,hm⟩),h⟩
   have Pk:=ih (wZ pc piece s pm[i]) (Bs hs) hme;obtain ⟨j,ej,hj,hm⟩:=vy (r0 pm[i] (aaI bW));obtain ⟨b1,b2⟩:=Q1 pc hj;rw [NV pm bW];simp only [F6,F7,Ix,Iy,aaq,cond_true,dl,ec];have sp:=N8 s pm[i].2;by_cases hp:piece < 0
   ·have em:gu pc piece pm[i].1.1=true:=by unfold gu; rw [if_pos hp]
    unfold wZ at Pk;rw [if_pos em] at Pk;simp only [hp,decide_true,lV,lW,jI,jJ,cT,cU,cV,cW,gi,gj,lX,lY,jf,aal,aaq,aas,cond_true,aao,Tm,Tn,sp];exact Pk
   ·have em:=hm piece hp;have dp:decide (piece < 0)=false:=decide_eq_false hp;unfold wZ at Pk;rw [em] at Pk;cases hb:(pc[j] == piece)
    ·rw [hb] at Pk;rw [if_neg (by decide)] at Pk;simp only [aap,eq_self,decide_true,dp,ej,ap hj,b1,b2,hb,lV,lW,jI,jJ,cT,cU,cV,cW,gi,gj,lX,lY,jf,aal,aaq,aas,cond_true,cond_false,aao];exact Pk
    ·rw [hb,if_pos rfl] at Pk;simp only [aap,eq_self,decide_true,dp,ej,ap hj,b1,b2,hb,lV,lW,jI,jJ,cT,cU,cV,cW,gi,gj,lX,lY,jf,aal,aaq,aas,cond_true,cond_false,aao,Tm,Tn,sp];exact Pk
theorem Lp (t:fx) (piece:Int) (fr:List (Int × Int)) (op:List (List (Int × Int))) (mx:Int)
  (hf:XX N t=some fr) (ho:XY N t=some op) (hx:ZV N (eP t)=some mx) (h1:t.1.length≤1000) (hs:∀ x∈t.1,x.2.length≤1000) (h2:t.2.length≤100000) (hk:∀ s∈t.2,V2 t s=true) (h3:fr.length≤1000000) (h4:op.length≤1000000)
  (r0:∀ e∈gC t,IG (eP t) e.1.1) (r2:∀ s∈t.2,IG (eP t) s.1) (r3:∀ e∈fr,IG (eP t) e.1) (r4:∀ l∈op,l≠[]) (r5:∀ l∈op,IG (eP t) (l.getD 0 (0,0)).1) (hpm:(gC t).length≤1000000000) :
  XZ N (t,piece)=some (Rv t piece (eP t) (gC t) fr op mx):=by
 have q1:XO N (t.1,t.2)=some (eP t):=Bn hN t (by omega) (by omega);have q2:VO N (t.1,t.2)=some (gC t):=Bp hN t h1 hs h2 hk;have r1:(eP t).length=t.1.length:=by unfold eP; simp only [aap,ny]
 have q:=JX hN t piece (eP t) (gC t) fr op mx hf ho hx h1 h2 h3 h4 r0 r1 r2 r3 r4 r5 hpm N (aax (gC t).length) [] (by rw [aaL]; unfold fM at hN; omega) List.nodup_range (fun i hi=>aaQ.1 hi) List.nodup_nil (fun x=>by
  constructor
  ·intro h; cases h
  ·rintro ⟨j,hj,IB,-⟩;exact absurd (aaQ.2 hj) IB)
 have q:fq (vw N t) N (piece,eP t,[],gC t,((gC t).length:Int),je (aax (gC t).length))=some (Rv t piece (eP t) (gC t) fr op mx):=q;have f0:allFit (fits fg) ([]:List AV)=true:=rfl;have m0:map eK ([]:List AV)=[]:=rfl;rw [show XZ N (t,piece)=XZ N ((t.1,t.2),piece) from rfl,Wi];simp only [cI,cJ,bX,bY,aaq,aas,cond_true,aao,q1,q2,lV,lW,c0_,f0,m0,a0_,cT,cV,cW,cU,vu,lX,lY];exact q
end
end Go.Proofs.YtegoimldbgdeiaaGreat
namespace Go.Proofs.YtegoimldbgdeiaaGreat
open Go Go.Am
open List (map)
open Int (toNat)
open Go.IntKind (wrap)
open Go.Am.aP (fits)
set_option maxRecDepth 100000
theorem aI.swap {E:Env} {g:FuncId} {ps:aQ} {p:aP} {T T':ps.T→Option p.T} (h:aI E g ⟨ps,p,T⟩) (hT:∀ x y,T' x=some y→T x=some y):aI E g ⟨ps,p,T'⟩:=fun x y hh=>h x y (hT x y hh)
def ZY (t:fx):Bool:=aaS t.1.length 1000&&(t.1.all fun x=>aaS x.2.length 1000)&&aaS t.2.length 1000&&t.2.all (V2 t)
theorem II {t:fx} (h:ZY t=true):t.1.length≤1000∧(∀ x∈t.1,x.2.length≤1000)∧t.2.length≤1000∧∀ s∈t.2,V2 t s=true:=by
 unfold ZY at h;simp only [aaN,List.all_eq_true] at h;exact ⟨aav h.1.1.1,fun x hx=>aav (h.1.1.2 x hx),aav h.1.2,h.2⟩
def Lq (pc:List Int) (p:Int):Bool:=decide (0≤p)&&decide (p < (pc.length:Int))
theorem zb {pc:List Int} {p:Int} (h:Lq pc p=true):IG pc p:=by
 unfold Lq at h;simp only [aaN,decide_eq_true_eq] at h;exact h
def Er (t:fx):Option (List Int):=bif ZY t then some (eP t) else none
def Es (t:fx):Option (List ((Int × Int) × Int)):=bif ZY t then some (gC t) else none
noncomputable def Bc (N:Nat) (x:fx × Int):Option (Int × Int × Int × Int × Int × Int):=
 bif ZY x.1 then (XX N x.1).bind fun fr=>(XY N x.1).bind fun op=>(ZV N (eP x.1)).bind fun mx=>
  bif aaS fr.length 1000000&&(aaS op.length 1000000&&(aaS (gC x.1).length 1000000&&((gC x.1).all (fun e=>Lq (eP x.1) e.1.1)&&(x.1.2.all (fun s=>Lq (eP x.1) s.1)&&(fr.all (fun e=>Lq (eP x.1) e.1)&&op.all (fun l=>!l.isEmpty&&Lq (eP x.1) (l.getD 0 (0,0)).1)))))) then some (Rv x.1 x.2 (eP x.1) (gC x.1) fr op mx) else none
 else none
section
variable {N:Nat} (hN:fM N)
include hN
theorem Lr (t:fx) (y:List Int) (h:Er t=some y):XO N t=some y:=by
 unfold Er at h;obtain ⟨h1,h2⟩:=bj h;cases h2;obtain ⟨a,b,c,d⟩:=II h1;exact Bn hN t (by omega) (by omega)
theorem Ls (t:fx) (y:List ((Int × Int) × Int)) (h:Es t=some y):VO N t=some y:=by
 unfold Es at h;obtain ⟨h1,h2⟩:=bj h;cases h2;obtain ⟨a,b,c,d⟩:=II h1;exact Bp hN t a b (by omega) d
theorem count_eq (x:fx × Int) (y:Int × Int × Int × Int × Int × Int) (h:Bc N x=some y):XZ N x=some y:=by
 unfold Bc at h;obtain ⟨h1,h2⟩:=bj h;obtain ⟨a,b,c,d⟩:=II h1;obtain ⟨fr,q1,h2⟩:=bind_some h2;obtain ⟨op,q2,h2⟩:=bind_some h2;obtain ⟨mx,q3,h2⟩:=bind_some h2;obtain ⟨h3,h4⟩:=bj h2;cases h4;simp only [aaN,List.all_eq_true] at h3;obtain ⟨c1,c2,c3,c4,c5,c6,c7⟩:=h3;exact Lp hN x.1 x.2 fr op mx q1 q2 q3 a b (by omega) d (aav c1) (aav c2) (fun e he=>zb (c4 e he)) (fun s hs=>zb (c5 s hs)) (fun e he=>zb (c6 e he)) (fun l hl=>by
  have:=(c7 l hl).1;intro e;subst e;cases this) (fun l hl=>zb (c7 l hl).2) (by have:=aav c3; omega)
end
noncomputable def JY:bK:=⟨(.cons ko .nil),bF,Er⟩
theorem IJ {N:Nat} (hN:fM N):aI bU 61 JY:=aI.swap (NO N) (fun x y h=>Lr hN x y h)
noncomputable def Iw (N:Nat):bK:=⟨(.cons ko (.cons (.int .i64) .nil)),JD,Bc N⟩
theorem Lt {N:Nat} (hN:fM N):aI bU 62 (Iw N):=fun x y h=>Wh N x y (count_eq hN x y h)
noncomputable def Rw (N:Nat) (hN:fM N):A1 bU 70:=⟨(.cons ko .nil),ZG,Es,fun x y h=>NP N x y (Ls hN x y h)⟩
end Go.Proofs.YtegoimldbgdeiaaGreat
