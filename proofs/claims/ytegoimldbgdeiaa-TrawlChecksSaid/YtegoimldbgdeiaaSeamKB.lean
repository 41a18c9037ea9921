/- Plain laws: how many points,edges and openings. -/
import Derived.Test.YtegoimldbgdeiaaSeamKA
import Derived.Test.YtegoimldbgdeiaaTrwC
set_option linter.all false
namespace Go.Proofs.Ytegoimldbgdeiaa
open Go Go.Am
set_option maxRecDepth 100000
theorem Bd:gi .int (fun k:Int=>AV.int .i64 k) AV.bool aA:=⟨fun a b=>D9 .i64 a b,fun _=>rfl,fun _=>rfl⟩
theorem LI (a:Int) (m:List (Int × Bool)):cq .int (AV.int .i64 a) (ab (List.map aA m))=true:=Bd.keys a m
theorem LJ (a:Int) (v:Bool) (m:List (Int × Bool)):cr .int (AV.int .i64 a) (AV.bool v) (ab (List.map aA m))=ab (List.map aA (fR a v m)):=Bd.put a v m
theorem gM (m:List (Int × Bool)):af (ab (List.map aA m))=List.map aA m:=Bd.cells m
theorem gN (m:List (Int × Bool)):aM (ab (List.map aA m))=true:=Bd.aM m
theorem Sp (m:List (Int × Bool)):(ab (List.map aA m)).length=m.length:=by rw [Bd.Qg,List.length_map]
def qO (l:List Int):List (Int × Bool):=l.map fun x=>(x,true)
theorem HU (l:List Int) (x:Int):fR x true (qO l)=qO (if x∈l then l else l++[x]):=by
 by_cases h:x∈l
 ·rw [if_pos h]
  induction l with
  | nil=>cases h
  | cons y l ih=>
   show fR x true ((y,true) :: qO l)=(y,true) :: qO l
   unfold fR
   by_cases hy:x=y
   ·rw [if_pos hy,hy]
   ·rw [if_neg hy,ih (by rcases List.mem_cons.1 h with h | h; exact absurd h hy; exact h)]
 ·rw [if_neg h]
  have:getM x (qO l)=none:=by unfold qO; rw [Fy,if_neg h]
  rw [A7 this]
  unfold qO
  rw [List.map_append]
  rfl
def eP (pc:List Int) (piece p:Int):Bool:=if piece < 0 then true else pc.getD p.toNat 0 == piece
def zt (i:Nat):Int:=(i:Int)
def mI {α:Type} (pc:List Int) (piece:Int) (key:α→Int) (l:List α) (s:Int):Int:=l.foldl (fun s x=>if eP pc piece (key x)=true then s+1 else s) s
def Df (pc:List Int) (p:Int):Prop:=0≤p∧p < (pc.length:Int)
theorem qP {pc:List Int} {p:Int} (h:Df pc p):∃ k:Nat,p=(k:Int)∧∃ hk:k < pc.length,∀ piece,¬ piece < 0→eP pc piece p=(pc[k] == piece):=by
 obtain ⟨h1,h2⟩:=h
 refine ⟨p.toNat,by omega,by omega,fun piece hp=>?_⟩
 unfold eP
 rw [if_neg hp,List.getD_eq_getElem?_getD,List.getElem?_eq_getElem (show p.toNat < pc.length by omega)]
 rfl
theorem HV {N:Nat} (hN:fA N) (t:fS) (p n z o u s0:Int) (piece:Int) (pc:List Int) (S:List (Int × Bool)) (pm:List ((Int × Int) × Int)) (c:Nat) (L:List Nat) (hl:t.2.length≤1000000) (hs:0≤s0∧s0≤1000000) (hr:∀ x∈t.2,Df pc (x.1)) :
  aF (kv N t) N (0,p,s0,n,z,o,u,piece,pc,S,pm,(c:Int),gr L)=some (p,(mI pc piece (fun x=>x.1) t.2 s0),n,z,o,u,piece,pc,S,pm,(c:Int),gr L):=by
 have key:=dc (rd:=kv N t) t.2 (fun (s:Int) k=>((k:Int),p,s,n,z,o,u,piece,pc,S,pm,(c:Int),gr L)) (fun s x=>if eP pc piece (x.1)=true then s+1 else s) (fun s=>(p,s,n,z,o,u,piece,pc,S,pm,(c:Int),gr L)) (fun s k=>0≤s∧s≤s0+(k:Int)) (fun s k hk hP=>by
  obtain ⟨a1,a2⟩:=vQ t.2 hk
  obtain ⟨j,ej,hj,hm⟩:=qP (hr _ (List.getElem_mem hk))
  obtain ⟨b1,b2⟩:=Ka pc hj
  have ws:IntKind.wrap .i64 (s+1)=s+1:=RE ⟨by omega,by omega⟩
  refine ⟨?_,by split <;> omega⟩
  by_cases hp:piece < 0
  ·have em:eP pc piece (t.2[k].1)=true:=by unfold eP; rw [if_pos hp]
   rw [em]
   simp only [kv,List.length_map,aB hk,ar hk,a1,a2,hp,em,if_true,ws,a6 (show k < 9223372036854775807 by omega),jo,jq,gM,gN,dO,dP,du,dv,eL,eM,jr,js,gu,Int.toNat_natCast,Bool.and_self,Bool.and_true,cond_true,cond_false,Option.bind_some,eq_self,decide_true]
  ·have em:=hm piece hp
   have dp:decide (piece < 0)=false:=decide_eq_false hp
   rw [em]
   skip
   cases hb:(pc[j] == piece)
   ·simp only [kv,List.length_map,aB hk,ar hk,a1,a2,dp,ej,ar hj,b1,b2,hb,Bool.false_eq_true,if_false,a6 (show k < 9223372036854775807 by omega),jo,jq,gM,gN,dO,dP,du,dv,eL,eM,jr,js,gu,Int.toNat_natCast,Bool.and_self,Bool.and_true,cond_true,cond_false,Option.bind_some,eq_self,decide_true]
   ·simp only [kv,List.length_map,aB hk,ar hk,a1,a2,dp,ej,ar hj,b1,b2,hb,if_true,ws,a6 (show k < 9223372036854775807 by omega),jo,jq,gM,gN,dO,dP,du,dv,eL,eM,jr,js,gu,Int.toNat_natCast,Bool.and_self,Bool.and_true,cond_true,cond_false,Option.bind_some,eq_self,decide_true]) (fun s _=>by
  simp only [kv,List.length_map,aQ,jo,jq,gM,gN,dO,dP,du,dv,eL,eM,jr,js,gu,Int.toNat_natCast,Bool.and_self,Bool.and_true,cond_true,cond_false,Option.bind_some,eq_self,decide_true]) N s0 0 (Nat.zero_le _) (by unfold fA at hN; omega) ⟨hs.1,by simp⟩
 rw [List.drop_zero] at key
 exact key
theorem HW {N:Nat} (hN:fA N) (fr:List (Int × Int)) (p n z o u s0:Int) (piece:Int) (pc:List Int) (S:List (Int × Bool)) (pm:List ((Int × Int) × Int)) (c:Nat) (L:List Nat) (hl:fr.length≤1000000) (hs:0≤s0∧s0≤1000000) (hr:∀ x∈fr,Df pc (x.1)) :
  aF (kw N fr) N (0,p,s0,n,z,o,u,piece,pc,S,pm,(c:Int),gr L)=some (p,(mI pc piece (fun x=>x.1) fr s0),n,z,o,u,piece,pc,S,pm,(c:Int),gr L):=by
 have key:=dc (rd:=kw N fr) fr (fun (s:Int) k=>((k:Int),p,s,n,z,o,u,piece,pc,S,pm,(c:Int),gr L)) (fun s x=>if eP pc piece (x.1)=true then s+1 else s) (fun s=>(p,s,n,z,o,u,piece,pc,S,pm,(c:Int),gr L)) (fun s k=>0≤s∧s≤s0+(k:Int)) (fun s k hk hP=>by
  obtain ⟨a1,a2⟩:=Kb fr hk
  obtain ⟨j,ej,hj,hm⟩:=qP (hr _ (List.getElem_mem hk))
  obtain ⟨b1,b2⟩:=Ka pc hj
  have ws:IntKind.wrap .i64 (s+1)=s+1:=RE ⟨by omega,by omega⟩
  refine ⟨?_,by split <;> omega⟩
  by_cases hp:piece < 0
  ·have em:eP pc piece (fr[k].1)=true:=by unfold eP; rw [if_pos hp]
   rw [em]
   simp only [kw,List.length_map,aB hk,ar hk,a1,a2,hp,em,if_true,ws,a6 (show k < 9223372036854775807 by omega),jo,jq,gM,gN,dO,dP,du,dv,eL,eM,jr,js,gu,Int.toNat_natCast,Bool.and_self,Bool.and_true,cond_true,cond_false,Option.bind_some,eq_self,decide_true]
  ·have em:=hm piece hp
   have dp:decide (piece < 0)=false:=decide_eq_false hp
   rw [em]
   skip
   cases hb:(pc[j] == piece)
   ·simp only [kw,List.length_map,aB hk,ar hk,a1,a2,dp,ej,ar hj,b1,b2,hb,Bool.false_eq_true,if_false,a6 (show k < 9223372036854775807 by omega),jo,jq,gM,gN,dO,dP,du,dv,eL,eM,jr,js,gu,Int.toNat_natCast,Bool.and_self,Bool.and_true,cond_true,cond_false,Option.bind_some,eq_self,decide_true]
   ·simp only [kw,List.length_map,aB hk,ar hk,a1,a2,dp,ej,ar hj,b1,b2,hb,if_true,ws,a6 (show k < 9223372036854775807 by omega),jo,jq,gM,gN,dO,dP,du,dv,eL,eM,jr,js,gu,Int.toNat_natCast,Bool.and_self,Bool.and_true,cond_true,cond_false,Option.bind_some,eq_self,decide_true]) (fun s _=>by
  simp only [kw,List.length_map,aQ,jo,jq,gM,gN,dO,dP,du,dv,eL,eM,jr,js,gu,Int.toNat_natCast,Bool.and_self,Bool.and_true,cond_true,cond_false,Option.bind_some,eq_self,decide_true]) N s0 0 (Nat.zero_le _) (by unfold fA at hN; omega) ⟨hs.1,by simp⟩
 rw [List.drop_zero] at key
 exact key
theorem VJ (l:List (List (Int × Int))) {k:Nat} (hk:k < l.length):d50 (ai (List.map Eh l) k)=l[k]∧ah.fits Oj (ai (List.map Eh l) k)=true:=by
 rw [eF Eh l k hk,Vu,Vt]; exact ⟨rfl,rfl⟩
theorem FB {N:Nat} (hN:fA N) (op:List (List (Int × Int))) (cM:∀ x∈op,x≠[]) (p e n z u s0:Int) (piece:Int) (pc:List Int) (S:List (Int × Bool)) (pm:List ((Int × Int) × Int)) (c:Nat) (L:List Nat) (hl:op.length≤1000000) (hs:0≤s0∧s0≤1000000) (hr:∀ x∈op,Df pc ((x.getD 0 (0,0)).1)) :
  aF (iy N op) N (0,p,e,n,z,s0,u,piece,pc,S,pm,(c:Int),gr L)=some (p,e,n,z,(mI pc piece (fun x=>(x.getD 0 (0,0)).1) op s0),u,piece,pc,S,pm,(c:Int),gr L):=by
 have key:=dc (rd:=iy N op) op (fun (s:Int) k=>((k:Int),p,e,n,z,s,u,piece,pc,S,pm,(c:Int),gr L)) (fun s x=>if eP pc piece ((x.getD 0 (0,0)).1)=true then s+1 else s) (fun s=>(p,e,n,z,s,u,piece,pc,S,pm,(c:Int),gr L)) (fun s k=>0≤s∧s≤s0+(k:Int)) (fun s k hk hP=>by
  obtain ⟨a1,a2⟩:=VJ op hk
  obtain ⟨x0,xt,hx⟩:∃ x0 xt,op[k]=x0 :: xt:=by
   have:=cM _ (List.getElem_mem hk)
   cases h:op[k] with
   | nil=>exact absurd h this
   | cons a b=>exact ⟨a,b,rfl⟩
  have ek:op[k].getD 0 (0,0)=x0:=by rw [hx]; rfl
  have e1:decide ((0:Int)≤0∧0 < (((x0 :: xt).length:Nat):Int))=true:=decide_eq_true ⟨by omega,by rw [List.length_cons]; omega⟩
  have e2:d67 (ai (List.map aJ (x0 :: xt)) 0)=x0:=Hw x0
  have e3:ah.fits dB (ai (List.map aJ (x0 :: xt)) 0)=true:=Hv x0
  have tz:Int.toNat 0=0:=rfl
  obtain ⟨j,ej,hj,hm⟩:=qP (hr _ (List.getElem_mem hk))
  obtain ⟨b1,b2⟩:=Ka pc hj
  have VK:x0.1=(j:Int):=by rw [← ej,ek]
  have ws:IntKind.wrap .i64 (s+1)=s+1:=RE ⟨by omega,by omega⟩
  refine ⟨?_,by split <;> omega⟩
  by_cases hp:piece < 0
  ·have em:eP pc piece ((op[k].getD 0 (0,0)).1)=true:=by unfold eP; rw [if_pos hp]
   rw [em]
   simp only [iy,List.length_map,aB hk,ar hk,a1,a2,hx,e1,e2,e3,tz,hp,em,if_true,ws,a6 (show k < 9223372036854775807 by omega),jo,jq,gM,gN,dO,dP,du,dv,eL,eM,jr,js,gu,Int.toNat_natCast,Bool.and_self,Bool.and_true,cond_true,cond_false,Option.bind_some,eq_self,decide_true]
  ·have em:=hm piece hp
   have dp:decide (piece < 0)=false:=decide_eq_false hp
   rw [em]
   skip
   cases hb:(pc[j] == piece)
   ·simp only [iy,List.length_map,aB hk,ar hk,a1,a2,hx,e1,e2,e3,tz,dp,VK,ar hj,b1,b2,hb,Bool.false_eq_true,if_false,a6 (show k < 9223372036854775807 by omega),jo,jq,gM,gN,dO,dP,du,dv,eL,eM,jr,js,gu,Int.toNat_natCast,Bool.and_self,Bool.and_true,cond_true,cond_false,Option.bind_some,eq_self,decide_true]
   ·simp only [iy,List.length_map,aB hk,ar hk,a1,a2,hx,e1,e2,e3,tz,dp,VK,ar hj,b1,b2,hb,if_true,ws,a6 (show k < 9223372036854775807 by omega),jo,jq,gM,gN,dO,dP,du,dv,eL,eM,jr,js,gu,Int.toNat_natCast,Bool.and_self,Bool.and_true,cond_true,cond_false,Option.bind_some,eq_self,decide_true]) (fun s _=>by
  simp only [iy,List.length_map,aQ,jo,jq,gM,gN,dO,dP,du,dv,eL,eM,jr,js,gu,Int.toNat_natCast,Bool.and_self,Bool.and_true,cond_true,cond_false,Option.bind_some,eq_self,decide_true]) N s0 0 (Nat.zero_le _) (by unfold fA at hN; omega) ⟨hs.1,by simp⟩
 rw [List.drop_zero] at key
 exact key
theorem HX {N:Nat} (hN:fA N) (t:fS) (p e z o u s0:Int) (piece:Int) (pc:List Int) (S:List (Int × Bool)) (pm:List ((Int × Int) × Int)) (c:Nat) (L:List Nat) (hl:(List.range t.1.length).length≤1000000) (hs:0≤s0∧s0≤1000000) (hr:∀ x∈(List.range t.1.length),Df pc (zt x)) :
  aF (ku N t) N (0,p,e,s0,z,o,u,piece,pc,S,pm,(c:Int),gr L)=some (p,e,(mI pc piece (fun x=>zt x) (List.range t.1.length) s0),z,o,u,piece,pc,S,pm,(c:Int),gr L):=by
 have key:=dc (rd:=ku N t) (List.range t.1.length) (fun (s:Int) k=>((k:Int),p,e,s,z,o,u,piece,pc,S,pm,(c:Int),gr L)) (fun s x=>if eP pc piece (zt x)=true then s+1 else s) (fun s=>(p,e,s,z,o,u,piece,pc,S,pm,(c:Int),gr L)) (fun s k=>0≤s∧s≤s0+(k:Int)) (fun s k hk hP=>by
  have IU:k < t.1.length:=by rw [List.length_range] at hk; exact hk
  obtain ⟨j,ej,hj,hm⟩:=qP (hr _ (List.getElem_mem hk))
  obtain ⟨b1,b2⟩:=Ka pc hj
  have ek:(List.range t.1.length)[k]=k:=by simp
  have VK:(k:Int)=(j:Int):=by rw [← ej,ek]; rfl
  have ZZ:k=j:=by omega
  subst ZZ
  have ws:IntKind.wrap .i64 (s+1)=s+1:=RE ⟨by omega,by omega⟩
  refine ⟨?_,by split <;> omega⟩
  by_cases hp:piece < 0
  ·have em:eP pc piece (zt ((List.range t.1.length)[k]))=true:=by unfold eP; rw [if_pos hp]
   rw [em]
   simp only [ku,List.length_map,aB IU,ar IU,hp,em,if_true,ws,a6 (show k < 9223372036854775807 by omega),jo,jq,gM,gN,dO,dP,du,dv,eL,eM,jr,js,gu,Int.toNat_natCast,Bool.and_self,Bool.and_true,cond_true,cond_false,Option.bind_some,eq_self,decide_true]
  ·have em:=hm piece hp
   have dp:decide (piece < 0)=false:=decide_eq_false hp
   rw [em]
   skip
   cases hb:(pc[k] == piece)
   ·simp only [ku,List.length_map,aB IU,ar IU,dp,ar hj,b1,b2,hb,Bool.false_eq_true,if_false,a6 (show k < 9223372036854775807 by omega),jo,jq,gM,gN,dO,dP,du,dv,eL,eM,jr,js,gu,Int.toNat_natCast,Bool.and_self,Bool.and_true,cond_true,cond_false,Option.bind_some,eq_self,decide_true]
   ·simp only [ku,List.length_map,aB IU,ar IU,dp,ar hj,b1,b2,hb,if_true,ws,a6 (show k < 9223372036854775807 by omega),jo,jq,gM,gN,dO,dP,du,dv,eL,eM,jr,js,gu,Int.toNat_natCast,Bool.and_self,Bool.and_true,cond_true,cond_false,Option.bind_some,eq_self,decide_true]) (fun s _=>by
  simp only [ku,List.length_map,List.length_range,aQ,jo,jq,gM,gN,dO,dP,du,dv,eL,eM,jr,js,gu,Int.toNat_natCast,Bool.and_self,Bool.and_true,cond_true,cond_false,Option.bind_some,eq_self,decide_true]) N s0 0 (Nat.zero_le _) (by unfold fA at hN; omega) ⟨hs.1,by simp⟩
 rw [List.drop_zero] at key
 exact key
end Go.Proofs.Ytegoimldbgdeiaa
namespace Go.Proofs.Ytegoimldbgdeiaa
open Go Go.Am
set_option maxRecDepth 100000
def r7 (pc:List Int) (piece:Int) (s:List Int) (e:(Int × Int) × Int):List Int:=if eP pc piece e.1.1=true then (if e.2∈s then s else s++[e.2]) else s
def Be (pc:List Int) (piece:Int) (pm:List ((Int × Int) × Int)):List Int:=pm.foldl (r7 pc piece) []
theorem vX {pc:List Int} {piece:Int} {s:List Int} {e:(Int × Int) × Int} (h:s.Nodup):(r7 pc piece s e).Nodup:=by
 unfold r7
 split
 ·split
  ·exact h
  ·rename_i hn
   exact List.nodup_append.2 ⟨h,by simp,fun a ha b hb Z0=>hn (by rw [List.mem_singleton] at hb; subst hb; subst Z0; exact ha)⟩
 ·exact h
theorem Bf {pc:List Int} {piece:Int} {s:List Int} {e:(Int × Int) × Int} {x:Int}:x∈r7 pc piece s e↔x∈s∨(eP pc piece e.1.1=true∧e.2=x):=by
 unfold r7
 by_cases h1:eP pc piece e.1.1=true
 ·rw [if_pos h1]
  by_cases h2:e.2∈s
  ·rw [if_pos h2]
   exact ⟨.inl,fun h=>h.elim id fun h=>h.2 ▸ h2⟩
  ·rw [if_neg h2,List.mem_append,List.mem_singleton]
   exact ⟨fun h=>h.elim .inl fun h=>.inr ⟨h1,h.symm⟩,fun h=>h.elim .inl fun h=>.inr h.2.symm⟩
 ·rw [if_neg h1]
  exact ⟨.inl,fun h=>h.elim id fun h=>absurd h.1 h1⟩
theorem Dg (pc:List Int) (piece:Int) (pm:List ((Int × Int) × Int)):(Be pc piece pm).Nodup∧∀ x,x∈Be pc piece pm↔∃ e∈pm,eP pc piece e.1.1=true∧e.2=x:=by
 have gen:∀ (pm:List ((Int × Int) × Int)) (s:List Int),s.Nodup→(pm.foldl (r7 pc piece) s).Nodup∧∀ x,x∈pm.foldl (r7 pc piece) s↔x∈s∨∃ e∈pm,eP pc piece e.1.1=true∧e.2=x:=by
  intro pm
  induction pm with
  | nil=>intro s h; exact ⟨h,fun x=>⟨.inl,fun h=>h.elim id fun ⟨e,he,_⟩=>by cases he⟩⟩
  | cons e pm ih=>
   intro s h
   obtain ⟨h1,h2⟩:=ih (r7 pc piece s e) (vX h)
   refine ⟨h1,fun x=>?_⟩
   rw [List.foldl_cons,h2,Bf]
   constructor
   ·rintro ((h | h) | ⟨e',IN,h⟩)
    ·exact .inl h
    ·exact .inr ⟨e,List.mem_cons_self,h⟩
    ·exact .inr ⟨e',List.mem_cons_of_mem _ IN,h⟩
   ·rintro (h | ⟨e',IN,h⟩)
    ·exact .inl (.inl h)
    ·rcases List.mem_cons.1 IN with rfl | IN
     ·exact .inl (.inr h)
     ·exact .inr ⟨e',IN,h⟩
 obtain ⟨h1,h2⟩:=gen pm [] List.nodup_nil
 exact ⟨h1,fun x=>by rw [show Be pc piece pm=pm.foldl (r7 pc piece) [] from rfl,h2]; simp⟩
def Ks (t:fS) (piece:Int) (pc:List Int) (pm:List ((Int × Int) × Int)) (fr:List (Int × Int)) (op:List (List (Int × Int))) (mx:Int):Int × Int × Int × Int × Int × Int:=
 let Xo:Int:=((Be pc piece pm).length:Int)
 let Xp:=mI pc piece zt (List.range t.1.length) 0
 let Xq:=mI pc piece (fun x:Int × Int=>x.1) fr (mI pc piece (fun x:td=>x.1) t.2 0)
 (Xo,Xq,Xp,IntKind.wrap .i64 (mx+1),mI pc piece (fun x:List (Int × Int)=>(x.getD 0 (0,0)).1) op 0,IntKind.wrap .i64 (IntKind.wrap .i64 (Xo - Xq)+Xp))
theorem Ej {α:Type} (pc:List Int) (piece:Int) (key:α→Int):∀ (l:List α) (s:Int),s≤mI pc piece key l s∧mI pc piece key l s≤s+(l.length:Int)
 | [],s=>⟨Int.le_refl _,by simp [mI]⟩
 | x :: l,s=>by
  have h:=Ej pc piece key l (if eP pc piece (key x)=true then s+1 else s)
  have e:mI pc piece key (x :: l) s=mI pc piece key l (if eP pc piece (key x)=true then s+1 else s):=rfl
  rw [e,List.length_cons]
  split at h <;> (rename_i hm; simp only [hm,if_true,if_false,Bool.false_eq_true]; omega)
section
variable {N:Nat} (hN:fA N)
include hN
theorem Ek (t:fS) (piece:Int) (pc:List Int) (pm:List ((Int × Int) × Int)) (fr:List (Int × Int)) (op:List (List (Int × Int))) (mx:Int)
  (hf:HQ N t=some fr) (ho:Qj N t=some op) (hx:So N pc=some mx) (h1:t.1.length≤1000) (h2:t.2.length≤100000) (h3:fr.length≤1000000) (h4:op.length≤1000000)
  (r0:∀ e∈pm,Df pc e.1.1) (r1:pc.length=t.1.length) (r2:∀ s∈t.2,Df pc s.1) (r3:∀ e∈fr,Df pc e.1) (r4:∀ l∈op,l≠[]) (r5:∀ l∈op,Df pc (l.getD 0 (0,0)).1) (VL:pm.length≤1000000000) :
  ∀ (n:Nat) (L:List Nat) (s:List Int),L.length < n→L.Nodup→(∀ i∈L,i < pm.length)→s.Nodup→(∀ x,x∈s↔∃ j,∃ hj:j < pm.length,j∉L∧eP pc piece pm[j].1.1=true∧pm[j].2=x) →
   dQ (qN N t) n (piece,pc,qO s,pm,(pm.length:Int),gr L)=some (Ks t piece pc pm fr op mx)
 | 0,L,s,h,_,_,_,_=>by omega
 | n+1,L,s,h,hL,hi,hs,fD=>by
  rw [kp]
  have ec:decide (pm.length=pm.length)=true:=decide_eq_true rfl
  cases xX:L with
  | nil=>
   have i0:List.isEmpty ([]:List Nat)=true:=rfl
   subst xX
   have sl:s.length=(Be pc piece pm).length:=by
    obtain ⟨d1,d2⟩:=Dg pc piece pm
    refine List.Perm.length_eq ((List.perm_ext_iff_of_nodup hs d1).2 fun x=>?_)
    rw [fD,d2]
    constructor
    ·rintro ⟨j,hj,-,h⟩
     exact ⟨pm[j],List.getElem_mem hj,h⟩
    ·rintro ⟨e,he,h⟩
     obtain ⟨j,hj,rfl⟩:=List.getElem_of_mem he
     exact ⟨j,hj,by simp,h⟩
   have c0:=Ej pc piece (fun x:td=>x.1) t.2 0
   have q1:=HX hN t (s.length:Int) 0 0 0 0 0 piece pc (qO s) pm pm.length [] (by rw [List.length_range]; omega) (by omega) (fun x hx=>by
    have:=List.mem_range.1 hx
    unfold Df zt
    omega)
   have q2:=HV hN t (s.length:Int) (mI pc piece zt (List.range t.1.length) 0) 0 0 0 0 piece pc (qO s) pm pm.length [] (by omega) (by omega) r2
   have q3:=HW hN fr (s.length:Int) (mI pc piece zt (List.range t.1.length) 0) 0 0 0 (mI pc piece (fun x:td=>x.1) t.2 0) piece pc (qO s) pm pm.length [] h3 (by omega) r3
   have q4:=FB hN op r4 (s.length:Int) (mI pc piece (fun x:Int × Int=>x.1) fr (mI pc piece (fun x:td=>x.1) t.2 0)) (mI pc piece zt (List.range t.1.length) 0) 0 0 0 piece pc (qO s) pm pm.length [] h4 (by omega) r5
   have Rt:(qO s).length=s.length:=by unfold qO; rw [List.length_map]
   have ht:HQ N (t.1,t.2)=some fr:=hf
   have Z1:Qj N (t.1,t.2)=some op:=ho
   simp only [qN,zr,Int.toNat_natCast,ec,cond_true,gu,i0,Sp,Rt,jo,jq,gM,gN,dO,dP,du,dv,eL,eM,jr,js,bW,bX,ca,cb,Bool.and_self,Bool.and_true,Option.bind_some,q1,q2,ht,q3,Z1,q4,hx]
   rw [sl]
   rfl
  | cons a L'=>
   rw [← xX]
   have i0:List.isEmpty L=false:=by rw [xX]; rfl
   simp only [qN,zr,Int.toNat_natCast,ec,cond_true,cond_false,gu,i0]
   refine qC (by rw [xX]; simp) fun i VM=>?_
   have bT:=hi i VM
   have n7:(L.erase i).length=L.length - 1:=List.length_erase_of_mem VM
   have mh:0 < L.length:=List.length_pos_of_mem VM
   have dl:decide (i < pm.length)=true:=decide_eq_true bT
   have ih:=fun s' (sN:s'.Nodup) Rc=>Ek t piece pc pm fr op mx hf ho hx h1 h2 h3 h4 r0 r1 r2 r3 r4 r5 VL n (L.erase i) s' (by omega) (hL.erase i) (fun j hj=>hi j (List.mem_of_mem_erase hj)) sN Rc
   have Z2:∀ x,(x∈r7 pc piece s pm[i])↔∃ j,∃ hj:j < pm.length,j∉L.erase i∧eP pc piece pm[j].1.1=true∧pm[j].2=x:=fun x=>by
    rw [Bf,fD]
    constructor
    ·rintro (⟨j,hj,C7,h⟩ | h)
     ·exact ⟨j,hj,fun hm=>C7 (List.mem_of_mem_erase hm),h⟩
     ·exact ⟨i,bT,fun hm=>((List.Nodup.mem_erase_iff hL).1 hm).1 rfl,h⟩
    ·rintro ⟨j,hj,C7,h⟩
     by_cases Xr:j=i
     ·subst Xr; exact .inr h
     ·exact .inl ⟨j,hj,fun hm=>C7 ((List.Nodup.mem_erase_iff hL).2 ⟨Xr,hm⟩),h⟩
   have IV:=ih (r7 pc piece s pm[i]) (vX hs) Z2
   obtain ⟨j,ej,hj,hm⟩:=qP (r0 pm[i] (List.getElem_mem bT))
   obtain ⟨b1,b2⟩:=Ka pc hj
   rw [N9 pm bT]
   simp only [Hv,Hw,C0,C1,Bool.and_self,cond_true,dl,ec]
   have sp:=HU s pm[i].2
   by_cases hp:piece < 0
   ·have em:eP pc piece pm[i].1.1=true:=by unfold eP; rw [if_pos hp]
    unfold r7 at IV
    rw [if_pos em] at IV
    simp only [hp,decide_true,jo,jq,gM,gN,dO,dP,du,dv,eL,eM,jr,js,gu,Int.toNat_natCast,Bool.and_self,Bool.and_true,cond_true,Option.bind_some,LI,LJ,sp]
    exact IV
   ·have em:=hm piece hp
    have dp:decide (piece < 0)=false:=decide_eq_false hp
    unfold r7 at IV
    rw [em] at IV
    cases hb:(pc[j] == piece)
    ·rw [hb] at IV
     rw [if_neg (by decide)] at IV
     simp only [List.length_map,eq_self,decide_true,dp,ej,ar hj,b1,b2,hb,jo,jq,gM,gN,dO,dP,du,dv,eL,eM,jr,js,gu,Int.toNat_natCast,Bool.and_self,Bool.and_true,cond_true,cond_false,Option.bind_some]
     exact IV
    ·rw [hb,if_pos rfl] at IV
     simp only [List.length_map,eq_self,decide_true,dp,ej,ar hj,b1,b2,hb,jo,jq,gM,gN,dO,dP,du,dv,eL,eM,jr,js,gu,Int.toNat_natCast,Bool.and_self,Bool.and_true,cond_true,cond_false,Option.bind_some,LI,LJ,sp]
     exact IV
theorem FC (t:fS) (piece:Int) (fr:List (Int × Int)) (op:List (List (Int × Int))) (mx:Int)
  (hf:HQ N t=some fr) (ho:Qj N t=some op) (hx:So N (dw t)=some mx) (h1:t.1.length≤1000) (hs:∀ x∈t.1,x.2.length≤1000) (h2:t.2.length≤100000) (hk:∀ s∈t.2,Og t s=true) (h3:fr.length≤1000000) (h4:op.length≤1000000)
  (r0:∀ e∈eX t,Df (dw t) e.1.1) (r2:∀ s∈t.2,Df (dw t) s.1) (r3:∀ e∈fr,Df (dw t) e.1) (r4:∀ l∈op,l≠[]) (r5:∀ l∈op,Df (dw t) (l.getD 0 (0,0)).1) (VL:(eX t).length≤1000000000) :
  Qm N (t,piece)=some (Ks t piece (dw t) (eX t) fr op mx):=by
 have q1:P9 N (t.1,t.2)=some (dw t):=vR hN t (by omega) (by omega)
 have q2:N3 N (t.1,t.2)=some (eX t):=vS hN t h1 hs h2 hk
 have r1:(dw t).length=t.1.length:=by unfold dw; simp only [List.length_map,kr]
 have q:=Ek hN t piece (dw t) (eX t) fr op mx hf ho hx h1 h2 h3 h4 r0 r1 r2 r3 r4 r5 VL N (List.range (eX t).length) [] (by rw [List.length_range]; unfold fA at hN; omega) List.nodup_range (fun i hi=>List.mem_range.1 hi) List.nodup_nil (fun x=>by
  constructor
  ·intro h; cases h
  ·rintro ⟨j,hj,C7,-⟩
   exact absurd (List.mem_range.2 hj) C7)
 have q:dQ (qN N t) N (piece,dw t,[],eX t,((eX t).length:Int),gr (List.range (eX t).length))=some (Ks t piece (dw t) (eX t) fr op mx):=q
 have f0:allFit (ah.fits cL) ([]:List AV)=true:=rfl
 have m0:List.map de ([]:List AV)=[]:=rfl
 rw [show Qm N (t,piece)=Qm N ((t.1,t.2),piece) from rfl,OK]
 simp only [bW,bX,ca,cb,Bool.and_self,Bool.and_true,cond_true,Option.bind_some,q1,q2,jo,jq,Vp,f0,m0,Vq,dO,du,dv,dP,zr,jr,js]
 exact q
end
end Go.Proofs.Ytegoimldbgdeiaa
namespace Go.Proofs.Ytegoimldbgdeiaa
open Go Go.Am
set_option maxRecDepth 100000
theorem aD.swap {E:Env} {g:FuncId} {ps:aH} {p:ah} {T T':ps.T→Option p.T} (h:aD E g ⟨ps,p,T⟩) (hT:∀ x y,T' x=some y→T x=some y):aD E g ⟨ps,p,T'⟩:=fun x y hh=>h x y (hT x y hh)
def Sq (t:fS):Bool:=Nat.ble t.1.length 1000&&(t.1.all fun x=>Nat.ble x.2.length 1000)&&Nat.ble t.2.length 1000&&t.2.all (Og t)
theorem Dh {t:fS} (h:Sq t=true):t.1.length≤1000∧(∀ x∈t.1,x.2.length≤1000)∧t.2.length≤1000∧∀ s∈t.2,Og t s=true:=by
 unfold Sq at h
 simp only [Bool.and_eq_true,List.all_eq_true] at h
 exact ⟨Nat.le_of_ble_eq_true h.1.1.1,fun x hx=>Nat.le_of_ble_eq_true (h.1.1.2 x hx),Nat.le_of_ble_eq_true h.1.2,h.2⟩
def FD (pc:List Int) (p:Int):Bool:=decide (0≤p)&&decide (p < (pc.length:Int))
theorem tG {pc:List Int} {p:Int} (h:FD pc p=true):Df pc p:=by
 unfold FD at h
 simp only [Bool.and_eq_true,decide_eq_true_eq] at h
 exact h
def zu (t:fS):Option (List Int):=bif Sq t then some (dw t) else none
def zv (t:fS):Option (List ((Int × Int) × Int)):=bif Sq t then some (eX t) else none
noncomputable def vI (N:Nat) (x:fS × Int):Option (Int × Int × Int × Int × Int × Int):=
 bif Sq x.1 then (HQ N x.1).bind fun fr=>(Qj N x.1).bind fun op=>(So N (dw x.1)).bind fun mx=>
  bif Nat.ble fr.length 1000000&&(Nat.ble op.length 1000000&&(Nat.ble (eX x.1).length 1000000&&((eX x.1).all (fun e=>FD (dw x.1) e.1.1)&&(x.1.2.all (fun s=>FD (dw x.1) s.1)&&(fr.all (fun e=>FD (dw x.1) e.1)&&op.all (fun l=>!l.isEmpty&&FD (dw x.1) (l.getD 0 (0,0)).1)))))) then some (Ks x.1 x.2 (dw x.1) (eX x.1) fr op mx) else none
 else none
section
variable {N:Nat} (hN:fA N)
include hN
theorem FE (t:fS) (y:List Int) (h:zu t=some y):P9 N t=some y:=by
 unfold zu at h
 obtain ⟨h1,h2⟩:=aT h
 cases h2
 obtain ⟨a,b,c,d⟩:=Dh h1
 exact vR hN t (by omega) (by omega)
theorem FF (t:fS) (y:List ((Int × Int) × Int)) (h:zv t=some y):N3 N t=some y:=by
 unfold zv at h
 obtain ⟨h1,h2⟩:=aT h
 cases h2
 obtain ⟨a,b,c,d⟩:=Dh h1
 exact vS hN t a b (by omega) d
theorem count_eq (x:fS × Int) (y:Int × Int × Int × Int × Int × Int) (h:vI N x=some y):Qm N x=some y:=by
 unfold vI at h
 obtain ⟨h1,h2⟩:=aT h
 obtain ⟨a,b,c,d⟩:=Dh h1
 obtain ⟨fr,q1,h2⟩:=bind_some h2
 obtain ⟨op,q2,h2⟩:=bind_some h2
 obtain ⟨mx,q3,h2⟩:=bind_some h2
 obtain ⟨h3,h4⟩:=aT h2
 cases h4
 simp only [Bool.and_eq_true,List.all_eq_true] at h3
 obtain ⟨c1,c2,c3,c4,c5,c6,c7⟩:=h3
 exact FC hN x.1 x.2 fr op mx q1 q2 q3 a b (by omega) d (Nat.le_of_ble_eq_true c1) (Nat.le_of_ble_eq_true c2) (fun e he=>tG (c4 e he)) (fun s hs=>tG (c5 s hs)) (fun e he=>tG (c6 e he)) (fun l hl=>by
  have:=(c7 l hl).1
  intro e
  subst e
  cases this) (fun l hl=>tG (c7 l hl).2) (by have:=Nat.le_of_ble_eq_true c3; omega)
end
noncomputable def El:bf:=⟨(.cons (.agg (.cons (.list 2 (.agg (.cons .str (.cons (.list 2 (.agg (.cons (.int .i64) (.cons (.int .i64) .nil)))) .nil)))) (.cons (.list 5 (.agg (.cons (.int .i64) (.cons (.int .i64) (.cons (.int .i64) (.cons (.int .i64) (.cons .bool .nil))))))) .nil))) .nil),(.list 1 (.int .i64)),zu⟩
theorem Di {N:Nat} (hN:fA N):aD bN 60 El:=aD.swap (HB N) (fun x y h=>FE hN x y h)
noncomputable def CZ (N:Nat):bf:=⟨(.cons (.agg (.cons (.list 2 (.agg (.cons .str (.cons (.list 2 (.agg (.cons (.int .i64) (.cons (.int .i64) .nil)))) .nil)))) (.cons (.list 5 (.agg (.cons (.int .i64) (.cons (.int .i64) (.cons (.int .i64) (.cons (.int .i64) (.cons .bool .nil))))))) .nil))) (.cons (.int .i64) .nil)),(.agg (.cons (.int .i64) (.cons (.int .i64) (.cons (.int .i64) (.cons (.int .i64) (.cons (.int .i64) (.cons (.int .i64) .nil))))))),vI N⟩
theorem FG {N:Nat} (hN:fA N):aD bN 58 (CZ N):=fun x y h=>OJ N x y (count_eq hN x y h)
noncomputable def Kt (N:Nat) (hN:fA N):vw bN 79:=⟨(.cons (.agg (.cons (.list 2 (.agg (.cons .str (.cons (.list 2 (.agg (.cons (.int .i64) (.cons (.int .i64) .nil)))) .nil)))) (.cons (.list 5 (.agg (.cons (.int .i64) (.cons (.int .i64) (.cons (.int .i64) (.cons (.int .i64) (.cons .bool .nil))))))) .nil))) .nil),R6,zv,fun x y h=>HC N x y (FF hN x y h)⟩
end Go.Proofs.Ytegoimldbgdeiaa
