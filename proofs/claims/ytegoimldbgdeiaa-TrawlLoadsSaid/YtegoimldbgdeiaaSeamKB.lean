/- Plain laws: how many points,edges and openings. -/
import Derived.Test.YtegoimldbgdeiaaSeamKA
import Derived.Test.YtegoimldbgdeiaaTrwC
set_option linter.all false
namespace Go.Proofs.Ytegoimldbgdeiaa
open Go Go.Am
set_option maxRecDepth 100000
theorem As:fZ .int (fun k:Int=>AV.int .i64 k) AV.bool ay:=⟨fun a b=>Dc .i64 a b,fun _=>rfl,fun _=>rfl⟩
theorem Kn (a:Int) (m:List (Int × Bool)):ca .int (AV.int .i64 a) (ab (List.map ay m))=true:=As.keys a m
theorem Ko (a:Int) (v:Bool) (m:List (Int × Bool)):cb .int (AV.int .i64 a) (AV.bool v) (ab (List.map ay m))=ab (List.map ay (fL a v m)):=As.put a v m
theorem gI (m:List (Int × Bool)):af (ab (List.map ay m))=List.map ay m:=As.cells m
theorem gJ (m:List (Int × Bool)):aH (ab (List.map ay m))=true:=As.aH m
theorem Qa (m:List (Int × Bool)):(ab (List.map ay m)).length=m.length:=by rw [As.Of,List.length_map]
def qD (l:List Int):List (Int × Bool):=l.map fun x=>(x,true)
theorem GK (l:List Int) (x:Int):fL x true (qD l)=qD (if x∈l then l else l++[x]):=by
 by_cases h:x∈l
 ·rw [if_pos h]
  induction l with
  | nil=>cases h
  | cons y l ih=>
   show fL x true ((y,true) :: qD l)=(y,true) :: qD l
   unfold fL
   by_cases hy:x=y
   ·rw [if_pos hy,hy]
   ·rw [if_neg hy,ih (by rcases List.mem_cons.1 h with h | h; exact absurd h hy; exact h)]
 ·rw [if_neg h]
  have:getM x (qD l)=none:=by unfold qD; rw [Et,if_neg h]
  rw [An this]
  unfold qD
  rw [List.map_append]
  rfl
def eL (pc:List Int) (piece p:Int):Bool:=if piece < 0 then true else pc.getD p.toNat 0 == piece
def yC (i:Nat):Int:=(i:Int)
def mz {α:Type} (pc:List Int) (piece:Int) (key:α→Int) (l:List α) (s:Int):Int:=l.foldl (fun s x=>if eL pc piece (key x)=true then s+1 else s) s
def Cm (pc:List Int) (p:Int):Prop:=0≤p∧p < (pc.length:Int)
theorem qE {pc:List Int} {p:Int} (h:Cm pc p):∃ k:Nat,p=(k:Int)∧∃ hk:k < pc.length,∀ piece,¬ piece < 0→eL pc piece p=(pc[k] == piece):=by
 obtain ⟨h1,h2⟩:=h
 refine ⟨p.toNat,by omega,by omega,fun piece hp=>?_⟩
 unfold eL
 rw [if_neg hp,List.getD_eq_getElem?_getD,List.getElem?_eq_getElem (show p.toNat < pc.length by omega)]
 rfl
theorem GM {N:Nat} (hN:hH N) (t:oe) (p n z o u s0:Int) (piece:Int) (pc:List Int) (S:List (Int × Bool)) (pm:List ((Int × Int) × Int)) (c:Nat) (L:List Nat) (hl:t.2.length≤1000000) (hs:0≤s0∧s0≤1000000) (hr:∀ x∈t.2,Cm pc (x.1)) :
  a6 (ko N t) N (0,p,s0,n,z,o,u,piece,pc,S,pm,(c:Int),gl L)=some (p,(mz pc piece (fun x=>x.1) t.2 s0),n,z,o,u,piece,pc,S,pm,(c:Int),gl L):=by
 have key:=cR (rd:=ko N t) t.2 (fun (s:Int) k=>((k:Int),p,s,n,z,o,u,piece,pc,S,pm,(c:Int),gl L)) (fun s x=>if eL pc piece (x.1)=true then s+1 else s) (fun s=>(p,s,n,z,o,u,piece,pc,S,pm,(c:Int),gl L)) (fun s k=>0≤s∧s≤s0+(k:Int)) (fun s k hk hP=>by
  obtain ⟨a1,a2⟩:=Gw t.2 hk
  obtain ⟨j,ej,hj,hm⟩:=qE (hr _ (List.getElem_mem hk))
  obtain ⟨b1,b2⟩:=IR pc hj
  have ws:IntKind.wrap .i64 (s+1)=s+1:=pw ⟨by omega,by omega⟩
  refine ⟨?_,by split <;> omega⟩
  by_cases hp:piece < 0
  ·have em:eL pc piece (t.2[k].1)=true:=by unfold eL; rw [if_pos hp]
   rw [em]
   simp only [ko,List.length_map,aX hk,aK hk,a1,a2,hp,em,if_true,ws,bS (show k < 9223372036854775807 by omega),jk,jl,gI,gJ,dG,dH,cY,cZ,eH,eI,jm,jn,gm,Int.toNat_natCast,Bool.and_self,Bool.and_true,cond_true,cond_false,Option.bind_some,eq_self,decide_true]
  ·have em:=hm piece hp
   have dp:decide (piece < 0)=false:=decide_eq_false hp
   rw [em]
   skip
   cases hb:(pc[j] == piece)
   ·simp only [ko,List.length_map,aX hk,aK hk,a1,a2,dp,ej,aK hj,b1,b2,hb,Bool.false_eq_true,if_false,bS (show k < 9223372036854775807 by omega),jk,jl,gI,gJ,dG,dH,cY,cZ,eH,eI,jm,jn,gm,Int.toNat_natCast,Bool.and_self,Bool.and_true,cond_true,cond_false,Option.bind_some,eq_self,decide_true]
   ·simp only [ko,List.length_map,aX hk,aK hk,a1,a2,dp,ej,aK hj,b1,b2,hb,if_true,ws,bS (show k < 9223372036854775807 by omega),jk,jl,gI,gJ,dG,dH,cY,cZ,eH,eI,jm,jn,gm,Int.toNat_natCast,Bool.and_self,Bool.and_true,cond_true,cond_false,Option.bind_some,eq_self,decide_true]) (fun s _=>by
  simp only [ko,List.length_map,bN,jk,jl,gI,gJ,dG,dH,cY,cZ,eH,eI,jm,jn,gm,Int.toNat_natCast,Bool.and_self,Bool.and_true,cond_true,cond_false,Option.bind_some,eq_self,decide_true]) N s0 0 (Nat.zero_le _) (by unfold hH at hN; omega) ⟨hs.1,by simp⟩
 rw [List.drop_zero] at key
 exact key
theorem GN {N:Nat} (hN:hH N) (fr:List (Int × Int)) (p n z o u s0:Int) (piece:Int) (pc:List Int) (S:List (Int × Bool)) (pm:List ((Int × Int) × Int)) (c:Nat) (L:List Nat) (hl:fr.length≤1000000) (hs:0≤s0∧s0≤1000000) (hr:∀ x∈fr,Cm pc (x.1)) :
  a6 (kp N fr) N (0,p,s0,n,z,o,u,piece,pc,S,pm,(c:Int),gl L)=some (p,(mz pc piece (fun x=>x.1) fr s0),n,z,o,u,piece,pc,S,pm,(c:Int),gl L):=by
 have key:=cR (rd:=kp N fr) fr (fun (s:Int) k=>((k:Int),p,s,n,z,o,u,piece,pc,S,pm,(c:Int),gl L)) (fun s x=>if eL pc piece (x.1)=true then s+1 else s) (fun s=>(p,s,n,z,o,u,piece,pc,S,pm,(c:Int),gl L)) (fun s k=>0≤s∧s≤s0+(k:Int)) (fun s k hk hP=>by
  obtain ⟨a1,a2⟩:=MH fr hk
  obtain ⟨j,ej,hj,hm⟩:=qE (hr _ (List.getElem_mem hk))
  obtain ⟨b1,b2⟩:=IR pc hj
  have ws:IntKind.wrap .i64 (s+1)=s+1:=pw ⟨by omega,by omega⟩
  refine ⟨?_,by split <;> omega⟩
  by_cases hp:piece < 0
  ·have em:eL pc piece (fr[k].1)=true:=by unfold eL; rw [if_pos hp]
   rw [em]
   simp only [kp,List.length_map,aX hk,aK hk,a1,a2,hp,em,if_true,ws,bS (show k < 9223372036854775807 by omega),jk,jl,gI,gJ,dG,dH,cY,cZ,eH,eI,jm,jn,gm,Int.toNat_natCast,Bool.and_self,Bool.and_true,cond_true,cond_false,Option.bind_some,eq_self,decide_true]
  ·have em:=hm piece hp
   have dp:decide (piece < 0)=false:=decide_eq_false hp
   rw [em]
   skip
   cases hb:(pc[j] == piece)
   ·simp only [kp,List.length_map,aX hk,aK hk,a1,a2,dp,ej,aK hj,b1,b2,hb,Bool.false_eq_true,if_false,bS (show k < 9223372036854775807 by omega),jk,jl,gI,gJ,dG,dH,cY,cZ,eH,eI,jm,jn,gm,Int.toNat_natCast,Bool.and_self,Bool.and_true,cond_true,cond_false,Option.bind_some,eq_self,decide_true]
   ·simp only [kp,List.length_map,aX hk,aK hk,a1,a2,dp,ej,aK hj,b1,b2,hb,if_true,ws,bS (show k < 9223372036854775807 by omega),jk,jl,gI,gJ,dG,dH,cY,cZ,eH,eI,jm,jn,gm,Int.toNat_natCast,Bool.and_self,Bool.and_true,cond_true,cond_false,Option.bind_some,eq_self,decide_true]) (fun s _=>by
  simp only [kp,List.length_map,bN,jk,jl,gI,gJ,dG,dH,cY,cZ,eH,eI,jm,jn,gm,Int.toNat_natCast,Bool.and_self,Bool.and_true,cond_true,cond_false,Option.bind_some,eq_self,decide_true]) N s0 0 (Nat.zero_le _) (by unfold hH at hN; omega) ⟨hs.1,by simp⟩
 rw [List.drop_zero] at key
 exact key
theorem Tg (l:List (List (Int × Int))) {k:Nat} (hk:k < l.length):d50 (an (List.map Dj l) k)=l[k]∧ah.fits MS (an (List.map Dj l) k)=true:=by
 rw [gk Dj l k hk,S9,S8]; exact ⟨rfl,rfl⟩
theorem Ey {N:Nat} (hN:hH N) (op:List (List (Int × Int))) (cr:∀ x∈op,x≠[]) (p e n z u s0:Int) (piece:Int) (pc:List Int) (S:List (Int × Bool)) (pm:List ((Int × Int) × Int)) (c:Nat) (L:List Nat) (hl:op.length≤1000000) (hs:0≤s0∧s0≤1000000) (hr:∀ x∈op,Cm pc ((x.getD 0 (0,0)).1)) :
  a6 (iw N op) N (0,p,e,n,z,s0,u,piece,pc,S,pm,(c:Int),gl L)=some (p,e,n,z,(mz pc piece (fun x=>(x.getD 0 (0,0)).1) op s0),u,piece,pc,S,pm,(c:Int),gl L):=by
 have key:=cR (rd:=iw N op) op (fun (s:Int) k=>((k:Int),p,e,n,z,s,u,piece,pc,S,pm,(c:Int),gl L)) (fun s x=>if eL pc piece ((x.getD 0 (0,0)).1)=true then s+1 else s) (fun s=>(p,e,n,z,s,u,piece,pc,S,pm,(c:Int),gl L)) (fun s k=>0≤s∧s≤s0+(k:Int)) (fun s k hk hP=>by
  obtain ⟨a1,a2⟩:=Tg op hk
  obtain ⟨x0,xt,hx⟩:∃ x0 xt,op[k]=x0 :: xt:=by
   have:=cr _ (List.getElem_mem hk)
   cases h:op[k] with
   | nil=>exact absurd h this
   | cons a b=>exact ⟨a,b,rfl⟩
  have ek:op[k].getD 0 (0,0)=x0:=by rw [hx]; rfl
  have e1:decide ((0:Int)≤0∧0 < (((x0 :: xt).length:Nat):Int))=true:=decide_eq_true ⟨by omega,by rw [List.length_cons]; omega⟩
  have e2:d67 (an (List.map aO (x0 :: xt)) 0)=x0:=Gj x0
  have e3:ah.fits dR (an (List.map aO (x0 :: xt)) 0)=true:=Gi x0
  have tz:Int.toNat 0=0:=rfl
  obtain ⟨j,ej,hj,hm⟩:=qE (hr _ (List.getElem_mem hk))
  obtain ⟨b1,b2⟩:=IR pc hj
  have Th:x0.1=(j:Int):=by rw [← ej,ek]
  have ws:IntKind.wrap .i64 (s+1)=s+1:=pw ⟨by omega,by omega⟩
  refine ⟨?_,by split <;> omega⟩
  by_cases hp:piece < 0
  ·have em:eL pc piece ((op[k].getD 0 (0,0)).1)=true:=by unfold eL; rw [if_pos hp]
   rw [em]
   simp only [iw,List.length_map,aX hk,aK hk,a1,a2,hx,e1,e2,e3,tz,hp,em,if_true,ws,bS (show k < 9223372036854775807 by omega),jk,jl,gI,gJ,dG,dH,cY,cZ,eH,eI,jm,jn,gm,Int.toNat_natCast,Bool.and_self,Bool.and_true,cond_true,cond_false,Option.bind_some,eq_self,decide_true]
  ·have em:=hm piece hp
   have dp:decide (piece < 0)=false:=decide_eq_false hp
   rw [em]
   skip
   cases hb:(pc[j] == piece)
   ·simp only [iw,List.length_map,aX hk,aK hk,a1,a2,hx,e1,e2,e3,tz,dp,Th,aK hj,b1,b2,hb,Bool.false_eq_true,if_false,bS (show k < 9223372036854775807 by omega),jk,jl,gI,gJ,dG,dH,cY,cZ,eH,eI,jm,jn,gm,Int.toNat_natCast,Bool.and_self,Bool.and_true,cond_true,cond_false,Option.bind_some,eq_self,decide_true]
   ·simp only [iw,List.length_map,aX hk,aK hk,a1,a2,hx,e1,e2,e3,tz,dp,Th,aK hj,b1,b2,hb,if_true,ws,bS (show k < 9223372036854775807 by omega),jk,jl,gI,gJ,dG,dH,cY,cZ,eH,eI,jm,jn,gm,Int.toNat_natCast,Bool.and_self,Bool.and_true,cond_true,cond_false,Option.bind_some,eq_self,decide_true]) (fun s _=>by
  simp only [iw,List.length_map,bN,jk,jl,gI,gJ,dG,dH,cY,cZ,eH,eI,jm,jn,gm,Int.toNat_natCast,Bool.and_self,Bool.and_true,cond_true,cond_false,Option.bind_some,eq_self,decide_true]) N s0 0 (Nat.zero_le _) (by unfold hH at hN; omega) ⟨hs.1,by simp⟩
 rw [List.drop_zero] at key
 exact key
theorem GP {N:Nat} (hN:hH N) (t:oe) (p e z o u s0:Int) (piece:Int) (pc:List Int) (S:List (Int × Bool)) (pm:List ((Int × Int) × Int)) (c:Nat) (L:List Nat) (hl:(List.range t.1.length).length≤1000000) (hs:0≤s0∧s0≤1000000) (hr:∀ x∈(List.range t.1.length),Cm pc (yC x)) :
  a6 (kn N t) N (0,p,e,s0,z,o,u,piece,pc,S,pm,(c:Int),gl L)=some (p,e,(mz pc piece (fun x=>yC x) (List.range t.1.length) s0),z,o,u,piece,pc,S,pm,(c:Int),gl L):=by
 have key:=cR (rd:=kn N t) (List.range t.1.length) (fun (s:Int) k=>((k:Int),p,e,s,z,o,u,piece,pc,S,pm,(c:Int),gl L)) (fun s x=>if eL pc piece (yC x)=true then s+1 else s) (fun s=>(p,e,s,z,o,u,piece,pc,S,pm,(c:Int),gl L)) (fun s k=>0≤s∧s≤s0+(k:Int)) (fun s k hk hP=>by
  have Hw:k < t.1.length:=by rw [List.length_range] at hk; exact hk
  obtain ⟨j,ej,hj,hm⟩:=qE (hr _ (List.getElem_mem hk))
  obtain ⟨b1,b2⟩:=IR pc hj
  have ek:(List.range t.1.length)[k]=k:=by simp
  have Th:(k:Int)=(j:Int):=by rw [← ej,ek]; rfl
  have Xd:k=j:=by omega
  subst Xd
  have ws:IntKind.wrap .i64 (s+1)=s+1:=pw ⟨by omega,by omega⟩
  refine ⟨?_,by split <;> omega⟩
  by_cases hp:piece < 0
  ·have em:eL pc piece (yC ((List.range t.1.length)[k]))=true:=by unfold eL; rw [if_pos hp]
   rw [em]
   simp only [kn,List.length_map,aX Hw,aK Hw,hp,em,if_true,ws,bS (show k < 9223372036854775807 by omega),jk,jl,gI,gJ,dG,dH,cY,cZ,eH,eI,jm,jn,gm,Int.toNat_natCast,Bool.and_self,Bool.and_true,cond_true,cond_false,Option.bind_some,eq_self,decide_true]
  ·have em:=hm piece hp
   have dp:decide (piece < 0)=false:=decide_eq_false hp
   rw [em]
   skip
   cases hb:(pc[k] == piece)
   ·simp only [kn,List.length_map,aX Hw,aK Hw,dp,aK hj,b1,b2,hb,Bool.false_eq_true,if_false,bS (show k < 9223372036854775807 by omega),jk,jl,gI,gJ,dG,dH,cY,cZ,eH,eI,jm,jn,gm,Int.toNat_natCast,Bool.and_self,Bool.and_true,cond_true,cond_false,Option.bind_some,eq_self,decide_true]
   ·simp only [kn,List.length_map,aX Hw,aK Hw,dp,aK hj,b1,b2,hb,if_true,ws,bS (show k < 9223372036854775807 by omega),jk,jl,gI,gJ,dG,dH,cY,cZ,eH,eI,jm,jn,gm,Int.toNat_natCast,Bool.and_self,Bool.and_true,cond_true,cond_false,Option.bind_some,eq_self,decide_true]) (fun s _=>by
  simp only [kn,List.length_map,List.length_range,bN,jk,jl,gI,gJ,dG,dH,cY,cZ,eH,eI,jm,jn,gm,Int.toNat_natCast,Bool.and_self,Bool.and_true,cond_true,cond_false,Option.bind_some,eq_self,decide_true]) N s0 0 (Nat.zero_le _) (by unfold hH at hN; omega) ⟨hs.1,by simp⟩
 rw [List.drop_zero] at key
 exact key
end Go.Proofs.Ytegoimldbgdeiaa
namespace Go.Proofs.Ytegoimldbgdeiaa
open Go Go.Am
set_option maxRecDepth 100000
def rF (pc:List Int) (piece:Int) (s:List Int) (e:(Int × Int) × Int):List Int:=if eL pc piece e.1.1=true then (if e.2∈s then s else s++[e.2]) else s
def Au (pc:List Int) (piece:Int) (pm:List ((Int × Int) × Int)):List Int:=pm.foldl (rF pc piece) []
theorem vr {pc:List Int} {piece:Int} {s:List Int} {e:(Int × Int) × Int} (h:s.Nodup):(rF pc piece s e).Nodup:=by
 unfold rF
 split
 ·split
  ·exact h
  ·rename_i hn
   exact List.nodup_append.2 ⟨h,by simp,fun a ha b hb Xe=>hn (by rw [List.mem_singleton] at hb; subst hb; subst Xe; exact ha)⟩
 ·exact h
theorem Av {pc:List Int} {piece:Int} {s:List Int} {e:(Int × Int) × Int} {x:Int}:x∈rF pc piece s e↔x∈s∨(eL pc piece e.1.1=true∧e.2=x):=by
 unfold rF
 by_cases h1:eL pc piece e.1.1=true
 ·rw [if_pos h1]
  by_cases h2:e.2∈s
  ·rw [if_pos h2]
   exact ⟨.inl,fun h=>h.elim id fun h=>h.2 ▸ h2⟩
  ·rw [if_neg h2,List.mem_append,List.mem_singleton]
   exact ⟨fun h=>h.elim .inl fun h=>.inr ⟨h1,h.symm⟩,fun h=>h.elim .inl fun h=>.inr h.2.symm⟩
 ·rw [if_neg h1]
  exact ⟨.inl,fun h=>h.elim id fun h=>absurd h.1 h1⟩
theorem Cn (pc:List Int) (piece:Int) (pm:List ((Int × Int) × Int)):(Au pc piece pm).Nodup∧∀ x,x∈Au pc piece pm↔∃ e∈pm,eL pc piece e.1.1=true∧e.2=x:=by
 have gen:∀ (pm:List ((Int × Int) × Int)) (s:List Int),s.Nodup→(pm.foldl (rF pc piece) s).Nodup∧∀ x,x∈pm.foldl (rF pc piece) s↔x∈s∨∃ e∈pm,eL pc piece e.1.1=true∧e.2=x:=by
  intro pm
  induction pm with
  | nil=>intro s h; exact ⟨h,fun x=>⟨.inl,fun h=>h.elim id fun ⟨e,he,_⟩=>by cases he⟩⟩
  | cons e pm ih=>
   intro s h
   obtain ⟨h1,h2⟩:=ih (rF pc piece s e) (vr h)
   refine ⟨h1,fun x=>?_⟩
   rw [List.foldl_cons,h2,Av]
   constructor
   ·rintro ((h | h) | ⟨e',Hs,h⟩)
    ·exact .inl h
    ·exact .inr ⟨e,List.mem_cons_self,h⟩
    ·exact .inr ⟨e',List.mem_cons_of_mem _ Hs,h⟩
   ·rintro (h | ⟨e',Hs,h⟩)
    ·exact .inl (.inl h)
    ·rcases List.mem_cons.1 Hs with rfl | Hs
     ·exact .inl (.inr h)
     ·exact .inr ⟨e',Hs,h⟩
 obtain ⟨h1,h2⟩:=gen pm [] List.nodup_nil
 exact ⟨h1,fun x=>by rw [show Au pc piece pm=pm.foldl (rF pc piece) [] from rfl,h2]; simp⟩
def I7 (t:oe) (piece:Int) (pc:List Int) (pm:List ((Int × Int) × Int)) (fr:List (Int × Int)) (op:List (List (Int × Int))) (mx:Int):Int × Int × Int × Int × Int × Int:=
 let UQ:Int:=((Au pc piece pm).length:Int)
 let UR:=mz pc piece yC (List.range t.1.length) 0
 let US:=mz pc piece (fun x:Int × Int=>x.1) fr (mz pc piece (fun x:GA=>x.1) t.2 0)
 (UQ,US,UR,IntKind.wrap .i64 (mx+1),mz pc piece (fun x:List (Int × Int)=>(x.getD 0 (0,0)).1) op 0,IntKind.wrap .i64 (IntKind.wrap .i64 (UQ - US)+UR))
theorem Dk {α:Type} (pc:List Int) (piece:Int) (key:α→Int):∀ (l:List α) (s:Int),s≤mz pc piece key l s∧mz pc piece key l s≤s+(l.length:Int)
 | [],s=>⟨Int.le_refl _,by simp [mz]⟩
 | x :: l,s=>by
  have h:=Dk pc piece key l (if eL pc piece (key x)=true then s+1 else s)
  have e:mz pc piece key (x :: l) s=mz pc piece key l (if eL pc piece (key x)=true then s+1 else s):=rfl
  rw [e,List.length_cons]
  split at h <;> (rename_i hm; simp only [hm,if_true,if_false,Bool.false_eq_true]; omega)
section
variable {N:Nat} (hN:hH N)
include hN
theorem Dl (t:oe) (piece:Int) (pc:List Int) (pm:List ((Int × Int) × Int)) (fr:List (Int × Int)) (op:List (List (Int × Int))) (mx:Int)
  (hf:Oj N t=some fr) (ho:Ok N t=some op) (hx:P9 N pc=some mx) (h1:t.1.length≤1000) (h2:t.2.length≤100000) (h3:fr.length≤1000000) (h4:op.length≤1000000)
  (r0:∀ e∈pm,Cm pc e.1.1) (r1:pc.length=t.1.length) (r2:∀ s∈t.2,Cm pc s.1) (r3:∀ e∈fr,Cm pc e.1) (r4:∀ l∈op,l≠[]) (r5:∀ l∈op,Cm pc (l.getD 0 (0,0)).1) (Ti:pm.length≤1000000000) :
  ∀ (n:Nat) (L:List Nat) (s:List Int),L.length < n→L.Nodup→(∀ i∈L,i < pm.length)→s.Nodup→(∀ x,x∈s↔∃ j,∃ hj:j < pm.length,j∉L∧eL pc piece pm[j].1.1=true∧pm[j].2=x) →
   dI (qC N t) n (piece,pc,qD s,pm,(pm.length:Int),gl L)=some (I7 t piece pc pm fr op mx)
 | 0,L,s,h,_,_,_,_=>by omega
 | n+1,L,s,h,hL,hi,hs,fy=>by
  rw [ki]
  have ec:decide (pm.length=pm.length)=true:=decide_eq_true rfl
  cases xh:L with
  | nil=>
   have i0:List.isEmpty ([]:List Nat)=true:=rfl
   subst xh
   have sl:s.length=(Au pc piece pm).length:=by
    obtain ⟨d1,d2⟩:=Cn pc piece pm
    refine List.Perm.length_eq ((List.perm_ext_iff_of_nodup hs d1).2 fun x=>?_)
    rw [fy,d2]
    constructor
    ·rintro ⟨j,hj,-,h⟩
     exact ⟨pm[j],List.getElem_mem hj,h⟩
    ·rintro ⟨e,he,h⟩
     obtain ⟨j,hj,rfl⟩:=List.getElem_of_mem he
     exact ⟨j,hj,by simp,h⟩
   have c0:=Dk pc piece (fun x:GA=>x.1) t.2 0
   have q1:=GP hN t (s.length:Int) 0 0 0 0 0 piece pc (qD s) pm pm.length [] (by rw [List.length_range]; omega) (by omega) (fun x hx=>by
    have:=List.mem_range.1 hx
    unfold Cm yC
    omega)
   have q2:=GM hN t (s.length:Int) (mz pc piece yC (List.range t.1.length) 0) 0 0 0 0 piece pc (qD s) pm pm.length [] (by omega) (by omega) r2
   have q3:=GN hN fr (s.length:Int) (mz pc piece yC (List.range t.1.length) 0) 0 0 0 (mz pc piece (fun x:GA=>x.1) t.2 0) piece pc (qD s) pm pm.length [] h3 (by omega) r3
   have q4:=Ey hN op r4 (s.length:Int) (mz pc piece (fun x:Int × Int=>x.1) fr (mz pc piece (fun x:GA=>x.1) t.2 0)) (mz pc piece yC (List.range t.1.length) 0) 0 0 0 piece pc (qD s) pm pm.length [] h4 (by omega) r5
   have Ps:(qD s).length=s.length:=by unfold qD; rw [List.length_map]
   have ht:Oj N (t.1,t.2)=some fr:=hf
   have Xf:Ok N (t.1,t.2)=some op:=ho
   simp only [qC,yA,Int.toNat_natCast,ec,cond_true,gm,i0,Qa,Ps,jk,jl,gI,gJ,dG,dH,cY,cZ,eH,eI,jm,jn,dj,dm,dh,di,Bool.and_self,Bool.and_true,Option.bind_some,q1,q2,ht,q3,Xf,q4,hx]
   rw [sl]
   rfl
  | cons a L'=>
   rw [← xh]
   have i0:List.isEmpty L=false:=by rw [xh]; rfl
   simp only [qC,yA,Int.toNat_natCast,ec,cond_true,cond_false,gm,i0]
   refine qo (by rw [xh]; simp) fun i Tj=>?_
   have bK:=hi i Tj
   have nQ:(L.erase i).length=L.length - 1:=List.length_erase_of_mem Tj
   have lY:0 < L.length:=List.length_pos_of_mem Tj
   have dl:decide (i < pm.length)=true:=decide_eq_true bK
   have ih:=fun s' (ss:s'.Nodup) Pb=>Dl t piece pc pm fr op mx hf ho hx h1 h2 h3 h4 r0 r1 r2 r3 r4 r5 Ti n (L.erase i) s' (by omega) (hL.erase i) (fun j hj=>hi j (List.mem_of_mem_erase hj)) ss Pb
   have Xg:∀ x,(x∈rF pc piece s pm[i])↔∃ j,∃ hj:j < pm.length,j∉L.erase i∧eL pc piece pm[j].1.1=true∧pm[j].2=x:=fun x=>by
    rw [Av,fy]
    constructor
    ·rintro (⟨j,hj,Ch,h⟩ | h)
     ·exact ⟨j,hj,fun hm=>Ch (List.mem_of_mem_erase hm),h⟩
     ·exact ⟨i,bK,fun hm=>((List.Nodup.mem_erase_iff hL).1 hm).1 rfl,h⟩
    ·rintro ⟨j,hj,Ch,h⟩
     by_cases UT:j=i
     ·subst UT; exact .inr h
     ·exact .inl ⟨j,hj,fun hm=>Ch ((List.Nodup.mem_erase_iff hL).2 ⟨UT,hm⟩),h⟩
   have Hx:=ih (rF pc piece s pm[i]) (vr hs) Xg
   obtain ⟨j,ej,hj,hm⟩:=qE (r0 pm[i] (List.getElem_mem bK))
   obtain ⟨b1,b2⟩:=IR pc hj
   rw [MG pm bK]
   simp only [Gi,Gj,Cc,Cd,Bool.and_self,cond_true,dl,ec]
   have sp:=GK s pm[i].2
   by_cases hp:piece < 0
   ·have em:eL pc piece pm[i].1.1=true:=by unfold eL; rw [if_pos hp]
    unfold rF at Hx
    rw [if_pos em] at Hx
    simp only [hp,decide_true,jk,jl,gI,gJ,dG,dH,cY,cZ,eH,eI,jm,jn,gm,Int.toNat_natCast,Bool.and_self,Bool.and_true,cond_true,Option.bind_some,Kn,Ko,sp]
    exact Hx
   ·have em:=hm piece hp
    have dp:decide (piece < 0)=false:=decide_eq_false hp
    unfold rF at Hx
    rw [em] at Hx
    cases hb:(pc[j] == piece)
    ·rw [hb] at Hx
     rw [if_neg (by decide)] at Hx
     simp only [List.length_map,eq_self,decide_true,dp,ej,aK hj,b1,b2,hb,jk,jl,gI,gJ,dG,dH,cY,cZ,eH,eI,jm,jn,gm,Int.toNat_natCast,Bool.and_self,Bool.and_true,cond_true,cond_false,Option.bind_some]
     exact Hx
    ·rw [hb,if_pos rfl] at Hx
     simp only [List.length_map,eq_self,decide_true,dp,ej,aK hj,b1,b2,hb,jk,jl,gI,gJ,dG,dH,cY,cZ,eH,eI,jm,jn,gm,Int.toNat_natCast,Bool.and_self,Bool.and_true,cond_true,cond_false,Option.bind_some,Kn,Ko,sp]
     exact Hx
theorem Ez (t:oe) (piece:Int) (fr:List (Int × Int)) (op:List (List (Int × Int))) (mx:Int)
  (hf:Oj N t=some fr) (ho:Ok N t=some op) (hx:P9 N (da t)=some mx) (h1:t.1.length≤1000) (hs:∀ x∈t.1,x.2.length≤1000) (h2:t.2.length≤100000) (hk:∀ s∈t.2,MP t s=true) (h3:fr.length≤1000000) (h4:op.length≤1000000)
  (r0:∀ e∈eS t,Cm (da t) e.1.1) (r2:∀ s∈t.2,Cm (da t) s.1) (r3:∀ e∈fr,Cm (da t) e.1) (r4:∀ l∈op,l≠[]) (r5:∀ l∈op,Cm (da t) (l.getD 0 (0,0)).1) (Ti:(eS t).length≤1000000000) :
  Ol N (t,piece)=some (I7 t piece (da t) (eS t) fr op mx):=by
 have q1:Oa N (t.1,t.2)=some (da t):=vn hN t (by omega) (by omega)
 have q2:MB N (t.1,t.2)=some (eS t):=vp hN t h1 hs h2 hk
 have r1:(da t).length=t.1.length:=by unfold da; simp only [List.length_map,kl]
 have q:=Dl hN t piece (da t) (eS t) fr op mx hf ho hx h1 h2 h3 h4 r0 r1 r2 r3 r4 r5 Ti N (List.range (eS t).length) [] (by rw [List.length_range]; unfold hH at hN; omega) List.nodup_range (fun i hi=>List.mem_range.1 hi) List.nodup_nil (fun x=>by
  constructor
  ·intro h; cases h
  ·rintro ⟨j,hj,Ch,-⟩
   exact absurd (List.mem_range.2 hj) Ch)
 have q:dI (qC N t) N (piece,da t,[],eS t,((eS t).length:Int),gl (List.range (eS t).length))=some (I7 t piece (da t) (eS t) fr op mx):=q
 have f0:allFit (ah.fits cE) ([]:List AV)=true:=rfl
 have m0:List.map cT ([]:List AV)=[]:=rfl
 rw [show Ol N (t,piece)=Ol N ((t.1,t.2),piece) from rfl,M5]
 simp only [dj,dm,dh,di,Bool.and_self,Bool.and_true,cond_true,Option.bind_some,q1,q2,jk,jl,S4,f0,m0,S5,dG,cY,cZ,dH,yA,jm,jn]
 exact q
end
end Go.Proofs.Ytegoimldbgdeiaa
namespace Go.Proofs.Ytegoimldbgdeiaa
open Go Go.Am
set_option maxRecDepth 100000
theorem aM.swap {E:Env} {g:FuncId} {ps:aD} {p:ah} {T T':ps.T→Option p.T} (h:aM E g ⟨ps,p,T⟩) (hT:∀ x y,T' x=some y→T x=some y):aM E g ⟨ps,p,T'⟩:=fun x y hh=>h x y (hT x y hh)
def Qb (t:oe):Bool:=Nat.ble t.1.length 1000&&(t.1.all fun x=>Nat.ble x.2.length 1000)&&Nat.ble t.2.length 1000&&t.2.all (MP t)
theorem Co {t:oe} (h:Qb t=true):t.1.length≤1000∧(∀ x∈t.1,x.2.length≤1000)∧t.2.length≤1000∧∀ s∈t.2,MP t s=true:=by
 unfold Qb at h
 simp only [Bool.and_eq_true,List.all_eq_true] at h
 exact ⟨Nat.le_of_ble_eq_true h.1.1.1,fun x hx=>Nat.le_of_ble_eq_true (h.1.1.2 x hx),Nat.le_of_ble_eq_true h.1.2,h.2⟩
def EA (pc:List Int) (p:Int):Bool:=decide (0≤p)&&decide (p < (pc.length:Int))
theorem ta {pc:List Int} {p:Int} (h:EA pc p=true):Cm pc p:=by
 unfold EA at h
 simp only [Bool.and_eq_true,decide_eq_true_eq] at h
 exact h
def yD (t:oe):Option (List Int):=bif Qb t then some (da t) else none
def yF (t:oe):Option (List ((Int × Int) × Int)):=bif Qb t then some (eS t) else none
noncomputable def vh (N:Nat) (x:oe × Int):Option (Int × Int × Int × Int × Int × Int):=
 bif Qb x.1 then (Oj N x.1).bind fun fr=>(Ok N x.1).bind fun op=>(P9 N (da x.1)).bind fun mx=>
  bif Nat.ble fr.length 1000000&&(Nat.ble op.length 1000000&&(Nat.ble (eS x.1).length 1000000&&((eS x.1).all (fun e=>EA (da x.1) e.1.1)&&(x.1.2.all (fun s=>EA (da x.1) s.1)&&(fr.all (fun e=>EA (da x.1) e.1)&&op.all (fun l=>!l.isEmpty&&EA (da x.1) (l.getD 0 (0,0)).1)))))) then some (I7 x.1 x.2 (da x.1) (eS x.1) fr op mx) else none
 else none
section
variable {N:Nat} (hN:hH N)
include hN
theorem EB (t:oe) (y:List Int) (h:yD t=some y):Oa N t=some y:=by
 unfold yD at h
 obtain ⟨h1,h2⟩:=aQ h
 cases h2
 obtain ⟨a,b,c,d⟩:=Co h1
 exact vn hN t (by omega) (by omega)
theorem EC (t:oe) (y:List ((Int × Int) × Int)) (h:yF t=some y):MB N t=some y:=by
 unfold yF at h
 obtain ⟨h1,h2⟩:=aQ h
 cases h2
 obtain ⟨a,b,c,d⟩:=Co h1
 exact vp hN t a b (by omega) d
theorem count_eq (x:oe × Int) (y:Int × Int × Int × Int × Int × Int) (h:vh N x=some y):Ol N x=some y:=by
 unfold vh at h
 obtain ⟨h1,h2⟩:=aQ h
 obtain ⟨a,b,c,d⟩:=Co h1
 obtain ⟨fr,q1,h2⟩:=bind_some h2
 obtain ⟨op,q2,h2⟩:=bind_some h2
 obtain ⟨mx,q3,h2⟩:=bind_some h2
 obtain ⟨h3,h4⟩:=aQ h2
 cases h4
 simp only [Bool.and_eq_true,List.all_eq_true] at h3
 obtain ⟨c1,c2,c3,c4,c5,c6,c7⟩:=h3
 exact Ez hN x.1 x.2 fr op mx q1 q2 q3 a b (by omega) d (Nat.le_of_ble_eq_true c1) (Nat.le_of_ble_eq_true c2) (fun e he=>ta (c4 e he)) (fun s hs=>ta (c5 s hs)) (fun e he=>ta (c6 e he)) (fun l hl=>by
  have:=(c7 l hl).1
  intro e
  subst e
  cases this) (fun l hl=>ta (c7 l hl).2) (by have:=Nat.le_of_ble_eq_true c3; omega)
end
noncomputable def Dm:bV:=⟨(.cons (.agg (.cons (.list 2 (.agg (.cons .str (.cons (.list 2 (.agg (.cons (.int .i64) (.cons (.int .i64) .nil)))) .nil)))) (.cons (.list 5 (.agg (.cons (.int .i64) (.cons (.int .i64) (.cons (.int .i64) (.cons (.int .i64) (.cons .bool .nil))))))) .nil))) .nil),(.list 1 (.int .i64)),yD⟩
theorem Cp {N:Nat} (hN:hH N):aM b8 60 Dm:=aM.swap (Gr N) (fun x y h=>EB hN x y h)
noncomputable def Ca (N:Nat):bV:=⟨(.cons (.agg (.cons (.list 2 (.agg (.cons .str (.cons (.list 2 (.agg (.cons (.int .i64) (.cons (.int .i64) .nil)))) .nil)))) (.cons (.list 5 (.agg (.cons (.int .i64) (.cons (.int .i64) (.cons (.int .i64) (.cons (.int .i64) (.cons .bool .nil))))))) .nil))) (.cons (.int .i64) .nil)),(.agg (.cons (.int .i64) (.cons (.int .i64) (.cons (.int .i64) (.cons (.int .i64) (.cons (.int .i64) (.cons (.int .i64) .nil))))))),vh N⟩
theorem ED {N:Nat} (hN:hH N):aM b8 58 (Ca N):=fun x y h=>M4 N x y (count_eq hN x y h)
noncomputable def I8 (N:Nat) (hN:hH N):uW b8 79:=⟨(.cons (.agg (.cons (.list 2 (.agg (.cons .str (.cons (.list 2 (.agg (.cons (.int .i64) (.cons (.int .i64) .nil)))) .nil)))) (.cons (.list 5 (.agg (.cons (.int .i64) (.cons (.int .i64) (.cons (.int .i64) (.cons (.int .i64) (.cons .bool .nil))))))) .nil))) .nil),PU,yF,fun x y h=>Gt N x y (EC hN x y h)⟩
end Go.Proofs.Ytegoimldbgdeiaa
