/- Plain laws: how many points,edges and openings. -/
import Derived.Test.YtegoimldbgdeiaaSeamKA
import Derived.Test.YtegoimldbgdeiaaTrwC
set_option linter.all false
namespace Go.Proofs.Ytegoimldbgdeiaa
open Go Go.Am
set_option maxRecDepth 100000
theorem Ax:gd .int (fun k:Int=>AV.int .i64 k) AV.bool ay:=⟨fun a b=>Db .i64 a b,fun _=>rfl,fun _=>rfl⟩
theorem Kq (a:Int) (m:List (Int × Bool)):b8 .int (AV.int .i64 a) (ab (List.map ay m))=true:=Ax.keys a m
theorem Kr (a:Int) (v:Bool) (m:List (Int × Bool)):b9 .int (AV.int .i64 a) (AV.bool v) (ab (List.map ay m))=ab (List.map ay (fO a v m)):=Ax.put a v m
theorem gL (m:List (Int × Bool)):af (ab (List.map ay m))=List.map ay m:=Ax.cells m
theorem gM (m:List (Int × Bool)):aH (ab (List.map ay m))=true:=Ax.aH m
theorem P4 (m:List (Int × Bool)):(ab (List.map ay m)).length=m.length:=by rw [Ax.Oa,List.length_map]
def qD (l:List Int):List (Int × Bool):=l.map fun x=>(x,true)
theorem GK (l:List Int) (x:Int):fO x true (qD l)=qD (if x∈l then l else l++[x]):=by
 by_cases h:x∈l
 ·rw [if_pos h]
  induction l with
  | nil=>cases h
  | cons y l ih=>
   show fO x true ((y,true) :: qD l)=(y,true) :: qD l
   unfold fO
   by_cases hy:x=y
   ·rw [if_pos hy,hy]
   ·rw [if_neg hy,ih (by rcases List.mem_cons.1 h with h | h; exact absurd h hy; exact h)]
 ·rw [if_neg h]
  have:getM x (qD l)=none:=by unfold qD; rw [Eo,if_neg h]
  rw [Ar this]
  unfold qD
  rw [List.map_append]
  rfl
def eN (pc:List Int) (piece p:Int):Bool:=if piece < 0 then true else pc.getD p.toNat 0 == piece
def yF (i:Nat):Int:=(i:Int)
def mC {α:Type} (pc:List Int) (piece:Int) (key:α→Int) (l:List α) (s:Int):Int:=l.foldl (fun s x=>if eN pc piece (key x)=true then s+1 else s) s
def Co (pc:List Int) (p:Int):Prop:=0≤p∧p < (pc.length:Int)
theorem qE {pc:List Int} {p:Int} (h:Co pc p):∃ k:Nat,p=(k:Int)∧∃ hk:k < pc.length,∀ piece,¬ piece < 0→eN pc piece p=(pc[k] == piece):=by
 obtain ⟨h1,h2⟩:=h
 refine ⟨p.toNat,by omega,by omega,fun piece hp=>?_⟩
 unfold eN
 rw [if_neg hp,List.getD_eq_getElem?_getD,List.getElem?_eq_getElem (show p.toNat < pc.length by omega)]
 rfl
theorem GM {N:Nat} (hN:hZ N) (t:oo) (p n z o u s0:Int) (piece:Int) (pc:List Int) (S:List (Int × Bool)) (pm:List ((Int × Int) × Int)) (c:Nat) (L:List Nat) (hl:t.2.length≤1000000) (hs:0≤s0∧s0≤1000000) (hr:∀ x∈t.2,Co pc (x.1)) :
  a8 (ko N t) N (0,p,s0,n,z,o,u,piece,pc,S,pm,(c:Int),gq L)=some (p,(mC pc piece (fun x=>x.1) t.2 s0),n,z,o,u,piece,pc,S,pm,(c:Int),gq L):=by
 have key:=cS (rd:=ko N t) t.2 (fun (s:Int) k=>((k:Int),p,s,n,z,o,u,piece,pc,S,pm,(c:Int),gq L)) (fun s x=>if eN pc piece (x.1)=true then s+1 else s) (fun s=>(p,s,n,z,o,u,piece,pc,S,pm,(c:Int),gq L)) (fun s k=>0≤s∧s≤s0+(k:Int)) (fun s k hk hP=>by
  obtain ⟨a1,a2⟩:=Gu t.2 hk
  obtain ⟨j,ej,hj,hm⟩:=qE (hr _ (List.getElem_mem hk))
  obtain ⟨b1,b2⟩:=IW pc hj
  have ws:IntKind.wrap .i64 (s+1)=s+1:=mJ ⟨by omega,by omega⟩
  refine ⟨?_,by split <;> omega⟩
  by_cases hp:piece < 0
  ·have em:eN pc piece (t.2[k].1)=true:=by unfold eN; rw [if_pos hp]
   rw [em]
   simp only [ko,List.length_map,aZ hk,aK hk,a1,a2,hp,em,if_true,ws,bW (show k < 9223372036854775807 by omega),jk,jl,gL,gM,dH,dI,cY,cZ,eJ,eK,jm,jn,gr,Int.toNat_natCast,Bool.and_self,Bool.and_true,cond_true,cond_false,Option.bind_some,eq_self,decide_true]
  ·have em:=hm piece hp
   have dp:decide (piece < 0)=false:=decide_eq_false hp
   rw [em]
   skip
   cases hb:(pc[j] == piece)
   ·simp only [ko,List.length_map,aZ hk,aK hk,a1,a2,dp,ej,aK hj,b1,b2,hb,Bool.false_eq_true,if_false,bW (show k < 9223372036854775807 by omega),jk,jl,gL,gM,dH,dI,cY,cZ,eJ,eK,jm,jn,gr,Int.toNat_natCast,Bool.and_self,Bool.and_true,cond_true,cond_false,Option.bind_some,eq_self,decide_true]
   ·simp only [ko,List.length_map,aZ hk,aK hk,a1,a2,dp,ej,aK hj,b1,b2,hb,if_true,ws,bW (show k < 9223372036854775807 by omega),jk,jl,gL,gM,dH,dI,cY,cZ,eJ,eK,jm,jn,gr,Int.toNat_natCast,Bool.and_self,Bool.and_true,cond_true,cond_false,Option.bind_some,eq_self,decide_true]) (fun s _=>by
  simp only [ko,List.length_map,bP,jk,jl,gL,gM,dH,dI,cY,cZ,eJ,eK,jm,jn,gr,Int.toNat_natCast,Bool.and_self,Bool.and_true,cond_true,cond_false,Option.bind_some,eq_self,decide_true]) N s0 0 (Nat.zero_le _) (by unfold hZ at hN; omega) ⟨hs.1,by simp⟩
 rw [List.drop_zero] at key
 exact key
theorem GN {N:Nat} (hN:hZ N) (fr:List (Int × Int)) (p n z o u s0:Int) (piece:Int) (pc:List Int) (S:List (Int × Bool)) (pm:List ((Int × Int) × Int)) (c:Nat) (L:List Nat) (hl:fr.length≤1000000) (hs:0≤s0∧s0≤1000000) (hr:∀ x∈fr,Co pc (x.1)) :
  a8 (kp N fr) N (0,p,s0,n,z,o,u,piece,pc,S,pm,(c:Int),gq L)=some (p,(mC pc piece (fun x=>x.1) fr s0),n,z,o,u,piece,pc,S,pm,(c:Int),gq L):=by
 have key:=cS (rd:=kp N fr) fr (fun (s:Int) k=>((k:Int),p,s,n,z,o,u,piece,pc,S,pm,(c:Int),gq L)) (fun s x=>if eN pc piece (x.1)=true then s+1 else s) (fun s=>(p,s,n,z,o,u,piece,pc,S,pm,(c:Int),gq L)) (fun s k=>0≤s∧s≤s0+(k:Int)) (fun s k hk hP=>by
  obtain ⟨a1,a2⟩:=MH fr hk
  obtain ⟨j,ej,hj,hm⟩:=qE (hr _ (List.getElem_mem hk))
  obtain ⟨b1,b2⟩:=IW pc hj
  have ws:IntKind.wrap .i64 (s+1)=s+1:=mJ ⟨by omega,by omega⟩
  refine ⟨?_,by split <;> omega⟩
  by_cases hp:piece < 0
  ·have em:eN pc piece (fr[k].1)=true:=by unfold eN; rw [if_pos hp]
   rw [em]
   simp only [kp,List.length_map,aZ hk,aK hk,a1,a2,hp,em,if_true,ws,bW (show k < 9223372036854775807 by omega),jk,jl,gL,gM,dH,dI,cY,cZ,eJ,eK,jm,jn,gr,Int.toNat_natCast,Bool.and_self,Bool.and_true,cond_true,cond_false,Option.bind_some,eq_self,decide_true]
  ·have em:=hm piece hp
   have dp:decide (piece < 0)=false:=decide_eq_false hp
   rw [em]
   skip
   cases hb:(pc[j] == piece)
   ·simp only [kp,List.length_map,aZ hk,aK hk,a1,a2,dp,ej,aK hj,b1,b2,hb,Bool.false_eq_true,if_false,bW (show k < 9223372036854775807 by omega),jk,jl,gL,gM,dH,dI,cY,cZ,eJ,eK,jm,jn,gr,Int.toNat_natCast,Bool.and_self,Bool.and_true,cond_true,cond_false,Option.bind_some,eq_self,decide_true]
   ·simp only [kp,List.length_map,aZ hk,aK hk,a1,a2,dp,ej,aK hj,b1,b2,hb,if_true,ws,bW (show k < 9223372036854775807 by omega),jk,jl,gL,gM,dH,dI,cY,cZ,eJ,eK,jm,jn,gr,Int.toNat_natCast,Bool.and_self,Bool.and_true,cond_true,cond_false,Option.bind_some,eq_self,decide_true]) (fun s _=>by
  simp only [kp,List.length_map,bP,jk,jl,gL,gM,dH,dI,cY,cZ,eJ,eK,jm,jn,gr,Int.toNat_natCast,Bool.and_self,Bool.and_true,cond_true,cond_false,Option.bind_some,eq_self,decide_true]) N s0 0 (Nat.zero_le _) (by unfold hZ at hN; omega) ⟨hs.1,by simp⟩
 rw [List.drop_zero] at key
 exact key
theorem Tg (l:List (List (Int × Int))) {k:Nat} (hk:k < l.length):d50 (ak (List.map Di l) k)=l[k]∧ah.fits MS (ak (List.map Di l) k)=true:=by
 rw [gn Di l k hk,S6,S5]; exact ⟨rfl,rfl⟩
theorem Es {N:Nat} (hN:hZ N) (op:List (List (Int × Int))) (cq:∀ x∈op,x≠[]) (p e n z u s0:Int) (piece:Int) (pc:List Int) (S:List (Int × Bool)) (pm:List ((Int × Int) × Int)) (c:Nat) (L:List Nat) (hl:op.length≤1000000) (hs:0≤s0∧s0≤1000000) (hr:∀ x∈op,Co pc ((x.getD 0 (0,0)).1)) :
  a8 (iz N op) N (0,p,e,n,z,s0,u,piece,pc,S,pm,(c:Int),gq L)=some (p,e,n,z,(mC pc piece (fun x=>(x.getD 0 (0,0)).1) op s0),u,piece,pc,S,pm,(c:Int),gq L):=by
 have key:=cS (rd:=iz N op) op (fun (s:Int) k=>((k:Int),p,e,n,z,s,u,piece,pc,S,pm,(c:Int),gq L)) (fun s x=>if eN pc piece ((x.getD 0 (0,0)).1)=true then s+1 else s) (fun s=>(p,e,n,z,s,u,piece,pc,S,pm,(c:Int),gq L)) (fun s k=>0≤s∧s≤s0+(k:Int)) (fun s k hk hP=>by
  obtain ⟨a1,a2⟩:=Tg op hk
  obtain ⟨x0,xt,hx⟩:∃ x0 xt,op[k]=x0 :: xt:=by
   have:=cq _ (List.getElem_mem hk)
   cases h:op[k] with
   | nil=>exact absurd h this
   | cons a b=>exact ⟨a,b,rfl⟩
  have ek:op[k].getD 0 (0,0)=x0:=by rw [hx]; rfl
  have e1:decide ((0:Int)≤0∧0 < (((x0 :: xt).length:Nat):Int))=true:=decide_eq_true ⟨by omega,by rw [List.length_cons]; omega⟩
  have e2:d67 (ak (List.map aN (x0 :: xt)) 0)=x0:=Gi x0
  have e3:ah.fits dT (ak (List.map aN (x0 :: xt)) 0)=true:=Gh x0
  have tz:Int.toNat 0=0:=rfl
  obtain ⟨j,ej,hj,hm⟩:=qE (hr _ (List.getElem_mem hk))
  obtain ⟨b1,b2⟩:=IW pc hj
  have Th:x0.1=(j:Int):=by rw [← ej,ek]
  have ws:IntKind.wrap .i64 (s+1)=s+1:=mJ ⟨by omega,by omega⟩
  refine ⟨?_,by split <;> omega⟩
  by_cases hp:piece < 0
  ·have em:eN pc piece ((op[k].getD 0 (0,0)).1)=true:=by unfold eN; rw [if_pos hp]
   rw [em]
   simp only [iz,List.length_map,aZ hk,aK hk,a1,a2,hx,e1,e2,e3,tz,hp,em,if_true,ws,bW (show k < 9223372036854775807 by omega),jk,jl,gL,gM,dH,dI,cY,cZ,eJ,eK,jm,jn,gr,Int.toNat_natCast,Bool.and_self,Bool.and_true,cond_true,cond_false,Option.bind_some,eq_self,decide_true]
  ·have em:=hm piece hp
   have dp:decide (piece < 0)=false:=decide_eq_false hp
   rw [em]
   skip
   cases hb:(pc[j] == piece)
   ·simp only [iz,List.length_map,aZ hk,aK hk,a1,a2,hx,e1,e2,e3,tz,dp,Th,aK hj,b1,b2,hb,Bool.false_eq_true,if_false,bW (show k < 9223372036854775807 by omega),jk,jl,gL,gM,dH,dI,cY,cZ,eJ,eK,jm,jn,gr,Int.toNat_natCast,Bool.and_self,Bool.and_true,cond_true,cond_false,Option.bind_some,eq_self,decide_true]
   ·simp only [iz,List.length_map,aZ hk,aK hk,a1,a2,hx,e1,e2,e3,tz,dp,Th,aK hj,b1,b2,hb,if_true,ws,bW (show k < 9223372036854775807 by omega),jk,jl,gL,gM,dH,dI,cY,cZ,eJ,eK,jm,jn,gr,Int.toNat_natCast,Bool.and_self,Bool.and_true,cond_true,cond_false,Option.bind_some,eq_self,decide_true]) (fun s _=>by
  simp only [iz,List.length_map,bP,jk,jl,gL,gM,dH,dI,cY,cZ,eJ,eK,jm,jn,gr,Int.toNat_natCast,Bool.and_self,Bool.and_true,cond_true,cond_false,Option.bind_some,eq_self,decide_true]) N s0 0 (Nat.zero_le _) (by unfold hZ at hN; omega) ⟨hs.1,by simp⟩
 rw [List.drop_zero] at key
 exact key
theorem GP {N:Nat} (hN:hZ N) (t:oo) (p e z o u s0:Int) (piece:Int) (pc:List Int) (S:List (Int × Bool)) (pm:List ((Int × Int) × Int)) (c:Nat) (L:List Nat) (hl:(List.range t.1.length).length≤1000000) (hs:0≤s0∧s0≤1000000) (hr:∀ x∈(List.range t.1.length),Co pc (yF x)) :
  a8 (kn N t) N (0,p,e,s0,z,o,u,piece,pc,S,pm,(c:Int),gq L)=some (p,e,(mC pc piece (fun x=>yF x) (List.range t.1.length) s0),z,o,u,piece,pc,S,pm,(c:Int),gq L):=by
 have key:=cS (rd:=kn N t) (List.range t.1.length) (fun (s:Int) k=>((k:Int),p,e,s,z,o,u,piece,pc,S,pm,(c:Int),gq L)) (fun s x=>if eN pc piece (yF x)=true then s+1 else s) (fun s=>(p,e,s,z,o,u,piece,pc,S,pm,(c:Int),gq L)) (fun s k=>0≤s∧s≤s0+(k:Int)) (fun s k hk hP=>by
  have HD:k < t.1.length:=by rw [List.length_range] at hk; exact hk
  obtain ⟨j,ej,hj,hm⟩:=qE (hr _ (List.getElem_mem hk))
  obtain ⟨b1,b2⟩:=IW pc hj
  have ek:(List.range t.1.length)[k]=k:=by simp
  have Th:(k:Int)=(j:Int):=by rw [← ej,ek]; rfl
  have W4:k=j:=by omega
  subst W4
  have ws:IntKind.wrap .i64 (s+1)=s+1:=mJ ⟨by omega,by omega⟩
  refine ⟨?_,by split <;> omega⟩
  by_cases hp:piece < 0
  ·have em:eN pc piece (yF ((List.range t.1.length)[k]))=true:=by unfold eN; rw [if_pos hp]
   rw [em]
   simp only [kn,List.length_map,aZ HD,aK HD,hp,em,if_true,ws,bW (show k < 9223372036854775807 by omega),jk,jl,gL,gM,dH,dI,cY,cZ,eJ,eK,jm,jn,gr,Int.toNat_natCast,Bool.and_self,Bool.and_true,cond_true,cond_false,Option.bind_some,eq_self,decide_true]
  ·have em:=hm piece hp
   have dp:decide (piece < 0)=false:=decide_eq_false hp
   rw [em]
   skip
   cases hb:(pc[k] == piece)
   ·simp only [kn,List.length_map,aZ HD,aK HD,dp,aK hj,b1,b2,hb,Bool.false_eq_true,if_false,bW (show k < 9223372036854775807 by omega),jk,jl,gL,gM,dH,dI,cY,cZ,eJ,eK,jm,jn,gr,Int.toNat_natCast,Bool.and_self,Bool.and_true,cond_true,cond_false,Option.bind_some,eq_self,decide_true]
   ·simp only [kn,List.length_map,aZ HD,aK HD,dp,aK hj,b1,b2,hb,if_true,ws,bW (show k < 9223372036854775807 by omega),jk,jl,gL,gM,dH,dI,cY,cZ,eJ,eK,jm,jn,gr,Int.toNat_natCast,Bool.and_self,Bool.and_true,cond_true,cond_false,Option.bind_some,eq_self,decide_true]) (fun s _=>by
  simp only [kn,List.length_map,List.length_range,bP,jk,jl,gL,gM,dH,dI,cY,cZ,eJ,eK,jm,jn,gr,Int.toNat_natCast,Bool.and_self,Bool.and_true,cond_true,cond_false,Option.bind_some,eq_self,decide_true]) N s0 0 (Nat.zero_le _) (by unfold hZ at hN; omega) ⟨hs.1,by simp⟩
 rw [List.drop_zero] at key
 exact key
end Go.Proofs.Ytegoimldbgdeiaa
namespace Go.Proofs.Ytegoimldbgdeiaa
open Go Go.Am
set_option maxRecDepth 100000
def rG (pc:List Int) (piece:Int) (s:List Int) (e:(Int × Int) × Int):List Int:=if eN pc piece e.1.1=true then (if e.2∈s then s else s++[e.2]) else s
def Ay (pc:List Int) (piece:Int) (pm:List ((Int × Int) × Int)):List Int:=pm.foldl (rG pc piece) []
theorem vy {pc:List Int} {piece:Int} {s:List Int} {e:(Int × Int) × Int} (h:s.Nodup):(rG pc piece s e).Nodup:=by
 unfold rG
 split
 ·split
  ·exact h
  ·rename_i hn
   exact List.nodup_append.2 ⟨h,by simp,fun a ha b hb W5=>hn (by rw [List.mem_singleton] at hb; subst hb; subst W5; exact ha)⟩
 ·exact h
theorem Az {pc:List Int} {piece:Int} {s:List Int} {e:(Int × Int) × Int} {x:Int}:x∈rG pc piece s e↔x∈s∨(eN pc piece e.1.1=true∧e.2=x):=by
 unfold rG
 by_cases h1:eN pc piece e.1.1=true
 ·rw [if_pos h1]
  by_cases h2:e.2∈s
  ·rw [if_pos h2]
   exact ⟨.inl,fun h=>h.elim id fun h=>h.2 ▸ h2⟩
  ·rw [if_neg h2,List.mem_append,List.mem_singleton]
   exact ⟨fun h=>h.elim .inl fun h=>.inr ⟨h1,h.symm⟩,fun h=>h.elim .inl fun h=>.inr h.2.symm⟩
 ·rw [if_neg h1]
  exact ⟨.inl,fun h=>h.elim id fun h=>absurd h.1 h1⟩
theorem Cp (pc:List Int) (piece:Int) (pm:List ((Int × Int) × Int)):(Ay pc piece pm).Nodup∧∀ x,x∈Ay pc piece pm↔∃ e∈pm,eN pc piece e.1.1=true∧e.2=x:=by
 have gen:∀ (pm:List ((Int × Int) × Int)) (s:List Int),s.Nodup→(pm.foldl (rG pc piece) s).Nodup∧∀ x,x∈pm.foldl (rG pc piece) s↔x∈s∨∃ e∈pm,eN pc piece e.1.1=true∧e.2=x:=by
  intro pm
  induction pm with
  | nil=>intro s h; exact ⟨h,fun x=>⟨.inl,fun h=>h.elim id fun ⟨e,he,_⟩=>by cases he⟩⟩
  | cons e pm ih=>
   intro s h
   obtain ⟨h1,h2⟩:=ih (rG pc piece s e) (vy h)
   refine ⟨h1,fun x=>?_⟩
   rw [List.foldl_cons,h2,Az]
   constructor
   ·rintro ((h | h) | ⟨e',Hx,h⟩)
    ·exact .inl h
    ·exact .inr ⟨e,List.mem_cons_self,h⟩
    ·exact .inr ⟨e',List.mem_cons_of_mem _ Hx,h⟩
   ·rintro (h | ⟨e',Hx,h⟩)
    ·exact .inl (.inl h)
    ·rcases List.mem_cons.1 Hx with rfl | Hx
     ·exact .inl (.inr h)
     ·exact .inr ⟨e',Hx,h⟩
 obtain ⟨h1,h2⟩:=gen pm [] List.nodup_nil
 exact ⟨h1,fun x=>by rw [show Ay pc piece pm=pm.foldl (rG pc piece) [] from rfl,h2]; simp⟩
def Jc (t:oo) (piece:Int) (pc:List Int) (pm:List ((Int × Int) × Int)) (fr:List (Int × Int)) (op:List (List (Int × Int))) (mx:Int):Int × Int × Int × Int × Int × Int:=
 let UK:Int:=((Ay pc piece pm).length:Int)
 let UL:=mC pc piece yF (List.range t.1.length) 0
 let UM:=mC pc piece (fun x:Int × Int=>x.1) fr (mC pc piece (fun x:Gy=>x.1) t.2 0)
 (UK,UM,UL,IntKind.wrap .i64 (mx+1),mC pc piece (fun x:List (Int × Int)=>(x.getD 0 (0,0)).1) op 0,IntKind.wrap .i64 (IntKind.wrap .i64 (UK - UM)+UL))
theorem Dj {α:Type} (pc:List Int) (piece:Int) (key:α→Int):∀ (l:List α) (s:Int),s≤mC pc piece key l s∧mC pc piece key l s≤s+(l.length:Int)
 | [],s=>⟨Int.le_refl _,by simp [mC]⟩
 | x :: l,s=>by
  have h:=Dj pc piece key l (if eN pc piece (key x)=true then s+1 else s)
  have e:mC pc piece key (x :: l) s=mC pc piece key l (if eN pc piece (key x)=true then s+1 else s):=rfl
  rw [e,List.length_cons]
  split at h <;> (rename_i hm; simp only [hm,if_true,if_false,Bool.false_eq_true]; omega)
section
variable {N:Nat} (hN:hZ N)
include hN
theorem Dk (t:oo) (piece:Int) (pc:List Int) (pm:List ((Int × Int) × Int)) (fr:List (Int × Int)) (op:List (List (Int × Int))) (mx:Int)
  (hf:Oe N t=some fr) (ho:Of N t=some op) (hx:P3 N pc=some mx) (h1:t.1.length≤1000) (h2:t.2.length≤100000) (h3:fr.length≤1000000) (h4:op.length≤1000000)
  (r0:∀ e∈pm,Co pc e.1.1) (r1:pc.length=t.1.length) (r2:∀ s∈t.2,Co pc s.1) (r3:∀ e∈fr,Co pc e.1) (r4:∀ l∈op,l≠[]) (r5:∀ l∈op,Co pc (l.getD 0 (0,0)).1) (Ti:pm.length≤1000000000) :
  ∀ (n:Nat) (L:List Nat) (s:List Int),L.length < n→L.Nodup→(∀ i∈L,i < pm.length)→s.Nodup→(∀ x,x∈s↔∃ j,∃ hj:j < pm.length,j∉L∧eN pc piece pm[j].1.1=true∧pm[j].2=x) →
   dJ (qC N t) n (piece,pc,qD s,pm,(pm.length:Int),gq L)=some (Jc t piece pc pm fr op mx)
 | 0,L,s,h,_,_,_,_=>by omega
 | n+1,L,s,h,hL,hi,hs,fB=>by
  rw [ki]
  have ec:decide (pm.length=pm.length)=true:=decide_eq_true rfl
  cases xg:L with
  | nil=>
   have i0:List.isEmpty ([]:List Nat)=true:=rfl
   subst xg
   have sl:s.length=(Ay pc piece pm).length:=by
    obtain ⟨d1,d2⟩:=Cp pc piece pm
    refine List.Perm.length_eq ((List.perm_ext_iff_of_nodup hs d1).2 fun x=>?_)
    rw [fB,d2]
    constructor
    ·rintro ⟨j,hj,-,h⟩
     exact ⟨pm[j],List.getElem_mem hj,h⟩
    ·rintro ⟨e,he,h⟩
     obtain ⟨j,hj,rfl⟩:=List.getElem_of_mem he
     exact ⟨j,hj,by simp,h⟩
   have c0:=Dj pc piece (fun x:Gy=>x.1) t.2 0
   have q1:=GP hN t (s.length:Int) 0 0 0 0 0 piece pc (qD s) pm pm.length [] (by rw [List.length_range]; omega) (by omega) (fun x hx=>by
    have:=List.mem_range.1 hx
    unfold Co yF
    omega)
   have q2:=GM hN t (s.length:Int) (mC pc piece yF (List.range t.1.length) 0) 0 0 0 0 piece pc (qD s) pm pm.length [] (by omega) (by omega) r2
   have q3:=GN hN fr (s.length:Int) (mC pc piece yF (List.range t.1.length) 0) 0 0 0 (mC pc piece (fun x:Gy=>x.1) t.2 0) piece pc (qD s) pm pm.length [] h3 (by omega) r3
   have q4:=Es hN op r4 (s.length:Int) (mC pc piece (fun x:Int × Int=>x.1) fr (mC pc piece (fun x:Gy=>x.1) t.2 0)) (mC pc piece yF (List.range t.1.length) 0) 0 0 0 piece pc (qD s) pm pm.length [] h4 (by omega) r5
   have Pl:(qD s).length=s.length:=by unfold qD; rw [List.length_map]
   have ht:Oe N (t.1,t.2)=some fr:=hf
   have W6:Of N (t.1,t.2)=some op:=ho
   simp only [qC,yC,Int.toNat_natCast,ec,cond_true,gr,i0,P4,Pl,jk,jl,gL,gM,dH,dI,cY,cZ,eJ,eK,jm,jn,dj,dm,dh,di,Bool.and_self,Bool.and_true,Option.bind_some,q1,q2,ht,q3,W6,q4,hx]
   rw [sl]
   rfl
  | cons a L'=>
   rw [← xg]
   have i0:List.isEmpty L=false:=by rw [xg]; rfl
   simp only [qC,yC,Int.toNat_natCast,ec,cond_true,cond_false,gr,i0]
   refine qo (by rw [xg]; simp) fun i Tj=>?_
   have bK:=hi i Tj
   have nV:(L.erase i).length=L.length - 1:=List.length_erase_of_mem Tj
   have mb:0 < L.length:=List.length_pos_of_mem Tj
   have dl:decide (i < pm.length)=true:=decide_eq_true bK
   have ih:=fun s' (qT:s'.Nodup) O4=>Dk t piece pc pm fr op mx hf ho hx h1 h2 h3 h4 r0 r1 r2 r3 r4 r5 Ti n (L.erase i) s' (by omega) (hL.erase i) (fun j hj=>hi j (List.mem_of_mem_erase hj)) qT O4
   have W7:∀ x,(x∈rG pc piece s pm[i])↔∃ j,∃ hj:j < pm.length,j∉L.erase i∧eN pc piece pm[j].1.1=true∧pm[j].2=x:=fun x=>by
    rw [Az,fB]
    constructor
    ·rintro (⟨j,hj,Cj,h⟩ | h)
     ·exact ⟨j,hj,fun hm=>Cj (List.mem_of_mem_erase hm),h⟩
     ·exact ⟨i,bK,fun hm=>((List.Nodup.mem_erase_iff hL).1 hm).1 rfl,h⟩
    ·rintro ⟨j,hj,Cj,h⟩
     by_cases UN:j=i
     ·subst UN; exact .inr h
     ·exact .inl ⟨j,hj,fun hm=>Cj ((List.Nodup.mem_erase_iff hL).2 ⟨UN,hm⟩),h⟩
   have HE:=ih (rG pc piece s pm[i]) (vy hs) W7
   obtain ⟨j,ej,hj,hm⟩:=qE (r0 pm[i] (List.getElem_mem bK))
   obtain ⟨b1,b2⟩:=IW pc hj
   rw [MG pm bK]
   simp only [Gh,Gi,Cg,Ch,Bool.and_self,cond_true,dl,ec]
   have sp:=GK s pm[i].2
   by_cases hp:piece < 0
   ·have em:eN pc piece pm[i].1.1=true:=by unfold eN; rw [if_pos hp]
    unfold rG at HE
    rw [if_pos em] at HE
    simp only [hp,decide_true,jk,jl,gL,gM,dH,dI,cY,cZ,eJ,eK,jm,jn,gr,Int.toNat_natCast,Bool.and_self,Bool.and_true,cond_true,Option.bind_some,Kq,Kr,sp]
    exact HE
   ·have em:=hm piece hp
    have dp:decide (piece < 0)=false:=decide_eq_false hp
    unfold rG at HE
    rw [em] at HE
    cases hb:(pc[j] == piece)
    ·rw [hb] at HE
     rw [if_neg (by decide)] at HE
     simp only [List.length_map,eq_self,decide_true,dp,ej,aK hj,b1,b2,hb,jk,jl,gL,gM,dH,dI,cY,cZ,eJ,eK,jm,jn,gr,Int.toNat_natCast,Bool.and_self,Bool.and_true,cond_true,cond_false,Option.bind_some]
     exact HE
    ·rw [hb,if_pos rfl] at HE
     simp only [List.length_map,eq_self,decide_true,dp,ej,aK hj,b1,b2,hb,jk,jl,gL,gM,dH,dI,cY,cZ,eJ,eK,jm,jn,gr,Int.toNat_natCast,Bool.and_self,Bool.and_true,cond_true,cond_false,Option.bind_some,Kq,Kr,sp]
     exact HE
theorem Et (t:oo) (piece:Int) (fr:List (Int × Int)) (op:List (List (Int × Int))) (mx:Int)
  (hf:Oe N t=some fr) (ho:Of N t=some op) (hx:P3 N (da t)=some mx) (h1:t.1.length≤1000) (hs:∀ x∈t.1,x.2.length≤1000) (h2:t.2.length≤100000) (hk:∀ s∈t.2,MP t s=true) (h3:fr.length≤1000000) (h4:op.length≤1000000)
  (r0:∀ e∈eV t,Co (da t) e.1.1) (r2:∀ s∈t.2,Co (da t) s.1) (r3:∀ e∈fr,Co (da t) e.1) (r4:∀ l∈op,l≠[]) (r5:∀ l∈op,Co (da t) (l.getD 0 (0,0)).1) (Ti:(eV t).length≤1000000000) :
  Og N (t,piece)=some (Jc t piece (da t) (eV t) fr op mx):=by
 have q1:N4 N (t.1,t.2)=some (da t):=vu hN t (by omega) (by omega)
 have q2:MA N (t.1,t.2)=some (eV t):=vw hN t h1 hs h2 hk
 have r1:(da t).length=t.1.length:=by unfold da; simp only [List.length_map,kl]
 have q:=Dk hN t piece (da t) (eV t) fr op mx hf ho hx h1 h2 h3 h4 r0 r1 r2 r3 r4 r5 Ti N (List.range (eV t).length) [] (by rw [List.length_range]; unfold hZ at hN; omega) List.nodup_range (fun i hi=>List.mem_range.1 hi) List.nodup_nil (fun x=>by
  constructor
  ·intro h; cases h
  ·rintro ⟨j,hj,Cj,-⟩
   exact absurd (List.mem_range.2 hj) Cj)
 have q:dJ (qC N t) N (piece,da t,[],eV t,((eV t).length:Int),gq (List.range (eV t).length))=some (Jc t piece (da t) (eV t) fr op mx):=q
 have f0:allFit (ah.fits cD) ([]:List AV)=true:=rfl
 have m0:List.map cT ([]:List AV)=[]:=rfl
 rw [show Og N (t,piece)=Og N ((t.1,t.2),piece) from rfl,M5]
 simp only [dj,dm,dh,di,Bool.and_self,Bool.and_true,cond_true,Option.bind_some,q1,q2,jk,jl,S1,f0,m0,S2,dH,cY,cZ,dI,yC,jm,jn]
 exact q
end
end Go.Proofs.Ytegoimldbgdeiaa
namespace Go.Proofs.Ytegoimldbgdeiaa
open Go Go.Am
set_option maxRecDepth 100000
theorem aO.swap {E:Env} {g:FuncId} {ps:aC} {p:ah} {T T':ps.T→Option p.T} (h:aO E g ⟨ps,p,T⟩) (hT:∀ x y,T' x=some y→T x=some y):aO E g ⟨ps,p,T'⟩:=fun x y hh=>h x y (hT x y hh)
def P5 (t:oo):Bool:=Nat.ble t.1.length 1000&&(t.1.all fun x=>Nat.ble x.2.length 1000)&&Nat.ble t.2.length 1000&&t.2.all (MP t)
theorem Cq {t:oo} (h:P5 t=true):t.1.length≤1000∧(∀ x∈t.1,x.2.length≤1000)∧t.2.length≤1000∧∀ s∈t.2,MP t s=true:=by
 unfold P5 at h
 simp only [Bool.and_eq_true,List.all_eq_true] at h
 exact ⟨Nat.le_of_ble_eq_true h.1.1.1,fun x hx=>Nat.le_of_ble_eq_true (h.1.1.2 x hx),Nat.le_of_ble_eq_true h.1.2,h.2⟩
def Eu (pc:List Int) (p:Int):Bool:=decide (0≤p)&&decide (p < (pc.length:Int))
theorem th {pc:List Int} {p:Int} (h:Eu pc p=true):Co pc p:=by
 unfold Eu at h
 simp only [Bool.and_eq_true,decide_eq_true_eq] at h
 exact h
def yG (t:oo):Option (List Int):=bif P5 t then some (da t) else none
def yH (t:oo):Option (List ((Int × Int) × Int)):=bif P5 t then some (eV t) else none
noncomputable def vn (N:Nat) (x:oo × Int):Option (Int × Int × Int × Int × Int × Int):=
 bif P5 x.1 then (Oe N x.1).bind fun fr=>(Of N x.1).bind fun op=>(P3 N (da x.1)).bind fun mx=>
  bif Nat.ble fr.length 1000000&&(Nat.ble op.length 1000000&&(Nat.ble (eV x.1).length 1000000&&((eV x.1).all (fun e=>Eu (da x.1) e.1.1)&&(x.1.2.all (fun s=>Eu (da x.1) s.1)&&(fr.all (fun e=>Eu (da x.1) e.1)&&op.all (fun l=>!l.isEmpty&&Eu (da x.1) (l.getD 0 (0,0)).1)))))) then some (Jc x.1 x.2 (da x.1) (eV x.1) fr op mx) else none
 else none
section
variable {N:Nat} (hN:hZ N)
include hN
theorem Ev (t:oo) (y:List Int) (h:yG t=some y):N4 N t=some y:=by
 unfold yG at h
 obtain ⟨h1,h2⟩:=aQ h
 cases h2
 obtain ⟨a,b,c,d⟩:=Cq h1
 exact vu hN t (by omega) (by omega)
theorem Ew (t:oo) (y:List ((Int × Int) × Int)) (h:yH t=some y):MA N t=some y:=by
 unfold yH at h
 obtain ⟨h1,h2⟩:=aQ h
 cases h2
 obtain ⟨a,b,c,d⟩:=Cq h1
 exact vw hN t a b (by omega) d
theorem count_eq (x:oo × Int) (y:Int × Int × Int × Int × Int × Int) (h:vn N x=some y):Og N x=some y:=by
 unfold vn at h
 obtain ⟨h1,h2⟩:=aQ h
 obtain ⟨a,b,c,d⟩:=Cq h1
 obtain ⟨fr,q1,h2⟩:=bind_some h2
 obtain ⟨op,q2,h2⟩:=bind_some h2
 obtain ⟨mx,q3,h2⟩:=bind_some h2
 obtain ⟨h3,h4⟩:=aQ h2
 cases h4
 simp only [Bool.and_eq_true,List.all_eq_true] at h3
 obtain ⟨c1,c2,c3,c4,c5,c6,c7⟩:=h3
 exact Et hN x.1 x.2 fr op mx q1 q2 q3 a b (by omega) d (Nat.le_of_ble_eq_true c1) (Nat.le_of_ble_eq_true c2) (fun e he=>th (c4 e he)) (fun s hs=>th (c5 s hs)) (fun e he=>th (c6 e he)) (fun l hl=>by
  have:=(c7 l hl).1
  intro e
  subst e
  cases this) (fun l hl=>th (c7 l hl).2) (by have:=Nat.le_of_ble_eq_true c3; omega)
end
noncomputable def Dl:bS:=⟨(.cons (.agg (.cons (.list 2 (.agg (.cons .str (.cons (.list 2 (.agg (.cons (.int .i64) (.cons (.int .i64) .nil)))) .nil)))) (.cons (.list 5 (.agg (.cons (.int .i64) (.cons (.int .i64) (.cons (.int .i64) (.cons (.int .i64) (.cons .bool .nil))))))) .nil))) .nil),(.list 1 (.int .i64)),yG⟩
theorem Cr {N:Nat} (hN:hZ N):aO cj 60 Dl:=aO.swap (Gq N) (fun x y h=>Ev hN x y h)
noncomputable def Cf (N:Nat):bS:=⟨(.cons (.agg (.cons (.list 2 (.agg (.cons .str (.cons (.list 2 (.agg (.cons (.int .i64) (.cons (.int .i64) .nil)))) .nil)))) (.cons (.list 5 (.agg (.cons (.int .i64) (.cons (.int .i64) (.cons (.int .i64) (.cons (.int .i64) (.cons .bool .nil))))))) .nil))) (.cons (.int .i64) .nil)),(.agg (.cons (.int .i64) (.cons (.int .i64) (.cons (.int .i64) (.cons (.int .i64) (.cons (.int .i64) (.cons (.int .i64) .nil))))))),vn N⟩
theorem Ex {N:Nat} (hN:hZ N):aO cj 58 (Cf N):=fun x y h=>M4 N x y (count_eq hN x y h)
noncomputable def Jd (N:Nat) (hN:hZ N):va cj 79:=⟨(.cons (.agg (.cons (.list 2 (.agg (.cons .str (.cons (.list 2 (.agg (.cons (.int .i64) (.cons (.int .i64) .nil)))) .nil)))) (.cons (.list 5 (.agg (.cons (.int .i64) (.cons (.int .i64) (.cons (.int .i64) (.cons (.int .i64) (.cons .bool .nil))))))) .nil))) .nil),PN,yH,fun x y h=>Gr N x y (Ew hN x y h)⟩
end Go.Proofs.Ytegoimldbgdeiaa
