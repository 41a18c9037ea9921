/- Plain laws: the legs of a net,for the chapter's examples. -/
import Derived.Test.YtldcljfjjoidhaaGreatDoorBraLg
import Derived.Test.YtldcljfjjoidhaaGreatDoorAmKL
import Derived.Test.YtldcljfjjoidhaaGreatDoorAmKK
set_option linter.all false
open Bool renaming and_self→aao
open Int renaming toNat_natCast→aau
open List renaming range→aaB, length_map→aaO, map_map→abi
open Nat renaming le_of_ble_eq_true→aaY
open Option renaming bind_some→aad
namespace Go.Proofs.YtldcljfjjoidhaaGreatDoor
open Go Go.Am
open List (map)
open Int (toNat)
open Go.IntKind (wrap)
open Go.Am.aO (fits)
set_option maxRecDepth 100000
abbrev K2:EK:=.st (.cons 0 1 false .int (.cons 1 1 false .int .nil))
theorem AM:jl K2 (fun k:Int × Int=>AV.agg [AV.int .i64 k.1,AV.int .i64 k.2]) lS jR:=⟨fun a b=>Ux a b,fun _=>rfl,fun _=>rfl⟩
theorem Xe (a b:Int) (m:List (XA × Int)):fI K2 (AV.agg [AV.int .i64 a,AV.int .i64 b]) (ar (map jR m))=true:=AM.keys (a,b) m
theorem Xf (a b:Int) (m:List (XA × Int)):dV K2 (AV.agg [AV.int .i64 a,AV.int .i64 b]) (AV.int .i64 0) (ar (map jR m))=lS ((getM (a,b) m).getD 0):=AM.getD (a,b) 0 m
theorem Gn (a b v:Int) (m:List (XA × Int)):fJ K2 (AV.agg [AV.int .i64 a,AV.int .i64 b]) (lS v) (ar (map jR m))=ar (map jR (qe (a,b) v m)):=AM.put (a,b) v m
theorem xr (m:List (XA × Int)):ah (ar (map jR m))=map jR m:=AM.cells m
theorem xu (m:List (XA × Int)):dP (ar (map jR m))=true:=AM.dP m
theorem Xg (a b v x:Int) (m:List (XA × Int)):k9 (ar (map jR (qe (a,b) v m))) (jE K2 (AV.agg [AV.int .i64 a,AV.int .i64 b]) (ar (map jR m))) (AV.int .i64 x)=ar (map jR (qe (a,b) x m)):=by
 rw [← Gn,AL];exact Gn a b x m
theorem Xh (a b v:Int) (m:List (XA × Int)):decide (jE K2 (AV.agg [AV.int .i64 a,AV.int .i64 b]) (ar (map jR m)) < (ar (map jR (qe (a,b) v m))).length)=true:=by
 rw [← Gn];exact decide_eq_true (O3 _ _ _ _)
theorem nn0 (n:Nat):decide (0≤(n:Int))=true:=decide_eq_true (by omega)
theorem O6 (m:List (XA × Int)):(ar (map jR m)).length=m.length:=by rw [AM.ent,aaO]
theorem adH (m:List (XA × Int)) {i:Nat} (h:i < m.length):fu (ar (map jR m)) i=(AV.agg [AV.int .i64 m[i].1.1,AV.int .i64 m[i].1.2],lS m[i].2):=by
 rw [AM.ent,O4 _ m h]
def tq (m:List (XA × Int)) (a b:Int):List (XA × Int):=qe (a,b) (wrap .i64 ((getM (a,b) m).getD 0+1)) m
theorem Xi (a b v:Int) (m:List (XA × Int)):(getM (a,b) (qe (a,b) v m)).getD 0=v:=by rw [AK,if_pos rfl]; rfl
theorem Uy (N:Nat) (y:Int × Int × Int × Int) (m:List (XA × Int)) (hN:3≤N):az (fh N y) N (0,m)=some (tq (tq m y.1 y.2.1) y.2.2.1 y.2.2.2):=by
 have s0:∀ m,fh N y (0,m)=some (.inl (1,tq m y.1 y.2.1)):=fun m=>by
  have w1:wrap .i64 (0+1)=1:=rfl;have e1:decide ((0:Int) < 2)=true:=rfl;simp only [fh,fx,dZ,gf,e1,cond_true,decide_true,xr,qZ,q8,aao,xu,aad,Xe,Xf,fn3,dn3,Gn,Xi,beq_self_eq_true,nn0,aau,Xh,Xg,w1];rfl
 have s1:∀ m,fh N y (1,m)=some (.inl (2,tq m y.2.2.1 y.2.2.2)):=fun m=>by
  have w1:wrap .i64 (1+1)=2:=rfl;have e1:decide ((1:Int) < 2)=true:=rfl;have e0:decide ((1:Int)=0)=false:=rfl;simp only [fh,fx,dZ,gf,e1,e0,cond_true,cond_false,decide_true,xr,qZ,q8,aao,xu,aad,Xe,Xf,fn3,dn3,Gn,Xi,beq_self_eq_true,nn0,aau,Xh,Xg,w1];rfl
 have s2:∀ m,fh N y (2,m)=some (.inr m):=fun m=>by
  have e1:decide ((2:Int) < 2)=false:=rfl;simp only [fh,fx,dZ,gf,e1,cond_true,cond_false,xr,qZ,q8,aao,xu,aad]
 obtain ⟨k,rfl⟩:∃ k,N=k+3:=⟨N - 3,by omega⟩;rw [aX,s0];simp only [aad,Sum.elim_inl];rw [aX,s1];simp only [aad,Sum.elim_inl];rw [aX,s2];rfl
def tu (b:Int × Int × Int):Int × Int:=(b.1,b.2.1)
def J9 (b:Int × Int × Int):Int × Int:=(wrap .i64 (b.1+b.2.2),wrap .i64 (b.2.1+1))
def AN (m:List (XA × Int)) (b:Int × Int × Int):List (XA × Int):=tq (tq m (tu b).1 (tu b).2) (J9 b).1 (J9 b).2
def mS (l:List XB):List (XA × Int):=l.foldl AN []
theorem gl (l:List XB) {k:Nat} (hk:k < l.length):aB (ae (map cC l) k)=l[k]∧fits aA (ae (map cC l) k)=true:=by
 rw [gd cC l k hk,adw,adv]; exact ⟨rfl,rfl⟩
theorem O7 (N:Nat) (l:List XB) (hl:l.length≤1000000) (hN:fC N):az (mB N l) N (0,[])=some (mS l):=by
 have key:=kL (rd:=mB N l) l (fun m k=>((k:Int),m)) AN (fun m=>m) (fun _ _=>True) (fun m k hk _=>by
  obtain ⟨a1,a2⟩:=gl l hk;have q:Gl N (l[k].1,l[k].2.1,l[k].2.2)=some (l[k].1,l[k].2.1,(J9 l[k]).1,(J9 l[k]).2):=by rw [J7]; rfl
  have r:=Uy N (l[k].1,l[k].2.1,(J9 l[k]).1,(J9 l[k]).2) m (by unfold fC at hN; omega);refine ⟨?_,trivial⟩;simp only [mB,aaO,aau,a7 hk,ay hk,a1,a2,aao,cond_true,q,aad,xr,qZ,q8,xu,r,bw (show k < 9223372036854775807 by omega)];rfl) (fun m _=>by
  simp only [mB,aaO,bO,cond_false,xr,qZ,q8,aao,xu,cond_true,aad]) N [] 0 (Nat.zero_le _) (by unfold fC at hN; omega) trivial
 rw [List.drop_zero] at key;exact key
theorem adI (L:List Nat):bc (map IQ (LQ L))=L:=by
 unfold bc LQ;rw [abi,abi]
 conv=>rhs; rw [← List.map_id L]
 apply List.map_congr_left;intro n _;show ((n:Int)).toNat=n;exact aau n
theorem adJ (L:List Nat):c7 L=map IQ (LQ L):=by
 unfold c7 LQ;rw [abi]; rfl
theorem faZ (L:List Nat):allFit (fits p2) (c7 L)=true:=by rw [adJ,fa2]
theorem mdZ (L:List Nat):map kW (c7 L)=LQ L:=by rw [adJ,md2]
def jZ (m:List (XA × Int)) (j:Int) (L:List Nat):Int:=((L.countP fun i=>decide ((m.getD i ((0,0),0)).2=j):Nat):Int)
theorem mC (m:List (XA × Int)) (j:Int) {L:List Nat} {i:Nat} (hi:i∈L):jZ m j L=jZ m j (L.erase i)+if (m.getD i ((0,0),0)).2=j then 1 else 0:=by
 unfold jZ;rw [(List.perm_cons_erase hi).countP_eq,List.countP_cons];by_cases h:(m.getD i ((0,0),0)).2=j
 ·rw [decide_eq_true h,if_pos h]; simp
 ·rw [decide_eq_false h,if_neg h]; simp
theorem O8 (m:List (XA × Int)) (j:Int):jZ m j []=0:=rfl
abbrev O5:=Int × Int × Int × Int × Int
def Er (o:O5) (n:Nat):Prop:=0≤o.1∧o.1+n≤1000000∧0≤o.2.1∧o.2.1+n≤1000000∧0≤o.2.2.1∧o.2.2.1+n≤1000000∧0≤o.2.2.2.1∧o.2.2.2.1+n≤1000000∧0≤o.2.2.2.2∧o.2.2.2.2+n≤1000000
theorem Ka (N:Nat) (m:List (XA × Int)) (hm:∀ x∈m,0≤x.2∧x.2≤4):∀ (n:Nat) (L:List Nat) (o:O5),L.length < n→(∀ i∈L,i < m.length)→Er o L.length →
  oA (yI N) n (o.1,o.2.1,o.2.2.1,o.2.2.2.1,o.2.2.2.2,m,(m.length:Int),LQ L)=some (o.1+jZ m 0 L,o.2.1+jZ m 1 L,o.2.2.1+jZ m 2 L,o.2.2.2.1+jZ m 3 L,o.2.2.2.2+jZ m 4 L,m,(m.length:Int),[])
 |0,L,o,h,_,_=>by omega
 |n+1,L,o,h,hi,ho=>by
  rw [IS];have ec:decide (m.length=m.length)=true:=decide_eq_true rfl;cases hL:L with
  |nil=>
   have i0:List.isEmpty ([]:List Nat)=true:=rfl;simp only [yI,O6,aau,ec,cond_true,adI,i0,xr,qZ,q8,faZ,mdZ,aao,xu,aad,O8,Int.add_zero];rfl
  |cons a L'=>
   rw [← hL];have i0:List.isEmpty L=false:=by rw [hL]; rfl
   simp only [yI,O6,aau,ec,cond_true,cond_false,adI,i0];refine Su (by rw [hL]; simp) fun i sr=>?_
   have bY:=hi i sr;have hv:=hm _ (List.getElem_mem bY);have eg:m.getD i ((0,0),0)=m[i]:=by simp [bY]
   have rH:(L.erase i).length=L.length - 1:=List.length_erase_of_mem sr;have nH:0 < L.length:=List.length_pos_of_mem sr;have dl:decide (i < m.length)=true:=decide_eq_true bY;have f86:fits gk (AV.agg [AV.int .i64 m[i].1.1,AV.int .i64 m[i].1.2])=true:=rfl;have ih:=fun o' (pf:Er o' (L.erase i).length)=>Ka N m hm n (L.erase i) o' (by omega) (fun j hj=>hi j (List.mem_of_mem_erase hj)) pf
   have c0:=mC m 0 sr;have c1:=mC m 1 sr;have c2:=mC m 2 sr;have c3:=mC m 3 sr;have c4:=mC m 4 sr;rw [eg] at c0 c1 c2 c3 c4;obtain ⟨o0,o1,o2,o3,o4⟩:=o;simp only [Er] at ho ih ⊢;simp only [adH m bY,f86,fn3,dn3,aao,cond_true,dl];generalize hvv:m[i].2=v at *;have adK:v=0∨v=1∨v=2∨v=3∨v=4:=by omega
   have w0:wrap .i64 (o0+1)=o0+1:=fT ⟨by omega,by omega⟩;have w1:wrap .i64 (o1+1)=o1+1:=fT ⟨by omega,by omega⟩;have w2:wrap .i64 (o2+1)=o2+1:=fT ⟨by omega,by omega⟩;have w3:wrap .i64 (o3+1)=o3+1:=fT ⟨by omega,by omega⟩;have w4:wrap .i64 (o4+1)=o4+1:=fT ⟨by omega,by omega⟩;have dF:decide False=false:=rfl;have dT:decide True=true:=rfl;rcases adK with rfl|rfl|rfl|rfl|rfl
   all_goals simp only [dF,dT,if_pos,if_neg,ec,cond_true,cond_false,xr,qZ,q8,faZ,mdZ,aao,xu,aad,w0,w1,w2,w3,w4,Int.reduceEq,if_true,if_false,Int.add_zero] at c0 c1 c2 c3 c4 ⊢
   ·rw [ih (o0+1,o1,o2,o3,o4) (by simp only; omega),c0,c1,c2,c3,c4]; simp only; rw [show o0+1+jZ m 0 (L.erase i)=o0+(jZ m 0 (L.erase i)+1) by omega]
   ·rw [ih (o0,o1+1,o2,o3,o4) (by simp only; omega),c0,c1,c2,c3,c4]; simp only; rw [show o1+1+jZ m 1 (L.erase i)=o1+(jZ m 1 (L.erase i)+1) by omega]
   ·rw [ih (o0,o1,o2+1,o3,o4) (by simp only; omega),c0,c1,c2,c3,c4]; simp only; rw [show o2+1+jZ m 2 (L.erase i)=o2+(jZ m 2 (L.erase i)+1) by omega]
   ·rw [ih (o0,o1,o2,o3+1,o4) (by simp only; omega),c0,c1,c2,c3,c4]; simp only; rw [show o3+1+jZ m 3 (L.erase i)=o3+(jZ m 3 (L.erase i)+1) by omega]
   ·rw [ih (o0,o1,o2,o3,o4+1) (by simp only; omega),c0,c1,c2,c3,c4]; simp only; rw [show o4+1+jZ m 4 (L.erase i)=o4+(jZ m 4 (L.erase i)+1) by omega]
def CW (l:List XB):O5:=
 let m:=mS l
 (jZ m 0 (aaB m.length),jZ m 1 (aaB m.length),jZ m 2 (aaB m.length),jZ m 3 (aaB m.length),jZ m 4 (aaB m.length))
noncomputable def Kb (N:Nat) (l:List XB):Option (O5 × Int):=(Uu N l).bind fun e=>bif (e == 0)&&(Nat.ble l.length 10000&&(Nat.ble (mS l).length 100000&&(mS l).all fun x=>decide (0≤x.2)&&decide (x.2≤4))) then some (CW l,0) else none
theorem Kc {N:Nat} (hN:fC N) (l:List XB) (y:O5 × Int) (h:Kb N l=some y):T84 N l=some y:=by
 unfold Kb at h;cases h79:Uu N l with
 |none=>rw [h79] at h; cases h
 |some e=>
  rw [h79,aad] at h;obtain ⟨hc,hy⟩:=bt h;cases hy;simp only [Bool.and_eq_true,beq_iff_eq] at hc;obtain ⟨rfl,hl,hm,hv⟩:=hc;have hl:=aaY hl;have hm:=aaY hm;have hv:∀ x∈mS l,0≤x.2∧x.2≤4:=fun x hx=>by
   have:=List.all_eq_true.1 hv x hx;rw [Bool.and_eq_true] at this;exact ⟨of_decide_eq_true this.1,of_decide_eq_true this.2⟩
  have r:=O7 N l (by omega) hN;have g0:((0:Int) != 0)=false:=rfl;have m0:ah ([]:List (AV × AV))=[]:=rfl;have x0:dP ([]:List (AV × AV))=true:=rfl;have f0:allFit (fits cH) []=true:=rfl;have k0:map dN ([]:List AV)=[]:=rfl;have q:=Ka N (mS l) hv N (aaB (mS l).length) (0,0,0,0,0) (by rw [List.length_range]; unfold fC at hN; omega) (fun i hi=>List.mem_range.1 hi) (by simp only [Er,List.length_range]; omega);simp only [Int.zero_add] at q;rw [Zs];simp only [cq,b9,aao,cond_true,aad,h79,g0,cond_false,m0,x0,f0,k0,r,xr,qZ,q8,xu,O6,faZ,mdZ,q];rfl
noncomputable def Xj (N:Nat):aR:=⟨(e84 N).ps,(e84 N).p,Kb N⟩
theorem Uz {N:Nat} (hN:fC N):aj bH 84 (Xj N):=fun x y h=>O1 N x y (Kc hN x y h)
theorem aj.toM {m:Int} {g:FuncId} {e:aR} (h:aj bH g e):aj (gT m) g e:=fun x y hT=>
 a6.more (E:=bH) rfl (fun g cs hg=>by cases (show (none:Option (List AV))=some cs from hg)) (h x y hT)
end Go.Proofs.YtldcljfjjoidhaaGreatDoor
