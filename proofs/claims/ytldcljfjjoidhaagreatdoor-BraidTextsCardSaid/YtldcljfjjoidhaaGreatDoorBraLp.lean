/- Plain laws: the legs of a net,for the chapter's examples. -/
import Derived.Test.YtldcljfjjoidhaaGreatDoorBraLg
import Derived.Test.YtldcljfjjoidhaaGreatDoorAmKL
import Derived.Test.YtldcljfjjoidhaaGreatDoorAmKK
set_option linter.all false
open Bool renaming and_self→aac
open Int renaming toNat_natCast→aad
open List renaming range→aae, length_map→aaf, map_map→aah
open Nat renaming le_of_ble_eq_true→aag
open Option renaming bind_some→aab
namespace Go.Proofs.YtldcljfjjoidhaaGreatDoor
open Go Go.Am
open List (map)
open Int (toNat)
open Go.IntKind (wrap)
open Go.Am.aP (fits)
set_option maxRecDepth 100000
abbrev K2:EK:=.st (.cons 0 1 false .int (.cons 1 1 false .int .nil))
theorem zz:il K2 (fun k:Int × Int=>AV.agg [AV.int .i64 k.1,AV.int .i64 k.2]) p0 iP:=⟨fun a b=>Sa a b,fun _=>rfl,fun _=>rfl⟩
theorem UQ (a b:Int) (m:List (XA × Int)):gz K2 (AV.agg [AV.int .i64 a,AV.int .i64 b]) (aK (map iP m))=true:=zz.keys (a,b) m
theorem UR (a b:Int) (m:List (XA × Int)):eP K2 (AV.agg [AV.int .i64 a,AV.int .i64 b]) (AV.int .i64 0) (aK (map iP m))=p0 ((getM (a,b) m).getD 0):=zz.getD (a,b) 0 m
theorem EQ (a b v:Int) (m:List (XA × Int)):gH K2 (AV.agg [AV.int .i64 a,AV.int .i64 b]) (p0 v) (aK (map iP m))=aK (map iP (sw (a,b) v m)):=zz.put (a,b) v m
theorem vZ (m:List (XA × Int)):ab (aK (map iP m))=map iP m:=zz.cells m
theorem v7 (m:List (XA × Int)):bg (aK (map iP m))=true:=zz.bg m
theorem US (a b v x:Int) (m:List (XA × Int)):jT (aK (map iP (sw (a,b) v m))) (iG K2 (AV.agg [AV.int .i64 a,AV.int .i64 b]) (aK (map iP m))) (AV.int .i64 x)=aK (map iP (sw (a,b) x m)):=by
 rw [← EQ,zy];exact EQ a b x m
theorem UT (a b v:Int) (m:List (XA × Int)):decide (iG K2 (AV.agg [AV.int .i64 a,AV.int .i64 b]) (aK (map iP m)) < (aK (map iP (sw (a,b) v m))).length)=true:=by
 rw [← EQ];exact decide_eq_true (Nt _ _ _ _)
theorem nn0 (n:Nat):decide (0≤(n:Int))=true:=decide_eq_true (by omega)
theorem Nv (m:List (XA × Int)):(aK (map iP m)).length=m.length:=by rw [zz.ent,aaf]
theorem aa9 (m:List (XA × Int)) {i:Nat} (h:i < m.length):ee (aK (map iP m)) i=(AV.agg [AV.int .i64 m[i].1.1,AV.int .i64 m[i].1.2],p0 m[i].2):=by
 rw [zz.ent,Nu _ m h]
def Ka (m:List (XA × Int)) (a b:Int):List (XA × Int):=sw (a,b) (wrap .i64 ((getM (a,b) m).getD 0+1)) m
theorem UU (a b v:Int) (m:List (XA × Int)):(getM (a,b) (sw (a,b) v m)).getD 0=v:=by rw [EO,if_pos rfl]; rfl
theorem Sb (N:Nat) (y:Int × Int × Int × Int) (m:List (XA × Int)) (hN:3≤N):ay (dR N y) N (0,m)=some (Ka (Ka m y.1 y.2.1) y.2.2.1 y.2.2.2):=by
 have s0:∀ m,dR N y (0,m)=some (.inl (1,Ka m y.1 y.2.1)):=fun m=>by
  have w1:wrap .i64 (0+1)=1:=rfl;have e1:decide ((0:Int) < 2)=true:=rfl;simp only [dR,eh,dy,eY,e1,cond_true,decide_true,vZ,qa,qb,aac,v7,aab,UQ,UR,fn3,dn3,EQ,UU,beq_self_eq_true,nn0,aad,UT,US,w1];rfl
 have s1:∀ m,dR N y (1,m)=some (.inl (2,Ka m y.2.2.1 y.2.2.2)):=fun m=>by
  have w1:wrap .i64 (1+1)=2:=rfl;have e1:decide ((1:Int) < 2)=true:=rfl;have e0:decide ((1:Int)=0)=false:=rfl;simp only [dR,eh,dy,eY,e1,e0,cond_true,cond_false,decide_true,vZ,qa,qb,aac,v7,aab,UQ,UR,fn3,dn3,EQ,UU,beq_self_eq_true,nn0,aad,UT,US,w1];rfl
 have s2:∀ m,dR N y (2,m)=some (.inr m):=fun m=>by
  have e1:decide ((2:Int) < 2)=false:=rfl;simp only [dR,eh,dy,eY,e1,cond_true,cond_false,vZ,qa,qb,aac,v7,aab]
 obtain ⟨k,rfl⟩:∃ k,N=k+3:=⟨N - 3,by omega⟩;rw [bE,s0];simp only [aab,Sum.elim_inl];rw [bE,s1];simp only [aab,Sum.elim_inl];rw [bE,s2];rfl
def aba (b:Int × Int × Int):Int × Int:=(b.1,b.2.1)
def Zc (b:Int × Int × Int):Int × Int:=(wrap .i64 (b.1+b.2.2),wrap .i64 (b.2.1+1))
def abb (m:List (XA × Int)) (b:Int × Int × Int):List (XA × Int):=Ka (Ka m (aba b).1 (aba b).2) (Zc b).1 (Zc b).2
def Hb (l:List XB):List (XA × Int):=l.foldl abb []
theorem qc (l:List XB) {k:Nat} (hk:k < l.length):bD (ah (map de l) k)=l[k]∧fits aV (ah (map de l) k)=true:=by
 rw [gO de l k hk,aaS,aaR]; exact ⟨rfl,rfl⟩
theorem Nw (N:Nat) (l:List XB) (hl:l.length≤1000000) (hN:eE N):ay (kX N l) N (0,[])=some (Hb l):=by
 have key:=jI (rd:=kX N l) l (fun m k=>((k:Int),m)) abb (fun m=>m) (fun _ _=>True) (fun m k hk _=>by
  obtain ⟨a1,a2⟩:=qc l hk;have q:EL N (l[k].1,l[k].2.1,l[k].2.2)=some (l[k].1,l[k].2.1,(Zc l[k]).1,(Zc l[k]).2):=by rw [ID]; rfl
  have r:=Sb N (l[k].1,l[k].2.1,(Zc l[k]).1,(Zc l[k]).2) m (by unfold eE at hN; omega);refine ⟨?_,trivial⟩;simp only [kX,aaf,aad,aX hk,aO hk,a1,a2,aac,cond_true,q,aab,vZ,qa,qb,v7,r,bp (show k < 9223372036854775807 by omega)];rfl) (fun m _=>by
  simp only [kX,aaf,bL,cond_false,vZ,qa,qb,aac,v7,cond_true,aab]) N [] 0 (Nat.zero_le _) (by unfold eE at hN; omega) trivial
 rw [List.drop_zero] at key;exact key
theorem abc (L:List Nat):ba (map J6 (J9 L))=L:=by
 unfold ba J9;rw [aah,aah]
 conv=>rhs; rw [← List.map_id L]
 apply List.map_congr_left;intro n _;show ((n:Int)).toNat=n;exact aad n
theorem abd (L:List Nat):cN L=map J6 (J9 L):=by
 unfold cN J9;rw [aah]; rfl
theorem faZ (L:List Nat):allFit (fits p2) (cN L)=true:=by rw [abd,fa2]
theorem mdZ (L:List Nat):map lD (cN L)=J9 L:=by rw [abd,md2]
def kl (m:List (XA × Int)) (j:Int) (L:List Nat):Int:=((L.countP fun i=>decide ((m.getD i ((0,0),0)).2=j):Nat):Int)
theorem kY (m:List (XA × Int)) (j:Int) {L:List Nat} {i:Nat} (hi:i∈L):kl m j L=kl m j (L.erase i)+if (m.getD i ((0,0),0)).2=j then 1 else 0:=by
 unfold kl;rw [(List.perm_cons_erase hi).countP_eq,List.countP_cons];by_cases h:(m.getD i ((0,0),0)).2=j
 ·rw [decide_eq_true h,if_pos h]; simp
 ·rw [decide_eq_false h,if_neg h]; simp
theorem Nx (m:List (XA × Int)) (j:Int):kl m j []=0:=rfl
abbrev O5:=Int × Int × Int × Int × Int
def CQ (o:O5) (n:Nat):Prop:=0≤o.1∧o.1+n≤1000000∧0≤o.2.1∧o.2.1+n≤1000000∧0≤o.2.2.1∧o.2.2.1+n≤1000000∧0≤o.2.2.2.1∧o.2.2.2.1+n≤1000000∧0≤o.2.2.2.2∧o.2.2.2.2+n≤1000000
theorem IF (N:Nat) (m:List (XA × Int)) (hm:∀ x∈m,0≤x.2∧x.2≤4):∀ (n:Nat) (L:List Nat) (o:O5),L.length < n→(∀ i∈L,i < m.length)→CQ o L.length →
  nf (xn N) n (o.1,o.2.1,o.2.2.1,o.2.2.2.1,o.2.2.2.2,m,(m.length:Int),J9 L)=some (o.1+kl m 0 L,o.2.1+kl m 1 L,o.2.2.1+kl m 2 L,o.2.2.2.1+kl m 3 L,o.2.2.2.2+kl m 4 L,m,(m.length:Int),[])
 |0,L,o,h,_,_=>by omega
 |n+1,L,o,h,hi,ho=>by
  rw [Ha];have ec:decide (m.length=m.length)=true:=decide_eq_true rfl;cases hL:L with
  |nil=>
   have i0:List.isEmpty ([]:List Nat)=true:=rfl;simp only [xn,Nv,aad,ec,cond_true,abc,i0,vZ,qa,qb,faZ,mdZ,aac,v7,aab,Nx,Int.add_zero];rfl
  |cons a L'=>
   rw [← hL];have i0:List.isEmpty L=false:=by rw [hL]; rfl
   simp only [xn,Nv,aad,ec,cond_true,cond_false,abc,i0];refine P2 (by rw [hL]; simp) fun i rr=>?_
   have cm:=hi i rr;have hv:=hm _ (List.getElem_mem cm);have eg:m.getD i ((0,0),0)=m[i]:=by simp [cm]
   have qD:(L.erase i).length=L.length - 1:=List.length_erase_of_mem rr;have nW:0 < L.length:=List.length_pos_of_mem rr;have dl:decide (i < m.length)=true:=decide_eq_true cm;have f86:fits cZ (AV.agg [AV.int .i64 m[i].1.1,AV.int .i64 m[i].1.2])=true:=rfl;have ih:=fun o' (pd:CQ o' (L.erase i).length)=>IF N m hm n (L.erase i) o' (by omega) (fun j hj=>hi j (List.mem_of_mem_erase hj)) pd
   have c0:=kY m 0 rr;have c1:=kY m 1 rr;have c2:=kY m 2 rr;have c3:=kY m 3 rr;have c4:=kY m 4 rr;rw [eg] at c0 c1 c2 c3 c4;obtain ⟨o0,o1,o2,o3,o4⟩:=o;simp only [CQ] at ho ih ⊢;simp only [aa9 m cm,f86,fn3,dn3,aac,cond_true,dl];generalize hvv:m[i].2=v at *;have abe:v=0∨v=1∨v=2∨v=3∨v=4:=by omega
   have w0:wrap .i64 (o0+1)=o0+1:=fA ⟨by omega,by omega⟩;have w1:wrap .i64 (o1+1)=o1+1:=fA ⟨by omega,by omega⟩;have w2:wrap .i64 (o2+1)=o2+1:=fA ⟨by omega,by omega⟩;have w3:wrap .i64 (o3+1)=o3+1:=fA ⟨by omega,by omega⟩;have w4:wrap .i64 (o4+1)=o4+1:=fA ⟨by omega,by omega⟩;have dF:decide False=false:=rfl;have dT:decide True=true:=rfl;rcases abe with rfl|rfl|rfl|rfl|rfl
   all_goals simp only [dF,dT,if_pos,if_neg,ec,cond_true,cond_false,vZ,qa,qb,faZ,mdZ,aac,v7,aab,w0,w1,w2,w3,w4,Int.reduceEq,if_true,if_false,Int.add_zero] at c0 c1 c2 c3 c4 ⊢
   ·rw [ih (o0+1,o1,o2,o3,o4) (by simp only; omega),c0,c1,c2,c3,c4]; simp only; rw [show o0+1+kl m 0 (L.erase i)=o0+(kl m 0 (L.erase i)+1) by omega]
   ·rw [ih (o0,o1+1,o2,o3,o4) (by simp only; omega),c0,c1,c2,c3,c4]; simp only; rw [show o1+1+kl m 1 (L.erase i)=o1+(kl m 1 (L.erase i)+1) by omega]
   ·rw [ih (o0,o1,o2+1,o3,o4) (by simp only; omega),c0,c1,c2,c3,c4]; simp only; rw [show o2+1+kl m 2 (L.erase i)=o2+(kl m 2 (L.erase i)+1) by omega]
   ·rw [ih (o0,o1,o2,o3+1,o4) (by simp only; omega),c0,c1,c2,c3,c4]; simp only; rw [show o3+1+kl m 3 (L.erase i)=o3+(kl m 3 (L.erase i)+1) by omega]
   ·rw [ih (o0,o1,o2,o3,o4+1) (by simp only; omega),c0,c1,c2,c3,c4]; simp only; rw [show o4+1+kl m 4 (L.erase i)=o4+(kl m 4 (L.erase i)+1) by omega]
def abf (l:List XB):O5:=
 let m:=Hb l
 (kl m 0 (aae m.length),kl m 1 (aae m.length),kl m 2 (aae m.length),kl m 3 (aae m.length),kl m 4 (aae m.length))
noncomputable def Ny (N:Nat) (l:List XB):Option (O5 × Int):=(WR N l).bind fun e=>bif (e == 0)&&(Nat.ble l.length 10000&&(Nat.ble (Hb l).length 100000&&(Hb l).all fun x=>decide (0≤x.2)&&decide (x.2≤4))) then some (abf l,0) else none
theorem Sc {N:Nat} (hN:eE N) (l:List XB) (y:O5 × Int) (h:Ny N l=some y):T84 N l=some y:=by
 unfold Ny at h;cases h79:WR N l with
 |none=>rw [h79] at h; cases h
 |some e=>
  rw [h79,aab] at h;obtain ⟨hc,hy⟩:=bA h;cases hy;simp only [Bool.and_eq_true,beq_iff_eq] at hc;obtain ⟨rfl,hl,hm,hv⟩:=hc;have hl:=aag hl;have hm:=aag hm;have hv:∀ x∈Hb l,0≤x.2∧x.2≤4:=fun x hx=>by
   have:=List.all_eq_true.1 hv x hx;rw [Bool.and_eq_true] at this;exact ⟨of_decide_eq_true this.1,of_decide_eq_true this.2⟩
  have r:=Nw N l (by omega) hN;have g0:((0:Int) != 0)=false:=rfl;have m0:ab ([]:List (AV × AV))=[]:=rfl;have x0:bg ([]:List (AV × AV))=true:=rfl;have f0:allFit (fits cC) []=true:=rfl;have k0:map di ([]:List AV)=[]:=rfl;have q:=IF N (Hb l) hv N (aae (Hb l).length) (0,0,0,0,0) (by rw [List.length_range]; unfold eE at hN; omega) (fun i hi=>List.mem_range.1 hi) (by simp only [CQ,List.length_range]; omega);simp only [Int.zero_add] at q;rw [WX];simp only [gA,fX,aac,cond_true,aab,h79,g0,cond_false,m0,x0,f0,k0,r,vZ,qa,qb,v7,Nv,faZ,mdZ,q];rfl
noncomputable def UW (N:Nat):aD:=⟨(e84 N).ps,(e84 N).p,Ny N⟩
theorem Sd {N:Nat} (hN:eE N):ai bG 84 (UW N):=fun x y h=>WT N x y (Sc hN x y h)
theorem ai.toM {m:Int} {g:FuncId} {e:aD} (h:ai bG g e):ai (e8 m) g e:=fun x y hT=>
 aU.more (E:=bG) rfl (fun g cs hg=>by cases (show (none:Option (List AV))=some cs from hg)) (h x y hT)
end Go.Proofs.YtldcljfjjoidhaaGreatDoor
