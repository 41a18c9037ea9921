/- Plain laws: the legs of a net,for the chapter's examples. -/
import Derived.Test.YtldcljfjjoidhaaGreatDoorBraLg
import Derived.Test.YtldcljfjjoidhaaGreatDoorAmKL
import Derived.Test.YtldcljfjjoidhaaGreatDoorAmKK
set_option linter.all false
namespace Go.Proofs.YtldcljfjjoidhaaGreatDoor
open Go Go.Am
open List (map)
open Int (toNat)
open Go.IntKind (wrap)
open Go.Am.aT (fits)
set_option maxRecDepth 100000
abbrev K2:EK:=.st (.cons 0 1 false .int (.cons 1 1 false .int .nil))
theorem xD:gz K2 (fun k:Int × Int=>AV.agg [AV.int .i64 k.1,AV.int .i64 k.2]) eP ar:=⟨fun a b=>GG a b,fun _=>rfl,fun _=>rfl⟩
theorem Sv (a b:Int) (m:List (XA × Int)):e7 K2 (AV.agg [AV.int .i64 a,AV.int .i64 b]) (ab (map ar m))=true:=xD.keys (a,b) m
theorem Sw (a b:Int) (m:List (XA × Int)):cC K2 (AV.agg [AV.int .i64 a,AV.int .i64 b]) (AV.int .i64 0) (ab (map ar m))=eP ((getM (a,b) m).getD 0):=xD.getD (a,b) 0 m
theorem Dh (a b v:Int) (m:List (XA × Int)):dU K2 (AV.agg [AV.int .i64 a,AV.int .i64 b]) (eP v) (ab (map ar m))=ab (map ar (oW (a,b) v m)):=xD.put (a,b) v m
theorem uv (m:List (XA × Int)):an (ab (map ar m))=map ar m:=xD.cells m
theorem uw (m:List (XA × Int)):a7 (ab (map ar m))=true:=xD.a7 m
theorem Sx (a b v x:Int) (m:List (XA × Int)):iy (ab (map ar (oW (a,b) v m))) (gE K2 (AV.agg [AV.int .i64 a,AV.int .i64 b]) (ab (map ar m))) (AV.int .i64 x)=ab (map ar (oW (a,b) x m)):=by
 rw [← Dh,xC]
 exact Dh a b x m
theorem Sy (a b v:Int) (m:List (XA × Int)):decide (gE K2 (AV.agg [AV.int .i64 a,AV.int .i64 b]) (ab (map ar m)) < (ab (map ar (oW (a,b) v m))).length)=true:=by
 rw [← Dh]
 exact decide_eq_true (Li _ _ _ _)
theorem nn0 (n:Nat):decide (0≤(n:Int))=true:=decide_eq_true (by omega)
theorem Lk (m:List (XA × Int)):(ab (map ar m)).length=m.length:=by rw [xD.ent,List.length_map]
theorem YR (m:List (XA × Int)) {i:Nat} (h:i < m.length):dS (ab (map ar m)) i=(AV.agg [AV.int .i64 m[i].1.1,AV.int .i64 m[i].1.2],eP m[i].2):=by
 rw [xD.ent,Lj _ m h]
def Ii (m:List (XA × Int)) (a b:Int):List (XA × Int):=oW (a,b) (wrap .i64 ((getM (a,b) m).getD 0+1)) m
theorem Sz (a b v:Int) (m:List (XA × Int)):(getM (a,b) (oW (a,b) v m)).getD 0=v:=by rw [xB,if_pos rfl]; rfl
theorem PZ (N:Nat) (y:Int × Int × Int × Int) (m:List (XA × Int)) (hN:3≤N):aG (dL N y) N (0,m)=some (Ii (Ii m y.1 y.2.1) y.2.2.1 y.2.2.2):=by
 have s0:∀ m,dL N y (0,m)=some (.inl (1,Ii m y.1 y.2.1)):=fun m=>by
  have w1:wrap .i64 (0+1)=1:=rfl
  have e1:decide ((0:Int) < 2)=true:=rfl
  simp only [dL,e1,cond_true,decide_true,uv,oU,oV,Bool.and_self,uw,Option.bind_some,Sv,Sw,fn3,dn3,Dh,Sz,beq_self_eq_true,nn0,Int.toNat_natCast,Sy,Sx,w1]
  rfl
 have s1:∀ m,dL N y (1,m)=some (.inl (2,Ii m y.2.2.1 y.2.2.2)):=fun m=>by
  have w1:wrap .i64 (1+1)=2:=rfl
  have e1:decide ((1:Int) < 2)=true:=rfl
  have e0:decide ((1:Int)=0)=false:=rfl
  simp only [dL,e1,e0,cond_true,cond_false,decide_true,uv,oU,oV,Bool.and_self,uw,Option.bind_some,Sv,Sw,fn3,dn3,Dh,Sz,beq_self_eq_true,nn0,Int.toNat_natCast,Sy,Sx,w1]
  rfl
 have s2:∀ m,dL N y (2,m)=some (.inr m):=fun m=>by
  have e1:decide ((2:Int) < 2)=false:=rfl
  simp only [dL,e1,cond_true,cond_false,uv,oU,oV,Bool.and_self,uw,Option.bind_some]
 obtain ⟨k,rfl⟩:∃ k,N=k+3:=⟨N - 3,by omega⟩
 rw [bh,s0]
 simp only [Option.bind_some,Sum.elim_inl]
 rw [bh,s1]
 simp only [Option.bind_some,Sum.elim_inl]
 rw [bh,s2]
 rfl
def YS (b:Int × Int × Int):Int × Int:=(b.1,b.2.1)
def W8 (b:Int × Int × Int):Int × Int:=(wrap .i64 (b.1+b.2.2),wrap .i64 (b.2.1+1))
def YT (m:List (XA × Int)) (b:Int × Int × Int):List (XA × Int):=Ii (Ii m (YS b).1 (YS b).2) (W8 b).1 (W8 b).2
def Fh (l:List XB):List (XA × Int):=l.foldl YT []
theorem jM (l:List XB) {k:Nat} (hk:k < l.length):ak (af (map ae l) k)=l[k]∧fits aw (af (map ae l) k)=true:=by
 rw [gM ae l k hk,YG,YF]; exact ⟨rfl,rfl⟩
theorem Ll (N:Nat) (l:List XB) (hl:l.length≤1000000) (hN:fB N):aG (kG N l) N (0,[])=some (Fh l):=by
 have key:=ls (rd:=kG N l) l (fun m k=>((k:Int),m)) YT (fun m=>m) (fun _ _=>True) (fun m k hk _=>by
  obtain ⟨a1,a2⟩:=jM l hk
  have q:Df N (l[k].1,l[k].2.1,l[k].2.2)=some (l[k].1,l[k].2.1,(W8 l[k]).1,(W8 l[k]).2):=by rw [GF]; rfl
  have r:=PZ N (l[k].1,l[k].2.1,(W8 l[k]).1,(W8 l[k]).2) m (by unfold fB at hN; omega)
  refine ⟨?_,trivial⟩
  simp only [kG,List.length_map,Int.toNat_natCast,bf hk,aO hk,a1,a2,Bool.and_self,cond_true,q,Option.bind_some,uv,oU,oV,uw,r,bA (show k < 9223372036854775807 by omega)]
  rfl) (fun m _=>by
  simp only [kG,List.length_map,bt,cond_false,uv,oU,oV,Bool.and_self,uw,cond_true,Option.bind_some]) N [] 0 (Nat.zero_le _) (by unfold fB at hN; omega) trivial
 rw [List.drop_zero] at key
 exact key
theorem YU (L:List Nat):a6 (map gj (Ih L))=L:=by
 unfold a6 Ih
 rw [List.map_map,List.map_map]
 conv=>rhs; rw [← List.map_id L]
 apply List.map_congr_left
 intro n _
 show ((n:Int)).toNat=n
 exact Int.toNat_natCast n
theorem YV (L:List Nat):cG L=map gj (Ih L):=by
 unfold cG Ih
 rw [List.map_map]; rfl
theorem faZ (L:List Nat):allFit (fits p2) (cG L)=true:=by rw [YV,fa2]
theorem mdZ (L:List Nat):map mG (cG L)=Ih L:=by rw [YV,md2]
def jY (m:List (XA × Int)) (j:Int) (L:List Nat):Int:=((L.countP fun i=>decide ((m.getD i ((0,0),0)).2=j):Nat):Int)
theorem kH (m:List (XA × Int)) (j:Int) {L:List Nat} {i:Nat} (hi:i∈L):jY m j L=jY m j (L.erase i)+if (m.getD i ((0,0),0)).2=j then 1 else 0:=by
 unfold jY
 rw [(List.perm_cons_erase hi).countP_eq,List.countP_cons]
 by_cases h:(m.getD i ((0,0),0)).2=j
 ·rw [decide_eq_true h,if_pos h]; simp
 ·rw [decide_eq_false h,if_neg h]; simp
theorem Lm (m:List (XA × Int)) (j:Int):jY m j []=0:=rfl
abbrev O5:=Int × Int × Int × Int × Int
def Bk (o:O5) (n:Nat):Prop:=0≤o.1∧o.1+n≤1000000∧0≤o.2.1∧o.2.1+n≤1000000∧0≤o.2.2.1∧o.2.2.1+n≤1000000∧0≤o.2.2.2.1∧o.2.2.2.1+n≤1000000∧0≤o.2.2.2.2∧o.2.2.2.2+n≤1000000
theorem GH (N:Nat) (m:List (XA × Int)) (hm:∀ x∈m,0≤x.2∧x.2≤4):∀ (n:Nat) (L:List Nat) (o:O5),L.length < n→(∀ i∈L,i < m.length)→Bk o L.length →
  mq (vm N) n (o.1,o.2.1,o.2.2.1,o.2.2.2.1,o.2.2.2.2,m,(m.length:Int),Ih L)=some (o.1+jY m 0 L,o.2.1+jY m 1 L,o.2.2.1+jY m 2 L,o.2.2.2.1+jY m 3 L,o.2.2.2.2+jY m 4 L,m,(m.length:Int),[])
 | 0,L,o,h,_,_=>by omega
 | n+1,L,o,h,hi,ho=>by
  rw [Fg]
  have ec:decide (m.length=m.length)=true:=decide_eq_true rfl
  cases hL:L with
  | nil=>
   have i0:List.isEmpty ([]:List Nat)=true:=rfl
   simp only [vm,Lk,Int.toNat_natCast,ec,cond_true,YU,i0,uv,oU,oV,faZ,mdZ,Bool.and_self,uw,Option.bind_some,Lm,Int.add_zero]
   rfl
  | cons a L'=>
   rw [← hL]
   have i0:List.isEmpty L=false:=by rw [hL]; rfl
   simp only [vm,Lk,Int.toNat_natCast,ec,cond_true,cond_false,YU,i0]
   refine NV (by rw [hL]; simp) fun i pU=>?_
   have bV:=hi i pU
   have hv:=hm _ (List.getElem_mem bV)
   have eg:m.getD i ((0,0),0)=m[i]:=by simp [bV]
   have pn:(L.erase i).length=L.length - 1:=List.length_erase_of_mem pU
   have oo:0 < L.length:=List.length_pos_of_mem pU
   have dl:decide (i < m.length)=true:=decide_eq_true bV
   have f86:fits cz (AV.agg [AV.int .i64 m[i].1.1,AV.int .i64 m[i].1.2])=true:=rfl
   have ih:=fun o' (nW:Bk o' (L.erase i).length)=>GH N m hm n (L.erase i) o' (by omega) (fun j hj=>hi j (List.mem_of_mem_erase hj)) nW
   have c0:=kH m 0 pU
   have c1:=kH m 1 pU
   have c2:=kH m 2 pU
   have c3:=kH m 3 pU
   have c4:=kH m 4 pU
   rw [eg] at c0 c1 c2 c3 c4
   obtain ⟨o0,o1,o2,o3,o4⟩:=o
   simp only [Bk] at ho ih ⊢
   simp only [YR m bV,f86,fn3,dn3,Bool.and_self,cond_true,dl]
   generalize hvv:m[i].2=v at *
   have YW:v=0∨v=1∨v=2∨v=3∨v=4:=by omega
   have w0:wrap .i64 (o0+1)=o0+1:=iE ⟨by omega,by omega⟩
   have w1:wrap .i64 (o1+1)=o1+1:=iE ⟨by omega,by omega⟩
   have w2:wrap .i64 (o2+1)=o2+1:=iE ⟨by omega,by omega⟩
   have w3:wrap .i64 (o3+1)=o3+1:=iE ⟨by omega,by omega⟩
   have w4:wrap .i64 (o4+1)=o4+1:=iE ⟨by omega,by omega⟩
   have dF:decide False=false:=rfl
   have dT:decide True=true:=rfl
   rcases YW with rfl | rfl | rfl | rfl | rfl
   all_goals simp only [dF,dT,if_pos,if_neg,ec,cond_true,cond_false,uv,oU,oV,faZ,mdZ,Bool.and_self,uw,Option.bind_some,w0,w1,w2,w3,w4,Int.reduceEq,if_true,if_false,Int.add_zero] at c0 c1 c2 c3 c4 ⊢
   ·rw [ih (o0+1,o1,o2,o3,o4) (by simp only; omega),c0,c1,c2,c3,c4]; simp only; rw [show o0+1+jY m 0 (L.erase i)=o0+(jY m 0 (L.erase i)+1) by omega]
   ·rw [ih (o0,o1+1,o2,o3,o4) (by simp only; omega),c0,c1,c2,c3,c4]; simp only; rw [show o1+1+jY m 1 (L.erase i)=o1+(jY m 1 (L.erase i)+1) by omega]
   ·rw [ih (o0,o1,o2+1,o3,o4) (by simp only; omega),c0,c1,c2,c3,c4]; simp only; rw [show o2+1+jY m 2 (L.erase i)=o2+(jY m 2 (L.erase i)+1) by omega]
   ·rw [ih (o0,o1,o2,o3+1,o4) (by simp only; omega),c0,c1,c2,c3,c4]; simp only; rw [show o3+1+jY m 3 (L.erase i)=o3+(jY m 3 (L.erase i)+1) by omega]
   ·rw [ih (o0,o1,o2,o3,o4+1) (by simp only; omega),c0,c1,c2,c3,c4]; simp only; rw [show o4+1+jY m 4 (L.erase i)=o4+(jY m 4 (L.erase i)+1) by omega]
def YX (l:List XB):O5:=
 let m:=Fh l
 (jY m 0 (List.range m.length),jY m 1 (List.range m.length),jY m 2 (List.range m.length),jY m 3 (List.range m.length),jY m 4 (List.range m.length))
noncomputable def Ln (N:Nat) (l:List XB):Option (O5 × Int):=(UE N l).bind fun e=>bif (e == 0)&&(Nat.ble l.length 10000&&(Nat.ble (Fh l).length 100000&&(Fh l).all fun x=>decide (0≤x.2)&&decide (x.2≤4))) then some (YX l,0) else none
theorem P0 {N:Nat} (hN:fB N) (l:List XB) (y:O5 × Int) (h:Ln N l=some y):T84 N l=some y:=by
 unfold Ln at h
 cases h79:UE N l with
 | none=>rw [h79] at h; cases h
 | some e=>
  rw [h79,Option.bind_some] at h
  obtain ⟨hc,hy⟩:=bo h
  cases hy
  simp only [Bool.and_eq_true,beq_iff_eq] at hc
  obtain ⟨rfl,hl,hm,hv⟩:=hc
  have hl:=Nat.le_of_ble_eq_true hl
  have hm:=Nat.le_of_ble_eq_true hm
  have hv:∀ x∈Fh l,0≤x.2∧x.2≤4:=fun x hx=>by
   have:=List.all_eq_true.1 hv x hx
   rw [Bool.and_eq_true] at this
   exact ⟨of_decide_eq_true this.1,of_decide_eq_true this.2⟩
  have r:=Ll N l (by omega) hN
  have g0:((0:Int) != 0)=false:=rfl
  have m0:an ([]:List (AV × AV))=[]:=rfl
  have x0:a7 ([]:List (AV × AV))=true:=rfl
  have f0:allFit (fits cq) []=true:=rfl
  have k0:map de ([]:List AV)=[]:=rfl
  have q:=GH N (Fh l) hv N (List.range (Fh l).length) (0,0,0,0,0) (by rw [List.length_range]; unfold fB at hN; omega) (fun i hi=>List.mem_range.1 hi) (by simp only [Bk,List.length_range]; omega)
  simp only [Int.zero_add] at q
  rw [UJ]
  simp only [cQ,cM,Bool.and_self,cond_true,Option.bind_some,h79,g0,cond_false,m0,x0,f0,k0,r,uv,oU,oV,uw,Lk,faZ,mdZ,q]
  rfl
noncomputable def SA (N:Nat):aQ:=⟨(e84 N).ps,(e84 N).p,Ln N⟩
theorem P1 {N:Nat} (hN:fB N):ap bC 84 (SA N):=fun x y h=>UG N x y (P0 hN x y h)
theorem ap.toM {m:Int} {g:FuncId} {e:aQ} (h:ap bC g e):ap (fC m) g e:=fun x y hT=>
 aY.more (E:=bC) rfl (fun g cs hg=>by cases (show (none:Option (List AV))=some cs from hg)) (h x y hT)
end Go.Proofs.YtldcljfjjoidhaaGreatDoor
