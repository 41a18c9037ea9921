/- Plain laws: the legs of a net,for the chapter's examples. -/
import Derived.Test.YtldcljfjjoidhaaGreatDoorBraLg
import Derived.Test.YtldcljfjjoidhaaGreatDoorAmKL
import Derived.Test.YtldcljfjjoidhaaGreatDoorAmKK
set_option linter.all false
open Bool renaming and_self→aab
open Int renaming toNat_natCast→aac
open List renaming range→aax, length_map→aaB, map_map→aaH
open Nat renaming le_of_ble_eq_true→aaC
open Option renaming bind_some→aaa
namespace Go.Proofs.YtldcljfjjoidhaaGreatDoor
open Go Go.Am
open List (map)
open Int (toNat)
open Go.IntKind (wrap)
open Go.Am.aM (fits)
set_option maxRecDepth 100000
abbrev K2:EK:=.st (.cons 0 1 false .int (.cons 1 1 false .int .nil))
theorem zm:ic K2 (fun k:Int × Int=>AV.agg [AV.int .i64 k.1,AV.int .i64 k.2]) tC iO:=⟨fun a b=>RJ a b,fun _=>rfl,fun _=>rfl⟩
theorem Ue (a b:Int) (m:List (XA × Int)):gC K2 (AV.agg [AV.int .i64 a,AV.int .i64 b]) (aG (map iO m))=true:=zm.keys (a,b) m
theorem Uf (a b:Int) (m:List (XA × Int)):eK K2 (AV.agg [AV.int .i64 a,AV.int .i64 b]) (AV.int .i64 0) (aG (map iO m))=tC ((getM (a,b) m).getD 0):=zm.getD (a,b) 0 m
theorem EC (a b v:Int) (m:List (XA × Int)):gJ K2 (AV.agg [AV.int .i64 a,AV.int .i64 b]) (tC v) (aG (map iO m))=aG (map iO (sa (a,b) v m)):=zm.put (a,b) v m
theorem vK (m:List (XA × Int)):ab (aG (map iO m))=map iO m:=zm.cells m
theorem vL (m:List (XA × Int)):bc (aG (map iO m))=true:=zm.bc m
theorem Ug (a b v x:Int) (m:List (XA × Int)):jP (aG (map iO (sa (a,b) v m))) (iC K2 (AV.agg [AV.int .i64 a,AV.int .i64 b]) (aG (map iO m))) (AV.int .i64 x)=aG (map iO (sa (a,b) x m)):=by
 rw [← EC,zl];exact EC a b x m
theorem Uh (a b v:Int) (m:List (XA × Int)):decide (iC K2 (AV.agg [AV.int .i64 a,AV.int .i64 b]) (aG (map iO m)) < (aG (map iO (sa (a,b) v m))).length)=true:=by
 rw [← EC];exact decide_eq_true (M6 _ _ _ _)
theorem nn0 (n:Nat):decide (0≤(n:Int))=true:=decide_eq_true (by omega)
theorem M8 (m:List (XA × Int)):(aG (map iO m)).length=m.length:=by rw [zm.ent,aaB]
theorem aad (m:List (XA × Int)) {i:Nat} (h:i < m.length):dX (aG (map iO m)) i=(AV.agg [AV.int .i64 m[i].1.1,AV.int .i64 m[i].1.2],tC m[i].2):=by
 rw [zm.ent,M7 _ m h]
def JO (m:List (XA × Int)) (a b:Int):List (XA × Int):=sa (a,b) (wrap .i64 ((getM (a,b) m).getD 0+1)) m
theorem Ui (a b v:Int) (m:List (XA × Int)):(getM (a,b) (sa (a,b) v m)).getD 0=v:=by rw [EA,if_pos rfl]; rfl
theorem RL (N:Nat) (y:Int × Int × Int × Int) (m:List (XA × Int)) (hN:3≤N):aH (dP N y) N (0,m)=some (JO (JO m y.1 y.2.1) y.2.2.1 y.2.2.2):=by
 have s0:∀ m,dP N y (0,m)=some (.inl (1,JO m y.1 y.2.1)):=fun m=>by
  have w1:wrap .i64 (0+1)=1:=rfl;have e1:decide ((0:Int) < 2)=true:=rfl;simp only [dP,dZ,dw,eT,e1,cond_true,decide_true,vK,pT,pU,aab,vL,aaa,Ue,Uf,fn3,dn3,EC,Ui,beq_self_eq_true,nn0,aac,Uh,Ug,w1];rfl
 have s1:∀ m,dP N y (1,m)=some (.inl (2,JO m y.2.2.1 y.2.2.2)):=fun m=>by
  have w1:wrap .i64 (1+1)=2:=rfl;have e1:decide ((1:Int) < 2)=true:=rfl;have e0:decide ((1:Int)=0)=false:=rfl;simp only [dP,dZ,dw,eT,e1,e0,cond_true,cond_false,decide_true,vK,pT,pU,aab,vL,aaa,Ue,Uf,fn3,dn3,EC,Ui,beq_self_eq_true,nn0,aac,Uh,Ug,w1];rfl
 have s2:∀ m,dP N y (2,m)=some (.inr m):=fun m=>by
  have e1:decide ((2:Int) < 2)=false:=rfl;simp only [dP,dZ,dw,eT,e1,cond_true,cond_false,vK,pT,pU,aab,vL,aaa]
 obtain ⟨k,rfl⟩:∃ k,N=k+3:=⟨N - 3,by omega⟩;rw [bF,s0];simp only [aaa,Sum.elim_inl];rw [bF,s1];simp only [aaa,Sum.elim_inl];rw [bF,s2];rfl
def aae (b:Int × Int × Int):Int × Int:=(b.1,b.2.1)
def Yk (b:Int × Int × Int):Int × Int:=(wrap .i64 (b.1+b.2.2),wrap .i64 (b.2.1+1))
def aaf (m:List (XA × Int)) (b:Int × Int × Int):List (XA × Int):=JO (JO m (aae b).1 (aae b).2) (Yk b).1 (Yk b).2
def GQ (l:List XB):List (XA × Int):=l.foldl aaf []
theorem zn (l:List XB) {k:Nat} (hk:k < l.length):cY (ah (map e8 l) k)=l[k]∧fits ba (ah (map e8 l) k)=true:=by
 rw [iN e8 l k hk,ZT,ZS]; exact ⟨rfl,rfl⟩
theorem M9 (N:Nat) (l:List XB) (hl:l.length≤1000000) (hN:fD N):aH (kU N l) N (0,[])=some (GQ l):=by
 have key:=lQ (rd:=kU N l) l (fun m k=>((k:Int),m)) aaf (fun m=>m) (fun _ _=>True) (fun m k hk _=>by
  obtain ⟨a1,a2⟩:=zn l hk;have q:Ey N (l[k].1,l[k].2.1,l[k].2.2)=some (l[k].1,l[k].2.1,(Yk l[k]).1,(Yk l[k]).2):=by rw [Im]; rfl
  have r:=RL N (l[k].1,l[k].2.1,(Yk l[k]).1,(Yk l[k]).2) m (by unfold fD at hN; omega);refine ⟨?_,trivial⟩;simp only [kU,aaB,aac,bP hk,bt hk,a1,a2,aab,cond_true,q,aaa,vK,pT,pU,vL,r,bS (show k < 9223372036854775807 by omega)];rfl) (fun m _=>by
  simp only [kU,aaB,cw,cond_false,vK,pT,pU,aab,vL,cond_true,aaa]) N [] 0 (Nat.zero_le _) (by unfold fD at hN; omega) trivial
 rw [List.drop_zero] at key;exact key
theorem aag (L:List Nat):aZ (map C6 (JN L))=L:=by
 unfold aZ JN;rw [aaH,aaH]
 conv=>rhs; rw [← List.map_id L]
 apply List.map_congr_left;intro n _;show ((n:Int)).toNat=n;exact aac n
theorem aah (L:List Nat):cI L=map C6 (JN L):=by
 unfold cI JN;rw [aaH]; rfl
theorem faZ (L:List Nat):allFit (fits p2) (cI L)=true:=by rw [aah,fa2]
theorem mdZ (L:List Nat):map lz (cI L)=JN L:=by rw [aah,md2]
def ke (m:List (XA × Int)) (j:Int) (L:List Nat):Int:=((L.countP fun i=>decide ((m.getD i ((0,0),0)).2=j):Nat):Int)
theorem kV (m:List (XA × Int)) (j:Int) {L:List Nat} {i:Nat} (hi:i∈L):ke m j L=ke m j (L.erase i)+if (m.getD i ((0,0),0)).2=j then 1 else 0:=by
 unfold ke;rw [(List.perm_cons_erase hi).countP_eq,List.countP_cons];by_cases h:(m.getD i ((0,0),0)).2=j
 ·rw [decide_eq_true h,if_pos h]; simp
 ·rw [decide_eq_false h,if_neg h]; simp
theorem Na (m:List (XA × Int)) (j:Int):ke m j []=0:=rfl
abbrev O5:=Int × Int × Int × Int × Int
def CG (o:O5) (n:Nat):Prop:=0≤o.1∧o.1+n≤1000000∧0≤o.2.1∧o.2.1+n≤1000000∧0≤o.2.2.1∧o.2.2.1+n≤1000000∧0≤o.2.2.2.1∧o.2.2.2.1+n≤1000000∧0≤o.2.2.2.2∧o.2.2.2.2+n≤1000000
theorem Ip (N:Nat) (m:List (XA × Int)) (hm:∀ x∈m,0≤x.2∧x.2≤4):∀ (n:Nat) (L:List Nat) (o:O5),L.length < n→(∀ i∈L,i < m.length)→CG o L.length →
  mW (wX N) n (o.1,o.2.1,o.2.2.1,o.2.2.2.1,o.2.2.2.2,m,(m.length:Int),JN L)=some (o.1+ke m 0 L,o.2.1+ke m 1 L,o.2.2.1+ke m 2 L,o.2.2.2.1+ke m 3 L,o.2.2.2.2+ke m 4 L,m,(m.length:Int),[])
 |0,L,o,h,_,_=>by omega
 |n+1,L,o,h,hi,ho=>by
  rw [GP];have ec:decide (m.length=m.length)=true:=decide_eq_true rfl;cases hL:L with
  |nil=>
   have i0:List.isEmpty ([]:List Nat)=true:=rfl;simp only [wX,M8,aac,ec,cond_true,aag,i0,vK,pT,pU,faZ,mdZ,aab,vL,aaa,Na,Int.add_zero];rfl
  |cons a L'=>
   rw [← hL];have i0:List.isEmpty L=false:=by rw [hL]; rfl
   simp only [wX,M8,aac,ec,cond_true,cond_false,aag,i0];refine PK (by rw [hL]; simp) fun i qT=>?_
   have bZ:=hi i qT;have hv:=hm _ (List.getElem_mem bZ);have eg:m.getD i ((0,0),0)=m[i]:=by simp [bZ]
   have qj:(L.erase i).length=L.length - 1:=List.length_erase_of_mem qT;have pn:0 < L.length:=List.length_pos_of_mem qT;have dl:decide (i < m.length)=true:=decide_eq_true bZ;have f86:fits da (AV.agg [AV.int .i64 m[i].1.1,AV.int .i64 m[i].1.2])=true:=rfl;have ih:=fun o' (oP:CG o' (L.erase i).length)=>Ip N m hm n (L.erase i) o' (by omega) (fun j hj=>hi j (List.mem_of_mem_erase hj)) oP
   have c0:=kV m 0 qT;have c1:=kV m 1 qT;have c2:=kV m 2 qT;have c3:=kV m 3 qT;have c4:=kV m 4 qT;rw [eg] at c0 c1 c2 c3 c4;obtain ⟨o0,o1,o2,o3,o4⟩:=o;simp only [CG] at ho ih ⊢;simp only [aad m bZ,f86,fn3,dn3,aab,cond_true,dl];generalize hvv:m[i].2=v at *;have aai:v=0∨v=1∨v=2∨v=3∨v=4:=by omega
   have w0:wrap .i64 (o0+1)=o0+1:=gF ⟨by omega,by omega⟩;have w1:wrap .i64 (o1+1)=o1+1:=gF ⟨by omega,by omega⟩;have w2:wrap .i64 (o2+1)=o2+1:=gF ⟨by omega,by omega⟩;have w3:wrap .i64 (o3+1)=o3+1:=gF ⟨by omega,by omega⟩;have w4:wrap .i64 (o4+1)=o4+1:=gF ⟨by omega,by omega⟩;have dF:decide False=false:=rfl;have dT:decide True=true:=rfl;rcases aai with rfl|rfl|rfl|rfl|rfl
   all_goals simp only [dF,dT,if_pos,if_neg,ec,cond_true,cond_false,vK,pT,pU,faZ,mdZ,aab,vL,aaa,w0,w1,w2,w3,w4,Int.reduceEq,if_true,if_false,Int.add_zero] at c0 c1 c2 c3 c4 ⊢
   ·rw [ih (o0+1,o1,o2,o3,o4) (by simp only; omega),c0,c1,c2,c3,c4]; simp only; rw [show o0+1+ke m 0 (L.erase i)=o0+(ke m 0 (L.erase i)+1) by omega]
   ·rw [ih (o0,o1+1,o2,o3,o4) (by simp only; omega),c0,c1,c2,c3,c4]; simp only; rw [show o1+1+ke m 1 (L.erase i)=o1+(ke m 1 (L.erase i)+1) by omega]
   ·rw [ih (o0,o1,o2+1,o3,o4) (by simp only; omega),c0,c1,c2,c3,c4]; simp only; rw [show o2+1+ke m 2 (L.erase i)=o2+(ke m 2 (L.erase i)+1) by omega]
   ·rw [ih (o0,o1,o2,o3+1,o4) (by simp only; omega),c0,c1,c2,c3,c4]; simp only; rw [show o3+1+ke m 3 (L.erase i)=o3+(ke m 3 (L.erase i)+1) by omega]
   ·rw [ih (o0,o1,o2,o3,o4+1) (by simp only; omega),c0,c1,c2,c3,c4]; simp only; rw [show o4+1+ke m 4 (L.erase i)=o4+(ke m 4 (L.erase i)+1) by omega]
def aaj (l:List XB):O5:=
 let m:=GQ l
 (ke m 0 (aax m.length),ke m 1 (aax m.length),ke m 2 (aax m.length),ke m 3 (aax m.length),ke m 4 (aax m.length))
noncomputable def Nb (N:Nat) (l:List XB):Option (O5 × Int):=(Wa N l).bind fun e=>bif (e == 0)&&(Nat.ble l.length 10000&&(Nat.ble (GQ l).length 100000&&(GQ l).all fun x=>decide (0≤x.2)&&decide (x.2≤4))) then some (aaj l,0) else none
theorem RM {N:Nat} (hN:fD N) (l:List XB) (y:O5 × Int) (h:Nb N l=some y):T84 N l=some y:=by
 unfold Nb at h;cases h79:Wa N l with
 |none=>rw [h79] at h; cases h
 |some e=>
  rw [h79,aaa] at h;obtain ⟨hc,hy⟩:=bq h;cases hy;simp only [Bool.and_eq_true,beq_iff_eq] at hc;obtain ⟨rfl,hl,hm,hv⟩:=hc;have hl:=aaC hl;have hm:=aaC hm;have hv:∀ x∈GQ l,0≤x.2∧x.2≤4:=fun x hx=>by
   have:=List.all_eq_true.1 hv x hx;rw [Bool.and_eq_true] at this;exact ⟨of_decide_eq_true this.1,of_decide_eq_true this.2⟩
  have r:=M9 N l (by omega) hN;have g0:((0:Int) != 0)=false:=rfl;have m0:ab ([]:List (AV × AV))=[]:=rfl;have x0:bc ([]:List (AV × AV))=true:=rfl;have f0:allFit (fits cr) []=true:=rfl;have k0:map de ([]:List AV)=[]:=rfl;have q:=Ip N (GQ l) hv N (aax (GQ l).length) (0,0,0,0,0) (by rw [List.length_range]; unfold fD at hN; omega) (fun i hi=>List.mem_range.1 hi) (by simp only [CG,List.length_range]; omega);simp only [Int.zero_add] at q;rw [We];simp only [jG,iZ,aab,cond_true,aaa,h79,g0,cond_false,m0,x0,f0,k0,r,vK,pT,pU,vL,M8,faZ,mdZ,q];rfl
noncomputable def Uj (N:Nat):aP:=⟨(e84 N).ps,(e84 N).p,Nb N⟩
theorem RN {N:Nat} (hN:fD N):ai bQ 84 (Uj N):=fun x y h=>Wc N x y (RM hN x y h)
theorem ai.toM {m:Int} {g:FuncId} {e:aP} (h:ai bQ g e):ai (eZ m) g e:=fun x y hT=>
 aR.more (E:=bQ) rfl (fun g cs hg=>by cases (show (none:Option (List AV))=some cs from hg)) (h x y hT)
end Go.Proofs.YtldcljfjjoidhaaGreatDoor
