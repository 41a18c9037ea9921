/- Plain laws: the legs of a net,for the chapter's examples. -/
import Derived.Test.YtldcljfjjoidhaaGreatDoorBraLg
import Derived.Test.YtldcljfjjoidhaaGreatDoorAmKL
import Derived.Test.YtldcljfjjoidhaaGreatDoorAmKK
set_option linter.all false
namespace Go.Proofs.YtldcljfjjoidhaaGreatDoor
open Go Go.Am
set_option maxRecDepth 100000
abbrev K2:EK:=.st (.cons 0 1 false .int (.cons 1 1 false .int .nil))
theorem sX:fq K2 (fun k:Int × Int=>AV.agg [AV.int .i64 k.1,AV.int .i64 k.2]) n3 ai:=⟨fun a b=>HG a b,fun _=>rfl,fun _=>rfl⟩
theorem I2 (a b:Int) (m:List ((Int × Int) × Int)):ew K2 (AV.agg [AV.int .i64 a,AV.int .i64 b]) (ab (List.map ai m))=true:=sX.keys (a,b) m
theorem I3 (a b:Int) (m:List ((Int × Int) × Int)):bO K2 (AV.agg [AV.int .i64 a,AV.int .i64 b]) (AV.int .i64 0) (ab (List.map ai m))=n3 ((getM (a,b) m).getD 0):=sX.getD (a,b) 0 m
theorem xL (a b v:Int) (m:List ((Int × Int) × Int)):dm K2 (AV.agg [AV.int .i64 a,AV.int .i64 b]) (n3 v) (ab (List.map ai m))=ab (List.map ai (sV (a,b) v m)):=sX.put (a,b) v m
theorem pQ (m:List ((Int × Int) × Int)):aq (ab (List.map ai m))=List.map ai m:=sX.cells m
theorem pR (m:List ((Int × Int) × Int)):cT (ab (List.map ai m))=true:=sX.cT m
theorem I4 (a b v x:Int) (m:List ((Int × Int) × Int)):fe (ab (List.map ai (sV (a,b) v m))) (ey K2 (AV.agg [AV.int .i64 a,AV.int .i64 b]) (ab (List.map ai m))) (AV.int .i64 x)=ab (List.map ai (sV (a,b) x m)):=by
 rw [← xL,sW]
 exact xL a b x m
theorem I5 (a b v:Int) (m:List ((Int × Int) × Int)):decide (ey K2 (AV.agg [AV.int .i64 a,AV.int .i64 b]) (ab (List.map ai m)) < (ab (List.map ai (sV (a,b) v m))).length)=true:=by
 rw [← xL]
 exact decide_eq_true (Ep _ _ _ _)
theorem RJ (n:Nat):decide (0≤(n:Int))=true:=decide_eq_true (by omega)
theorem Es (m:List ((Int × Int) × Int)):(ab (List.map ai m)).length=m.length:=by rw [sX.QK,List.length_map]
theorem NP (m:List ((Int × Int) × Int)) {i:Nat} (h:i < m.length):cK (ab (List.map ai m)) i=(AV.agg [AV.int .i64 m[i].1.1,AV.int .i64 m[i].1.2],n3 m[i].2):=by
 rw [sX.QK,Er _ m h]
def BR (m:List ((Int × Int) × Int)) (a b:Int):List ((Int × Int) × Int):=sV (a,b) (IntKind.wrap .i64 ((getM (a,b) m).getD 0+1)) m
theorem I6 (a b v:Int) (m:List ((Int × Int) × Int)):(getM (a,b) (sV (a,b) v m)).getD 0=v:=by rw [xK,if_pos rfl]; rfl
theorem HH (N:Nat) (y:Int × Int × Int × Int) (m:List ((Int × Int) × Int)) (hN:3≤N):cq (cF N y) N (0,m)=some (BR (BR m y.1 y.2.1) y.2.2.1 y.2.2.2):=by
 have s0:∀ m,cF N y (0,m)=some (.inl (1,BR m y.1 y.2.1)):=fun m=>by
  have w1:IntKind.wrap .i64 (0+1)=1:=rfl
  have e1:decide ((0:Int) < 2)=true:=rfl
  simp only [cF,e1,cond_true,decide_true,pQ,k9,lf,Bool.and_self,pR,Option.bind_some,I2,I3,Qt,Qu,xL,I6,beq_self_eq_true,RJ,Int.toNat_natCast,I5,I4,w1]
  rfl
 have s1:∀ m,cF N y (1,m)=some (.inl (2,BR m y.2.2.1 y.2.2.2)):=fun m=>by
  have w1:IntKind.wrap .i64 (1+1)=2:=rfl
  have e1:decide ((1:Int) < 2)=true:=rfl
  have e0:decide ((1:Int)=0)=false:=rfl
  simp only [cF,e1,e0,cond_true,cond_false,decide_true,pQ,k9,lf,Bool.and_self,pR,Option.bind_some,I2,I3,Qt,Qu,xL,I6,beq_self_eq_true,RJ,Int.toNat_natCast,I5,I4,w1]
  rfl
 have s2:∀ m,cF N y (2,m)=some (.inr m):=fun m=>by
  have e1:decide ((2:Int) < 2)=false:=rfl
  simp only [cF,e1,cond_true,cond_false,pQ,k9,lf,Bool.and_self,pR,Option.bind_some]
 obtain ⟨k,rfl⟩:∃ k,N=k+3:=⟨N - 3,by omega⟩
 rw [dh,s0]
 simp only [Option.bind_some,Sum.elim_inl]
 rw [dh,s1]
 simp only [Option.bind_some,Sum.elim_inl]
 rw [dh,s2]
 rfl
def NQ (b:Int × Int × Int):Int × Int:=(b.1,b.2.1)
def L7 (b:Int × Int × Int):Int × Int:=(IntKind.wrap .i64 (b.1+b.2.2),IntKind.wrap .i64 (b.2.1+1))
def NR (m:List ((Int × Int) × Int)) (b:Int × Int × Int):List ((Int × Int) × Int):=BR (BR m (NQ b).1 (NQ b).2) (L7 b).1 (L7 b).2
def zI (l:List (Int × Int × Int)):List ((Int × Int) × Int):=l.foldl NR []
theorem NS (l:List (Int × Int × Int)) {k:Nat} (hk:k < l.length):d106 (bM (List.map n106 l) k)=l[k]∧av.fits sU (bM (List.map n106 l) k)=true:=by
 rw [kZ n106 l k hk,NG,NF]; exact ⟨rfl,rfl⟩
theorem Et (N:Nat) (l:List (Int × Int × Int)) (hl:l.length≤1000000) (hN:ta N):cq (il N l) N (0,[])=some (zI l):=by
 have key:=pL (rd:=il N l) l (fun m k=>((k:Int),m)) NR (fun m=>m) (fun _ _=>True) (fun m k hk _=>by
  obtain ⟨a1,a2⟩:=NS l hk
  have q:Hy N (l[k].1,l[k].2.1,l[k].2.2)=some (l[k].1,l[k].2.1,(L7 l[k]).1,(L7 l[k]).2):=by rw [Hz]; rfl
  have r:=HH N (l[k].1,l[k].2.1,(L7 l[k]).1,(L7 l[k]).2) m (by unfold ta at hN; omega)
  refine ⟨?_,trivial⟩
  simp only [il,List.length_map,Int.toNat_natCast,jD hk,jC hk,a1,a2,Bool.and_self,cond_true,q,Option.bind_some,pQ,k9,lf,pR,r,ka (show k < 9223372036854775807 by omega)]
  rfl) (fun m _=>by
  simp only [il,List.length_map,jE,cond_false,pQ,k9,lf,Bool.and_self,pR,cond_true,Option.bind_some]) N [] 0 (Nat.zero_le _) (by unfold ta at hN; omega) trivial
 rw [List.drop_zero] at key
 exact key
theorem NT (L:List Nat):aH (List.map n2 (BQ L))=L:=by
 unfold aH BQ
 rw [List.map_map,List.map_map]
 conv=>rhs; rw [← List.map_id L]
 apply List.map_congr_left
 intro n _
 show ((n:Int)).toNat=n
 exact Int.toNat_natCast n
theorem NU (L:List Nat):bI L=List.map n2 (BQ L):=by
 unfold bI BQ
 rw [List.map_map]; rfl
theorem QL (L:List Nat):allFit (av.fits p2) (bI L)=true:=by rw [NU,Tn]
theorem QM (L:List Nat):List.map d2 (bI L)=BQ L:=by rw [NU,To]
def gF (m:List ((Int × Int) × Int)) (j:Int) (L:List Nat):Int:=((L.countP fun i=>decide ((m.getD i ((0,0),0)).2=j):Nat):Int)
theorem iq (m:List ((Int × Int) × Int)) (j:Int) {L:List Nat} {i:Nat} (hi:i∈L):gF m j L=gF m j (L.erase i)+if (m.getD i ((0,0),0)).2=j then 1 else 0:=by
 unfold gF
 rw [(List.perm_cons_erase hi).countP_eq,List.countP_cons]
 by_cases h:(m.getD i ((0,0),0)).2=j
 ·rw [decide_eq_true h,if_pos h]; simp
 ·rw [decide_eq_false h,if_neg h]; simp
theorem Eu (m:List ((Int × Int) × Int)) (j:Int):gF m j []=0:=rfl
abbrev O5:=Int × Int × Int × Int × Int
def vA (o:O5) (n:Nat):Prop:=0≤o.1∧o.1+n≤1000000∧0≤o.2.1∧o.2.1+n≤1000000∧0≤o.2.2.1∧o.2.2.1+n≤1000000∧0≤o.2.2.2.1∧o.2.2.2.1+n≤1000000∧0≤o.2.2.2.2∧o.2.2.2.2+n≤1000000
theorem AL (N:Nat) (m:List ((Int × Int) × Int)) (hm:∀ x∈m,0≤x.2∧x.2≤4):∀ (n:Nat) (L:List Nat) (o:O5),L.length < n→(∀ i∈L,i < m.length)→vA o L.length →
  jA (qI N) n (o.1,o.2.1,o.2.2.1,o.2.2.2.1,o.2.2.2.2,m,(m.length:Int),BQ L)=some (o.1+gF m 0 L,o.2.1+gF m 1 L,o.2.2.1+gF m 2 L,o.2.2.2.1+gF m 3 L,o.2.2.2.2+gF m 4 L,m,(m.length:Int),[])
 | 0,L,o,h,_,_=>by omega
 | n+1,L,o,h,hi,ho=>by
  rw [zH]
  have ec:decide (m.length=m.length)=true:=decide_eq_true rfl
  cases hL:L with
  | nil=>
   have i0:List.isEmpty ([]:List Nat)=true:=rfl
   simp only [qI,Es,Int.toNat_natCast,ec,cond_true,NT,i0,pQ,k9,lf,QL,QM,Bool.and_self,pR,Option.bind_some,Eu,Int.add_zero]
   rfl
  | cons a L'=>
   rw [← hL]
   have i0:List.isEmpty L=false:=by rw [hL]; rfl
   simp only [qI,Es,Int.toNat_natCast,ec,cond_true,cond_false,NT,i0]
   refine FL (by rw [hL]; simp) fun i lH=>?_
   have bD:=hi i lH
   have hv:=hm _ (List.getElem_mem bD)
   have eg:m.getD i ((0,0),0)=m[i]:=by simp [bD]
   have mO:(L.erase i).length=L.length - 1:=List.length_erase_of_mem lH
   have mn:0 < L.length:=List.length_pos_of_mem lH
   have dl:decide (i < m.length)=true:=decide_eq_true bD
   have f86:av.fits kn (AV.agg [AV.int .i64 m[i].1.1,AV.int .i64 m[i].1.2])=true:=rfl
   have ih:=fun o' (lO:vA o' (L.erase i).length)=>AL N m hm n (L.erase i) o' (by omega) (fun j hj=>hi j (List.mem_of_mem_erase hj)) lO
   have c0:=iq m 0 lH
   have c1:=iq m 1 lH
   have c2:=iq m 2 lH
   have c3:=iq m 3 lH
   have c4:=iq m 4 lH
   rw [eg] at c0 c1 c2 c3 c4
   obtain ⟨o0,o1,o2,o3,o4⟩:=o
   simp only [vA] at ho ih ⊢
   simp only [NP m bD,f86,Qt,Qu,Bool.and_self,cond_true,dl]
   generalize UT:m[i].2=v at *
   have NV:v=0∨v=1∨v=2∨v=3∨v=4:=by omega
   have w0:IntKind.wrap .i64 (o0+1)=o0+1:=sR ⟨by omega,by omega⟩
   have w1:IntKind.wrap .i64 (o1+1)=o1+1:=sR ⟨by omega,by omega⟩
   have w2:IntKind.wrap .i64 (o2+1)=o2+1:=sR ⟨by omega,by omega⟩
   have w3:IntKind.wrap .i64 (o3+1)=o3+1:=sR ⟨by omega,by omega⟩
   have w4:IntKind.wrap .i64 (o4+1)=o4+1:=sR ⟨by omega,by omega⟩
   have dF:decide False=false:=rfl
   have dT:decide True=true:=rfl
   rcases NV with rfl | rfl | rfl | rfl | rfl
   all_goals simp only [dF,dT,if_pos,if_neg,ec,cond_true,cond_false,pQ,k9,lf,QL,QM,Bool.and_self,pR,Option.bind_some,w0,w1,w2,w3,w4,Int.reduceEq,if_true,if_false,Int.add_zero] at c0 c1 c2 c3 c4 ⊢
   ·rw [ih (o0+1,o1,o2,o3,o4) (by simp only; omega),c0,c1,c2,c3,c4]; simp only; rw [show o0+1+gF m 0 (L.erase i)=o0+(gF m 0 (L.erase i)+1) by omega]
   ·rw [ih (o0,o1+1,o2,o3,o4) (by simp only; omega),c0,c1,c2,c3,c4]; simp only; rw [show o1+1+gF m 1 (L.erase i)=o1+(gF m 1 (L.erase i)+1) by omega]
   ·rw [ih (o0,o1,o2+1,o3,o4) (by simp only; omega),c0,c1,c2,c3,c4]; simp only; rw [show o2+1+gF m 2 (L.erase i)=o2+(gF m 2 (L.erase i)+1) by omega]
   ·rw [ih (o0,o1,o2,o3+1,o4) (by simp only; omega),c0,c1,c2,c3,c4]; simp only; rw [show o3+1+gF m 3 (L.erase i)=o3+(gF m 3 (L.erase i)+1) by omega]
   ·rw [ih (o0,o1,o2,o3,o4+1) (by simp only; omega),c0,c1,c2,c3,c4]; simp only; rw [show o4+1+gF m 4 (L.erase i)=o4+(gF m 4 (L.erase i)+1) by omega]
def NW (l:List (Int × Int × Int)):O5:=
 let m:=zI l
 (gF m 0 (List.range m.length),gF m 1 (List.range m.length),gF m 2 (List.range m.length),gF m 3 (List.range m.length),gF m 4 (List.range m.length))
noncomputable def Ev (N:Nat) (l:List (Int × Int × Int)):Option (O5 × Int):=(OU N l).bind fun e=>bif (e == 0)&&(Nat.ble l.length 10000&&(Nat.ble (zI l).length 100000&&(zI l).all fun x=>decide (0≤x.2)&&decide (x.2≤4))) then some (NW l,0) else none
theorem HI {N:Nat} (hN:ta N) (l:List (Int × Int × Int)) (y:O5 × Int) (h:Ev N l=some y):QI N l=some y:=by
 unfold Ev at h
 cases QN:OU N l with
 | none=>rw [QN] at h; cases h
 | some e=>
  rw [QN,Option.bind_some] at h
  obtain ⟨hc,hy⟩:=aO h
  cases hy
  simp only [Bool.and_eq_true,beq_iff_eq] at hc
  obtain ⟨rfl,hl,hm,hv⟩:=hc
  have hl:=Nat.le_of_ble_eq_true hl
  have hm:=Nat.le_of_ble_eq_true hm
  have hv:∀ x∈zI l,0≤x.2∧x.2≤4:=fun x hx=>by
   have:=List.all_eq_true.1 hv x hx
   rw [Bool.and_eq_true] at this
   exact ⟨of_decide_eq_true this.1,of_decide_eq_true this.2⟩
  have r:=Et N l (by omega) hN
  have g0:((0:Int) != 0)=false:=rfl
  have m0:aq ([]:List (AV × AV))=[]:=rfl
  have x0:cT ([]:List (AV × AV))=true:=rfl
  have f0:allFit (av.fits bN) []=true:=rfl
  have k0:List.map b0 ([]:List AV)=[]:=rfl
  have q:=AL N (zI l) hv N (List.range (zI l).length) (0,0,0,0,0) (by rw [List.length_range]; unfold ta at hN; omega) (fun i hi=>List.mem_range.1 hi) (by simp only [vA,List.length_range]; omega)
  simp only [Int.zero_add] at q
  rw [KP]
  simp only [ND,NE,Bool.and_self,cond_true,Option.bind_some,QN,g0,cond_false,m0,x0,f0,k0,r,pQ,k9,lf,pR,Es,QL,QM,q]
  rfl
noncomputable def I7 (N:Nat):aV:=⟨(QJ N).ps,(QJ N).p,Ev N⟩
theorem HJ {N:Nat} (hN:ta N):ap di 84 (I7 N):=fun x y h=>KO N x y (HI hN x y h)
theorem ap.T6 {m:Int} {g:FuncId} {e:aV} (h:ap di g e):ap (dK m) g e:=fun x y hT=>
 aN.more (E:=di) rfl (fun g cs hg=>by cases (show (none:Option (List AV))=some cs from hg)) (h x y hT)
end Go.Proofs.YtldcljfjjoidhaaGreatDoor
