/- Plain laws: the legs of a net,for the chapter's examples. -/
import Derived.Test.YtldcljfjjoidhaaGreatDoorBraLg
import Derived.Test.YtldcljfjjoidhaaGreatDoorAmKL
import Derived.Test.YtldcljfjjoidhaaGreatDoorAmKK
set_option linter.all false
namespace Go.Proofs.YtldcljfjjoidhaaGreatDoor
open Go Go.Am
set_option maxRecDepth 100000
abbrev K2:EK:=.st (.cons 0 1 false .int (.cons 1 1 false .int .nil))
theorem wD:fK K2 (fun k:Int × Int=>AV.agg [AV.int .i64 k.1,AV.int .i64 k.2]) n3 ao:=⟨fun a b=>Fc a b,fun _=>rfl,fun _=>rfl⟩
theorem Qr (a b:Int) (m:List ((Int × Int) × Int)):eB K2 (AV.agg [AV.int .i64 a,AV.int .i64 b]) (ab (List.map ao m))=true:=wD.keys (a,b) m
theorem Qs (a b:Int) (m:List ((Int × Int) × Int)):cg K2 (AV.agg [AV.int .i64 a,AV.int .i64 b]) (AV.int .i64 0) (ab (List.map ao m))=n3 ((getM (a,b) m).getD 0):=wD.getD (a,b) 0 m
theorem B9 (a b v:Int) (m:List ((Int × Int) × Int)):dE K2 (AV.agg [AV.int .i64 a,AV.int .i64 b]) (n3 v) (ab (List.map ao m))=ab (List.map ao (nT (a,b) v m)):=wD.put (a,b) v m
theorem tn (m:List ((Int × Int) × Int)):ai (ab (List.map ao m))=List.map ao m:=wD.cells m
theorem to (m:List ((Int × Int) × Int)):aV (ab (List.map ao m))=true:=wD.aV m
theorem Qt (a b v x:Int) (m:List ((Int × Int) × Int)):gJ (ab (List.map ao (nT (a,b) v m))) (fN K2 (AV.agg [AV.int .i64 a,AV.int .i64 b]) (ab (List.map ao m))) (AV.int .i64 x)=ab (List.map ao (nT (a,b) x m)):=by
 rw [← B9,wC]
 exact B9 a b x m
theorem Qu (a b v:Int) (m:List ((Int × Int) × Int)):decide (fN K2 (AV.agg [AV.int .i64 a,AV.int .i64 b]) (ab (List.map ao m)) < (ab (List.map ao (nT (a,b) v m))).length)=true:=by
 rw [← B9]
 exact decide_eq_true (JQ _ _ _ _)
theorem nn0 (n:Nat):decide (0≤(n:Int))=true:=decide_eq_true (by omega)
theorem JS (m:List ((Int × Int) × Int)):(ab (List.map ao m)).length=m.length:=by rw [wD.Yo,List.length_map]
theorem WE (m:List ((Int × Int) × Int)) {i:Nat} (h:i < m.length):dD (ab (List.map ao m)) i=(AV.agg [AV.int .i64 m[i].1.1,AV.int .i64 m[i].1.2],n3 m[i].2):=by
 rw [wD.Yo,JR _ m h]
def GK (m:List ((Int × Int) × Int)) (a b:Int):List ((Int × Int) × Int):=nT (a,b) (IntKind.wrap .i64 ((getM (a,b) m).getD 0+1)) m
theorem Qv (a b v:Int) (m:List ((Int × Int) × Int)):(getM (a,b) (nT (a,b) v m)).getD 0=v:=by rw [wB,if_pos rfl]; rfl
theorem Ob (N:Nat) (y:Int × Int × Int × Int) (m:List ((Int × Int) × Int)) (hN:3≤N):az (dw N y) N (0,m)=some (GK (GK m y.1 y.2.1) y.2.2.1 y.2.2.2):=by
 have s0:∀ m,dw N y (0,m)=some (.inl (1,GK m y.1 y.2.1)):=fun m=>by
  have w1:IntKind.wrap .i64 (0+1)=1:=rfl
  have e1:decide ((0:Int) < 2)=true:=rfl
  simp only [dw,e1,cond_true,decide_true,tn,nR,nS,Bool.and_self,to,Option.bind_some,Qr,Qs,Yh,Yi,B9,Qv,beq_self_eq_true,nn0,Int.toNat_natCast,Qu,Qt,w1]
  rfl
 have s1:∀ m,dw N y (1,m)=some (.inl (2,GK m y.2.2.1 y.2.2.2)):=fun m=>by
  have w1:IntKind.wrap .i64 (1+1)=2:=rfl
  have e1:decide ((1:Int) < 2)=true:=rfl
  have e0:decide ((1:Int)=0)=false:=rfl
  simp only [dw,e1,e0,cond_true,cond_false,decide_true,tn,nR,nS,Bool.and_self,to,Option.bind_some,Qr,Qs,Yh,Yi,B9,Qv,beq_self_eq_true,nn0,Int.toNat_natCast,Qu,Qt,w1]
  rfl
 have s2:∀ m,dw N y (2,m)=some (.inr m):=fun m=>by
  have e1:decide ((2:Int) < 2)=false:=rfl
  simp only [dw,e1,cond_true,cond_false,tn,nR,nS,Bool.and_self,to,Option.bind_some]
 obtain ⟨k,rfl⟩:∃ k,N=k+3:=⟨N - 3,by omega⟩
 rw [bD,s0]
 simp only [Option.bind_some,Sum.elim_inl]
 rw [bD,s1]
 simp only [Option.bind_some,Sum.elim_inl]
 rw [bD,s2]
 rfl
def WG (b:Int × Int × Int):Int × Int:=(b.1,b.2.1)
def U1 (b:Int × Int × Int):Int × Int:=(IntKind.wrap .i64 (b.1+b.2.2),IntKind.wrap .i64 (b.2.1+1))
def WH (m:List ((Int × Int) × Int)) (b:Int × Int × Int):List ((Int × Int) × Int):=GK (GK m (WG b).1 (WG b).2) (U1 b).1 (U1 b).2
def DW (l:List (Int × Int × Int)):List ((Int × Int) × Int):=l.foldl WH []
theorem jg (l:List (Int × Int × Int)) {k:Nat} (hk:k < l.length):d106 (ah (List.map n106 l) k)=l[k]∧aj.fits aP (ah (List.map n106 l) k)=true:=by
 rw [fV n106 l k hk,Wt,Ws]; exact ⟨rfl,rfl⟩
theorem JU (N:Nat) (l:List (Int × Int × Int)) (hl:l.length≤1000000) (hN:fq N):az (j5 N l) N (0,[])=some (DW l):=by
 have key:=iN (rd:=j5 N l) l (fun m k=>((k:Int),m)) WH (fun m=>m) (fun _ _=>True) (fun m k hk _=>by
  obtain ⟨a1,a2⟩:=jg l hk
  have q:B7 N (l[k].1,l[k].2.1,l[k].2.2)=some (l[k].1,l[k].2.1,(U1 l[k]).1,(U1 l[k]).2):=by rw [Fa]; rfl
  have r:=Ob N (l[k].1,l[k].2.1,(U1 l[k]).1,(U1 l[k]).2) m (by unfold fq at hN; omega)
  refine ⟨?_,trivial⟩
  simp only [j5,List.length_map,Int.toNat_natCast,bc hk,aI hk,a1,a2,Bool.and_self,cond_true,q,Option.bind_some,tn,nR,nS,to,r,bk (show k < 9223372036854775807 by omega)]
  rfl) (fun m _=>by
  simp only [j5,List.length_map,bq,cond_false,tn,nR,nS,Bool.and_self,to,cond_true,Option.bind_some]) N [] 0 (Nat.zero_le _) (by unfold fq at hN; omega) trivial
 rw [List.drop_zero] at key
 exact key
theorem WI (L:List Nat):aU (List.map n2 (GJ L))=L:=by
 unfold aU GJ
 rw [List.map_map,List.map_map]
 conv=>rhs; rw [← List.map_id L]
 apply List.map_congr_left
 intro n _
 show ((n:Int)).toNat=n
 exact Int.toNat_natCast n
theorem WJ (L:List Nat):cq L=List.map n2 (GJ L):=by
 unfold cq GJ
 rw [List.map_map]; rfl
theorem faZ (L:List Nat):allFit (aj.fits p2) (cq L)=true:=by rw [WJ,fa2]
theorem mdZ (L:List Nat):List.map d2 (cq L)=GJ L:=by rw [WJ,md2]
def ju (m:List ((Int × Int) × Int)) (j:Int) (L:List Nat):Int:=((L.countP fun i=>decide ((m.getD i ((0,0),0)).2=j):Nat):Int)
theorem j6 (m:List ((Int × Int) × Int)) (j:Int) {L:List Nat} {i:Nat} (hi:i∈L):ju m j L=ju m j (L.erase i)+if (m.getD i ((0,0),0)).2=j then 1 else 0:=by
 unfold ju
 rw [(List.perm_cons_erase hi).countP_eq,List.countP_cons]
 by_cases h:(m.getD i ((0,0),0)).2=j
 ·rw [decide_eq_true h,if_pos h]; simp
 ·rw [decide_eq_false h,if_neg h]; simp
theorem JV (m:List ((Int × Int) × Int)) (j:Int):ju m j []=0:=rfl
abbrev O5:=Int × Int × Int × Int × Int
def Ae (o:O5) (n:Nat):Prop:=0≤o.1∧o.1+n≤1000000∧0≤o.2.1∧o.2.1+n≤1000000∧0≤o.2.2.1∧o.2.2.1+n≤1000000∧0≤o.2.2.2.1∧o.2.2.2.1+n≤1000000∧0≤o.2.2.2.2∧o.2.2.2.2+n≤1000000
theorem Fe (N:Nat) (m:List ((Int × Int) × Int)) (hm:∀ x∈m,0≤x.2∧x.2≤4):∀ (n:Nat) (L:List Nat) (o:O5),L.length < n→(∀ i∈L,i < m.length)→Ae o L.length →
  lF (uq N) n (o.1,o.2.1,o.2.2.1,o.2.2.2.1,o.2.2.2.2,m,(m.length:Int),GJ L)=some (o.1+ju m 0 L,o.2.1+ju m 1 L,o.2.2.1+ju m 2 L,o.2.2.2.1+ju m 3 L,o.2.2.2.2+ju m 4 L,m,(m.length:Int),[])
 | 0,L,o,h,_,_=>by omega
 | n+1,L,o,h,hi,ho=>by
  rw [DV]
  have ec:decide (m.length=m.length)=true:=decide_eq_true rfl
  cases hL:L with
  | nil=>
   have i0:List.isEmpty ([]:List Nat)=true:=rfl
   simp only [uq,JS,Int.toNat_natCast,ec,cond_true,WI,i0,tn,nR,nS,faZ,mdZ,Bool.and_self,to,Option.bind_some,JV,Int.add_zero]
   rfl
  | cons a L'=>
   rw [← hL]
   have i0:List.isEmpty L=false:=by rw [hL]; rfl
   simp only [uq,JS,Int.toNat_natCast,ec,cond_true,cond_false,WI,i0]
   refine L5 (by rw [hL]; simp) fun i oO=>?_
   have bM:=hi i oO
   have hv:=hm _ (List.getElem_mem bM)
   have eg:m.getD i ((0,0),0)=m[i]:=by simp [bM]
   have oQ:(L.erase i).length=L.length - 1:=List.length_erase_of_mem oO
   have oN:0 < L.length:=List.length_pos_of_mem oO
   have dl:decide (i < m.length)=true:=decide_eq_true bM
   have f86:aj.fits cG (AV.agg [AV.int .i64 m[i].1.1,AV.int .i64 m[i].1.2])=true:=rfl
   have ih:=fun o' (om:Ae o' (L.erase i).length)=>Fe N m hm n (L.erase i) o' (by omega) (fun j hj=>hi j (List.mem_of_mem_erase hj)) om
   have c0:=j6 m 0 oO
   have c1:=j6 m 1 oO
   have c2:=j6 m 2 oO
   have c3:=j6 m 3 oO
   have c4:=j6 m 4 oO
   rw [eg] at c0 c1 c2 c3 c4
   obtain ⟨o0,o1,o2,o3,o4⟩:=o
   simp only [Ae] at ho ih ⊢
   simp only [WE m bM,f86,Yh,Yi,Bool.and_self,cond_true,dl]
   generalize hvv:m[i].2=v at *
   have WK:v=0∨v=1∨v=2∨v=3∨v=4:=by omega
   have w0:IntKind.wrap .i64 (o0+1)=o0+1:=gY ⟨by omega,by omega⟩
   have w1:IntKind.wrap .i64 (o1+1)=o1+1:=gY ⟨by omega,by omega⟩
   have w2:IntKind.wrap .i64 (o2+1)=o2+1:=gY ⟨by omega,by omega⟩
   have w3:IntKind.wrap .i64 (o3+1)=o3+1:=gY ⟨by omega,by omega⟩
   have w4:IntKind.wrap .i64 (o4+1)=o4+1:=gY ⟨by omega,by omega⟩
   have dF:decide False=false:=rfl
   have dT:decide True=true:=rfl
   rcases WK with rfl | rfl | rfl | rfl | rfl
   all_goals simp only [dF,dT,if_pos,if_neg,ec,cond_true,cond_false,tn,nR,nS,faZ,mdZ,Bool.and_self,to,Option.bind_some,w0,w1,w2,w3,w4,Int.reduceEq,if_true,if_false,Int.add_zero] at c0 c1 c2 c3 c4 ⊢
   ·rw [ih (o0+1,o1,o2,o3,o4) (by simp only; omega),c0,c1,c2,c3,c4]; simp only; rw [show o0+1+ju m 0 (L.erase i)=o0+(ju m 0 (L.erase i)+1) by omega]
   ·rw [ih (o0,o1+1,o2,o3,o4) (by simp only; omega),c0,c1,c2,c3,c4]; simp only; rw [show o1+1+ju m 1 (L.erase i)=o1+(ju m 1 (L.erase i)+1) by omega]
   ·rw [ih (o0,o1,o2+1,o3,o4) (by simp only; omega),c0,c1,c2,c3,c4]; simp only; rw [show o2+1+ju m 2 (L.erase i)=o2+(ju m 2 (L.erase i)+1) by omega]
   ·rw [ih (o0,o1,o2,o3+1,o4) (by simp only; omega),c0,c1,c2,c3,c4]; simp only; rw [show o3+1+ju m 3 (L.erase i)=o3+(ju m 3 (L.erase i)+1) by omega]
   ·rw [ih (o0,o1,o2,o3,o4+1) (by simp only; omega),c0,c1,c2,c3,c4]; simp only; rw [show o4+1+ju m 4 (L.erase i)=o4+(ju m 4 (L.erase i)+1) by omega]
def WL (l:List (Int × Int × Int)):O5:=
 let m:=DW l
 (ju m 0 (List.range m.length),ju m 1 (List.range m.length),ju m 2 (List.range m.length),ju m 3 (List.range m.length),ju m 4 (List.range m.length))
noncomputable def JW (N:Nat) (l:List (Int × Int × Int)):Option (O5 × Int):=(Sz N l).bind fun e=>bif (e == 0)&&(Nat.ble l.length 10000&&(Nat.ble (DW l).length 100000&&(DW l).all fun x=>decide (0≤x.2)&&decide (x.2≤4))) then some (WL l,0) else none
theorem Oc {N:Nat} (hN:fq N) (l:List (Int × Int × Int)) (y:O5 × Int) (h:JW N l=some y):Z6 N l=some y:=by
 unfold JW at h
 cases h79:Sz N l with
 | none=>rw [h79] at h; cases h
 | some e=>
  rw [h79,Option.bind_some] at h
  obtain ⟨hc,hy⟩:=bi h
  cases hy
  simp only [Bool.and_eq_true,beq_iff_eq] at hc
  obtain ⟨rfl,hl,hm,hv⟩:=hc
  have hl:=Nat.le_of_ble_eq_true hl
  have hm:=Nat.le_of_ble_eq_true hm
  have hv:∀ x∈DW l,0≤x.2∧x.2≤4:=fun x hx=>by
   have:=List.all_eq_true.1 hv x hx
   rw [Bool.and_eq_true] at this
   exact ⟨of_decide_eq_true this.1,of_decide_eq_true this.2⟩
  have r:=JU N l (by omega) hN
  have g0:((0:Int) != 0)=false:=rfl
  have m0:ai ([]:List (AV × AV))=[]:=rfl
  have x0:aV ([]:List (AV × AV))=true:=rfl
  have f0:allFit (aj.fits cB) []=true:=rfl
  have k0:List.map cP ([]:List AV)=[]:=rfl
  have q:=Fe N (DW l) hv N (List.range (DW l).length) (0,0,0,0,0) (by rw [List.length_range]; unfold fq at hN; omega) (fun i hi=>List.mem_range.1 hi) (by simp only [Ae,List.length_range]; omega)
  simp only [Int.zero_add] at q
  rw [SD]
  simp only [cM,cI,Bool.and_self,cond_true,Option.bind_some,h79,g0,cond_false,m0,x0,f0,k0,r,tn,nR,nS,to,JS,faZ,mdZ,q]
  rfl
noncomputable def Qw (N:Nat):aL:=⟨(Z7 N).ps,(Z7 N).p,JW N⟩
theorem Od {N:Nat} (hN:fq N):an bF 84 (Qw N):=fun x y h=>SB N x y (Oc hN x y h)
theorem an.toM {m:Int} {g:FuncId} {e:aL} (h:an bF g e):an (eT m) g e:=fun x y hT=>
 aR.more (E:=bF) rfl (fun g cs hg=>by cases (show (none:Option (List AV))=some cs from hg)) (h x y hT)
end Go.Proofs.YtldcljfjjoidhaaGreatDoor
