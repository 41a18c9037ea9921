/- Plain laws: the legs of a net,for the chapter's examples. -/
import Derived.Test.YtldcljfjjoidhaaGreatDoorBraLg
import Derived.Test.YtldcljfjjoidhaaGreatDoorAmKL
import Derived.Test.YtldcljfjjoidhaaGreatDoorAmKK
set_option linter.all false
namespace Go.Proofs.YtldcljfjjoidhaaGreatDoor
open Go Go.Am
set_option maxRecDepth 100000
abbrev K2:EK:=.st (.cons 0 1 false .int (.cons 1 1 false .int .nil))
theorem wg:fH K2 (fun k:Int × Int=>AV.agg [AV.int .i64 k.1,AV.int .i64 k.2]) n3 ao:=⟨fun a b=>E3 a b,fun _=>rfl,fun _=>rfl⟩
theorem P4 (a b:Int) (m:List ((Int × Int) × Int)):eo K2 (AV.agg [AV.int .i64 a,AV.int .i64 b]) (ab (List.map ao m))=true:=wg.keys (a,b) m
theorem P5 (a b:Int) (m:List ((Int × Int) × Int)):b9 K2 (AV.agg [AV.int .i64 a,AV.int .i64 b]) (AV.int .i64 0) (ab (List.map ao m))=n3 ((getM (a,b) m).getD 0):=wg.getD (a,b) 0 m
theorem BQ (a b v:Int) (m:List ((Int × Int) × Int)):dy K2 (AV.agg [AV.int .i64 a,AV.int .i64 b]) (n3 v) (ab (List.map ao m))=ab (List.map ao (nI (a,b) v m)):=wg.put (a,b) v m
theorem s7 (m:List ((Int × Int) × Int)):ai (ab (List.map ao m))=List.map ao m:=wg.cells m
theorem s8 (m:List ((Int × Int) × Int)):aV (ab (List.map ao m))=true:=wg.aV m
theorem P6 (a b v x:Int) (m:List ((Int × Int) × Int)):gG (ab (List.map ao (nI (a,b) v m))) (fK K2 (AV.agg [AV.int .i64 a,AV.int .i64 b]) (ab (List.map ao m))) (AV.int .i64 x)=ab (List.map ao (nI (a,b) x m)):=by
 rw [← BQ,we]
 exact BQ a b x m
theorem P7 (a b v:Int) (m:List ((Int × Int) × Int)):decide (fK K2 (AV.agg [AV.int .i64 a,AV.int .i64 b]) (ab (List.map ao m)) < (ab (List.map ao (nI (a,b) v m))).length)=true:=by
 rw [← BQ]
 exact decide_eq_true (JI _ _ _ _)
theorem nn0 (n:Nat):decide (0≤(n:Int))=true:=decide_eq_true (by omega)
theorem JK (m:List ((Int × Int) × Int)):(ab (List.map ao m)).length=m.length:=by rw [wg.XX,List.length_map]
theorem Wj (m:List ((Int × Int) × Int)) {i:Nat} (h:i < m.length):dx (ab (List.map ao m)) i=(AV.agg [AV.int .i64 m[i].1.1,AV.int .i64 m[i].1.2],n3 m[i].2):=by
 rw [wg.XX,JJ _ m h]
def Gy (m:List ((Int × Int) × Int)) (a b:Int):List ((Int × Int) × Int):=nI (a,b) (IntKind.wrap .i64 ((getM (a,b) m).getD 0+1)) m
theorem P8 (a b v:Int) (m:List ((Int × Int) × Int)):(getM (a,b) (nI (a,b) v m)).getD 0=v:=by rw [v8,if_pos rfl]; rfl
theorem NU (N:Nat) (y:Int × Int × Int × Int) (m:List ((Int × Int) × Int)) (hN:3≤N):az (dm N y) N (0,m)=some (Gy (Gy m y.1 y.2.1) y.2.2.1 y.2.2.2):=by
 have s0:∀ m,dm N y (0,m)=some (.inl (1,Gy m y.1 y.2.1)):=fun m=>by
  have w1:IntKind.wrap .i64 (0+1)=1:=rfl
  have e1:decide ((0:Int) < 2)=true:=rfl
  simp only [dm,e1,cond_true,decide_true,s7,nG,nH,Bool.and_self,s8,Option.bind_some,P4,P5,XP,XQ,BQ,P8,beq_self_eq_true,nn0,Int.toNat_natCast,P7,P6,w1]
  rfl
 have s1:∀ m,dm N y (1,m)=some (.inl (2,Gy m y.2.2.1 y.2.2.2)):=fun m=>by
  have w1:IntKind.wrap .i64 (1+1)=2:=rfl
  have e1:decide ((1:Int) < 2)=true:=rfl
  have e0:decide ((1:Int)=0)=false:=rfl
  simp only [dm,e1,e0,cond_true,cond_false,decide_true,s7,nG,nH,Bool.and_self,s8,Option.bind_some,P4,P5,XP,XQ,BQ,P8,beq_self_eq_true,nn0,Int.toNat_natCast,P7,P6,w1]
  rfl
 have s2:∀ m,dm N y (2,m)=some (.inr m):=fun m=>by
  have e1:decide ((2:Int) < 2)=false:=rfl
  simp only [dm,e1,cond_true,cond_false,s7,nG,nH,Bool.and_self,s8,Option.bind_some]
 obtain ⟨k,rfl⟩:∃ k,N=k+3:=⟨N - 3,by omega⟩
 rw [bB,s0]
 simp only [Option.bind_some,Sum.elim_inl]
 rw [bB,s1]
 simp only [Option.bind_some,Sum.elim_inl]
 rw [bB,s2]
 rfl
def Wk (b:Int × Int × Int):Int × Int:=(b.1,b.2.1)
def Uw (b:Int × Int × Int):Int × Int:=(IntKind.wrap .i64 (b.1+b.2.2),IntKind.wrap .i64 (b.2.1+1))
def Wl (m:List ((Int × Int) × Int)) (b:Int × Int × Int):List ((Int × Int) × Int):=Gy (Gy m (Wk b).1 (Wk b).2) (Uw b).1 (Uw b).2
def DK (l:List (Int × Int × Int)):List ((Int × Int) × Int):=l.foldl Wl []
theorem kA (l:List (Int × Int × Int)) {k:Nat} (hk:k < l.length):d106 (ah (List.map n106 l) k)=l[k]∧aj.fits aM (ah (List.map n106 l) k)=true:=by
 rw [fS n106 l k hk,V4,V3]; exact ⟨rfl,rfl⟩
theorem JL (N:Nat) (l:List (Int × Int × Int)) (hl:l.length≤1000000) (hN:fC N):az (jS N l) N (0,[])=some (DK l):=by
 have key:=iI (rd:=jS N l) l (fun m k=>((k:Int),m)) Wl (fun m=>m) (fun _ _=>True) (fun m k hk _=>by
  obtain ⟨a1,a2⟩:=kA l hk
  have q:BO N (l[k].1,l[k].2.1,l[k].2.2)=some (l[k].1,l[k].2.1,(Uw l[k]).1,(Uw l[k]).2):=by rw [E1]; rfl
  have r:=NU N (l[k].1,l[k].2.1,(Uw l[k]).1,(Uw l[k]).2) m (by unfold fC at hN; omega)
  refine ⟨?_,trivial⟩
  simp only [jS,List.length_map,Int.toNat_natCast,a8 hk,aI hk,a1,a2,Bool.and_self,cond_true,q,Option.bind_some,s7,nG,nH,s8,r,bk (show k < 9223372036854775807 by omega)]
  rfl) (fun m _=>by
  simp only [jS,List.length_map,bp,cond_false,s7,nG,nH,Bool.and_self,s8,cond_true,Option.bind_some]) N [] 0 (Nat.zero_le _) (by unfold fC at hN; omega) trivial
 rw [List.drop_zero] at key
 exact key
theorem Wm (L:List Nat):aU (List.map n2 (Gx L))=L:=by
 unfold aU Gx
 rw [List.map_map,List.map_map]
 conv=>rhs; rw [← List.map_id L]
 apply List.map_congr_left
 intro n _
 show ((n:Int)).toNat=n
 exact Int.toNat_natCast n
theorem Wn (L:List Nat):ck L=List.map n2 (Gx L):=by
 unfold ck Gx
 rw [List.map_map]; rfl
theorem Z3 (L:List Nat):allFit (aj.fits p2) (ck L)=true:=by rw [Wn,fa2]
theorem Z4 (L:List Nat):List.map d2 (ck L)=Gx L:=by rw [Wn,md2]
def jm (m:List ((Int × Int) × Int)) (j:Int) (L:List Nat):Int:=((L.countP fun i=>decide ((m.getD i ((0,0),0)).2=j):Nat):Int)
theorem jT (m:List ((Int × Int) × Int)) (j:Int) {L:List Nat} {i:Nat} (hi:i∈L):jm m j L=jm m j (L.erase i)+if (m.getD i ((0,0),0)).2=j then 1 else 0:=by
 unfold jm
 rw [(List.perm_cons_erase hi).countP_eq,List.countP_cons]
 by_cases h:(m.getD i ((0,0),0)).2=j
 ·rw [decide_eq_true h,if_pos h]; simp
 ·rw [decide_eq_false h,if_neg h]; simp
theorem JM (m:List ((Int × Int) × Int)) (j:Int):jm m j []=0:=rfl
abbrev O5:=Int × Int × Int × Int × Int
def zU (o:O5) (n:Nat):Prop:=0≤o.1∧o.1+n≤1000000∧0≤o.2.1∧o.2.1+n≤1000000∧0≤o.2.2.1∧o.2.2.1+n≤1000000∧0≤o.2.2.2.1∧o.2.2.2.1+n≤1000000∧0≤o.2.2.2.2∧o.2.2.2.2+n≤1000000
theorem E4 (N:Nat) (m:List ((Int × Int) × Int)) (hm:∀ x∈m,0≤x.2∧x.2≤4):∀ (n:Nat) (L:List Nat) (o:O5),L.length < n→(∀ i∈L,i < m.length)→zU o L.length →
  lu (tY N) n (o.1,o.2.1,o.2.2.1,o.2.2.2.1,o.2.2.2.2,m,(m.length:Int),Gx L)=some (o.1+jm m 0 L,o.2.1+jm m 1 L,o.2.2.1+jm m 2 L,o.2.2.2.1+jm m 3 L,o.2.2.2.2+jm m 4 L,m,(m.length:Int),[])
 | 0,L,o,h,_,_=>by omega
 | n+1,L,o,h,hi,ho=>by
  rw [DJ]
  have ec:decide (m.length=m.length)=true:=decide_eq_true rfl
  cases hL:L with
  | nil=>
   have i0:List.isEmpty ([]:List Nat)=true:=rfl
   simp only [tY,JK,Int.toNat_natCast,ec,cond_true,Wm,i0,s7,nG,nH,Z3,Z4,Bool.and_self,s8,Option.bind_some,JM,Int.add_zero]
   rfl
  | cons a L'=>
   rw [← hL]
   have i0:List.isEmpty L=false:=by rw [hL]; rfl
   simp only [tY,JK,Int.toNat_natCast,ec,cond_true,cond_false,Wm,i0]
   refine LQ (by rw [hL]; simp) fun i oF=>?_
   have bP:=hi i oF
   have hv:=hm _ (List.getElem_mem bP)
   have eg:m.getD i ((0,0),0)=m[i]:=by simp [bP]
   have oL:(L.erase i).length=L.length - 1:=List.length_erase_of_mem oF
   have oE:0 < L.length:=List.length_pos_of_mem oF
   have dl:decide (i < m.length)=true:=decide_eq_true bP
   have f86:aj.fits cG (AV.agg [AV.int .i64 m[i].1.1,AV.int .i64 m[i].1.2])=true:=rfl
   have ih:=fun o' (nZ:zU o' (L.erase i).length)=>E4 N m hm n (L.erase i) o' (by omega) (fun j hj=>hi j (List.mem_of_mem_erase hj)) nZ
   have c0:=jT m 0 oF
   have c1:=jT m 1 oF
   have c2:=jT m 2 oF
   have c3:=jT m 3 oF
   have c4:=jT m 4 oF
   rw [eg] at c0 c1 c2 c3 c4
   obtain ⟨o0,o1,o2,o3,o4⟩:=o
   simp only [zU] at ho ih ⊢
   simp only [Wj m bP,f86,XP,XQ,Bool.and_self,cond_true,dl]
   generalize hvv:m[i].2=v at *
   have Wo:v=0∨v=1∨v=2∨v=3∨v=4:=by omega
   have w0:IntKind.wrap .i64 (o0+1)=o0+1:=iH ⟨by omega,by omega⟩
   have w1:IntKind.wrap .i64 (o1+1)=o1+1:=iH ⟨by omega,by omega⟩
   have w2:IntKind.wrap .i64 (o2+1)=o2+1:=iH ⟨by omega,by omega⟩
   have w3:IntKind.wrap .i64 (o3+1)=o3+1:=iH ⟨by omega,by omega⟩
   have w4:IntKind.wrap .i64 (o4+1)=o4+1:=iH ⟨by omega,by omega⟩
   have dF:decide False=false:=rfl
   have dT:decide True=true:=rfl
   rcases Wo with rfl | rfl | rfl | rfl | rfl
   all_goals simp only [dF,dT,if_pos,if_neg,ec,cond_true,cond_false,s7,nG,nH,Z3,Z4,Bool.and_self,s8,Option.bind_some,w0,w1,w2,w3,w4,Int.reduceEq,if_true,if_false,Int.add_zero] at c0 c1 c2 c3 c4 ⊢
   ·rw [ih (o0+1,o1,o2,o3,o4) (by simp only; omega),c0,c1,c2,c3,c4]; simp only; rw [show o0+1+jm m 0 (L.erase i)=o0+(jm m 0 (L.erase i)+1) by omega]
   ·rw [ih (o0,o1+1,o2,o3,o4) (by simp only; omega),c0,c1,c2,c3,c4]; simp only; rw [show o1+1+jm m 1 (L.erase i)=o1+(jm m 1 (L.erase i)+1) by omega]
   ·rw [ih (o0,o1,o2+1,o3,o4) (by simp only; omega),c0,c1,c2,c3,c4]; simp only; rw [show o2+1+jm m 2 (L.erase i)=o2+(jm m 2 (L.erase i)+1) by omega]
   ·rw [ih (o0,o1,o2,o3+1,o4) (by simp only; omega),c0,c1,c2,c3,c4]; simp only; rw [show o3+1+jm m 3 (L.erase i)=o3+(jm m 3 (L.erase i)+1) by omega]
   ·rw [ih (o0,o1,o2,o3,o4+1) (by simp only; omega),c0,c1,c2,c3,c4]; simp only; rw [show o4+1+jm m 4 (L.erase i)=o4+(jm m 4 (L.erase i)+1) by omega]
def Wp (l:List (Int × Int × Int)):O5:=
 let m:=DK l
 (jm m 0 (List.range m.length),jm m 1 (List.range m.length),jm m 2 (List.range m.length),jm m 3 (List.range m.length),jm m 4 (List.range m.length))
noncomputable def JN (N:Nat) (l:List (Int × Int × Int)):Option (O5 × Int):=(R8 N l).bind fun e=>bif (e == 0)&&(Nat.ble l.length 10000&&(Nat.ble (DK l).length 100000&&(DK l).all fun x=>decide (0≤x.2)&&decide (x.2≤4))) then some (Wp l,0) else none
theorem NV {N:Nat} (hN:fC N) (l:List (Int × Int × Int)) (y:O5 × Int) (h:JN N l=some y):ZP N l=some y:=by
 unfold JN at h
 cases Z5:R8 N l with
 | none=>rw [Z5] at h; cases h
 | some e=>
  rw [Z5,Option.bind_some] at h
  obtain ⟨hc,hy⟩:=bf h
  cases hy
  simp only [Bool.and_eq_true,beq_iff_eq] at hc
  obtain ⟨rfl,hl,hm,hv⟩:=hc
  have hl:=Nat.le_of_ble_eq_true hl
  have hm:=Nat.le_of_ble_eq_true hm
  have hv:∀ x∈DK l,0≤x.2∧x.2≤4:=fun x hx=>by
   have:=List.all_eq_true.1 hv x hx
   rw [Bool.and_eq_true] at this
   exact ⟨of_decide_eq_true this.1,of_decide_eq_true this.2⟩
  have r:=JL N l (by omega) hN
  have g0:((0:Int) != 0)=false:=rfl
  have m0:ai ([]:List (AV × AV))=[]:=rfl
  have x0:aV ([]:List (AV × AV))=true:=rfl
  have f0:allFit (aj.fits cA) []=true:=rfl
  have k0:List.map cM ([]:List AV)=[]:=rfl
  have q:=E4 N (DK l) hv N (List.range (DK l).length) (0,0,0,0,0) (by rw [List.length_range]; unfold fC at hN; omega) (fun i hi=>List.mem_range.1 hi) (by simp only [zU,List.length_range]; omega)
  simp only [Int.zero_add] at q
  rw [Sd]
  simp only [cz,cr,Bool.and_self,cond_true,Option.bind_some,Z5,g0,cond_false,m0,x0,f0,k0,r,s7,nG,nH,s8,JK,Z3,Z4,q]
  rfl
noncomputable def P9 (N:Nat):aJ:=⟨(ZQ N).ps,(ZQ N).p,JN N⟩
theorem NW {N:Nat} (hN:fC N):an bC 84 (P9 N):=fun x y h=>Sa N x y (NV hN x y h)
theorem an.toM {m:Int} {g:FuncId} {e:aJ} (h:an bC g e):an (eP m) g e:=fun x y hT=>
 aS.more (E:=bC) rfl (fun g cs hg=>by cases (show (none:Option (List AV))=some cs from hg)) (h x y hT)
end Go.Proofs.YtldcljfjjoidhaaGreatDoor
