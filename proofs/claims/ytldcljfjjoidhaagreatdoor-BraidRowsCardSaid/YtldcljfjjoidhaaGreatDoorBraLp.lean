/- Plain laws: the legs of a net,for the chapter's examples. -/
import Derived.Test.YtldcljfjjoidhaaGreatDoorBraLg
import Derived.Test.YtldcljfjjoidhaaGreatDoorAmKL
import Derived.Test.YtldcljfjjoidhaaGreatDoorAmKK
set_option linter.all false
namespace Go.Proofs.YtldcljfjjoidhaaGreatDoor
open Go Go.Am
open List (map)
open Int (toNat)
open Go.IntKind (wrap)
open Go.Am.aO (fits)
set_option maxRecDepth 100000
abbrev K2:EK:=.st (.cons 0 1 false .int (.cons 1 1 false .int .nil))
theorem xH:hY K2 (fun k:Int × Int=>AV.agg [AV.int .i64 k.1,AV.int .i64 k.2]) dY aq:=⟨fun a b=>Pz a b,fun _=>rfl,fun _=>rfl⟩
theorem Rs (a b:Int) (m:List (XA × Int)):dZ K2 (AV.agg [AV.int .i64 a,AV.int .i64 b]) (ab (map aq m))=true:=xH.keys (a,b) m
theorem Rt (a b:Int) (m:List (XA × Int)):cM K2 (AV.agg [AV.int .i64 a,AV.int .i64 b]) (AV.int .i64 0) (ab (map aq m))=dY ((getM (a,b) m).getD 0):=xH.getD (a,b) 0 m
theorem C9 (a b v:Int) (m:List (XA × Int)):eN K2 (AV.agg [AV.int .i64 a,AV.int .i64 b]) (dY v) (ab (map aq m))=ab (map aq (nK (a,b) v m)):=xH.put (a,b) v m
theorem ur (m:List (XA × Int)):an (ab (map aq m))=map aq m:=xH.cells m
theorem uu (m:List (XA × Int)):bA (ab (map aq m))=true:=xH.bA m
theorem Ru (a b v x:Int) (m:List (XA × Int)):jD (ab (map aq (nK (a,b) v m))) (iq K2 (AV.agg [AV.int .i64 a,AV.int .i64 b]) (ab (map aq m))) (AV.int .i64 x)=ab (map aq (nK (a,b) x m)):=by
 rw [← C9,xG]
 exact C9 a b x m
theorem Rv (a b v:Int) (m:List (XA × Int)):decide (iq K2 (AV.agg [AV.int .i64 a,AV.int .i64 b]) (ab (map aq m)) < (ab (map aq (nK (a,b) v m))).length)=true:=by
 rw [← C9]
 exact decide_eq_true (KZ _ _ _ _)
theorem nn0 (n:Nat):decide (0≤(n:Int))=true:=decide_eq_true (by omega)
theorem K1 (m:List (XA × Int)):(ab (map aq m)).length=m.length:=by rw [xH.ent,List.length_map]
theorem Xm (m:List (XA × Int)) {i:Nat} (h:i < m.length):dU (ab (map aq m)) i=(AV.agg [AV.int .i64 m[i].1.1,AV.int .i64 m[i].1.2],dY m[i].2):=by
 rw [xH.ent,K0 _ m h]
def qD (m:List (XA × Int)) (a b:Int):List (XA × Int):=nK (a,b) (wrap .i64 ((getM (a,b) m).getD 0+1)) m
theorem Rw (a b v:Int) (m:List (XA × Int)):(getM (a,b) (nK (a,b) v m)).getD 0=v:=by rw [xF,if_pos rfl]; rfl
theorem PA (N:Nat) (y:Int × Int × Int × Int) (m:List (XA × Int)) (hN:3≤N):aN (dN N y) N (0,m)=some (qD (qD m y.1 y.2.1) y.2.2.1 y.2.2.2):=by
 have s0:∀ m,dN N y (0,m)=some (.inl (1,qD m y.1 y.2.1)):=fun m=>by
  have w1:wrap .i64 (0+1)=1:=rfl
  have e1:decide ((0:Int) < 2)=true:=rfl
  simp only [dN,dW,di,e8,e1,cond_true,decide_true,ur,oI,oJ,Bool.and_self,uu,Option.bind_some,Rs,Rt,fn3,dn3,C9,Rw,beq_self_eq_true,nn0,Int.toNat_natCast,Rv,Ru,w1]
  rfl
 have s1:∀ m,dN N y (1,m)=some (.inl (2,qD m y.2.2.1 y.2.2.2)):=fun m=>by
  have w1:wrap .i64 (1+1)=2:=rfl
  have e1:decide ((1:Int) < 2)=true:=rfl
  have e0:decide ((1:Int)=0)=false:=rfl
  simp only [dN,dW,di,e8,e1,e0,cond_true,cond_false,decide_true,ur,oI,oJ,Bool.and_self,uu,Option.bind_some,Rs,Rt,fn3,dn3,C9,Rw,beq_self_eq_true,nn0,Int.toNat_natCast,Rv,Ru,w1]
  rfl
 have s2:∀ m,dN N y (2,m)=some (.inr m):=fun m=>by
  have e1:decide ((2:Int) < 2)=false:=rfl
  simp only [dN,dW,di,e8,e1,cond_true,cond_false,ur,oI,oJ,Bool.and_self,uu,Option.bind_some]
 obtain ⟨k,rfl⟩:∃ k,N=k+3:=⟨N - 3,by omega⟩
 rw [a6,s0]
 simp only [Option.bind_some,Sum.elim_inl]
 rw [a6,s1]
 simp only [Option.bind_some,Sum.elim_inl]
 rw [a6,s2]
 rfl
def qE (b:Int × Int × Int):Int × Int:=(b.1,b.2.1)
def Gi (b:Int × Int × Int):Int × Int:=(wrap .i64 (b.1+b.2.2),wrap .i64 (b.2.1+1))
def xI (m:List (XA × Int)) (b:Int × Int × Int):List (XA × Int):=qD (qD m (qE b).1 (qE b).2) (Gi b).1 (Gi b).2
def li (l:List XB):List (XA × Int):=l.foldl xI []
theorem eF (l:List XB) {k:Nat} (hk:k < l.length):ak (aj (map ae l) k)=l[k]∧fits au (aj (map ae l) k)=true:=by
 rw [gM ae l k hk,Xc,Xb]; exact ⟨rfl,rfl⟩
theorem K3 (N:Nat) (l:List XB) (hl:l.length≤1000000) (hN:e7 N):aN (kP N l) N (0,[])=some (li l):=by
 have key:=dh (rd:=kP N l) l (fun m k=>((k:Int),m)) xI (fun m=>m) (fun _ _=>True) (fun m k hk _=>by
  obtain ⟨a1,a2⟩:=eF l hk
  have q:C7 N (l[k].1,l[k].2.1,l[k].2.2)=some (l[k].1,l[k].2.1,(Gi l[k]).1,(Gi l[k]).2):=by rw [Gg]; rfl
  have r:=PA N (l[k].1,l[k].2.1,(Gi l[k]).1,(Gi l[k]).2) m (by unfold e7 at hN; omega)
  refine ⟨?_,trivial⟩
  simp only [kP,List.length_map,Int.toNat_natCast,aX hk,ay hk,a1,a2,Bool.and_self,cond_true,q,Option.bind_some,ur,oI,oJ,uu,r,bN (show k < 9223372036854775807 by omega)]
  rfl) (fun m _=>by
  simp only [kP,List.length_map,bJ,cond_false,ur,oI,oJ,Bool.and_self,uu,cond_true,Option.bind_some]) N [] 0 (Nat.zero_le _) (by unfold e7 at hN; omega) trivial
 rw [List.drop_zero] at key
 exact key
theorem Xn (L:List Nat):aY (map gU (HP L))=L:=by
 unfold aY HP
 rw [List.map_map,List.map_map]
 conv=>rhs; rw [← List.map_id L]
 apply List.map_congr_left
 intro n _
 show ((n:Int)).toNat=n
 exact Int.toNat_natCast n
theorem Xo (L:List Nat):cB L=map gU (HP L):=by
 unfold cB HP
 rw [List.map_map]; rfl
theorem faZ (L:List Nat):allFit (fits p2) (cB L)=true:=by rw [Xo,fa2]
theorem mdZ (L:List Nat):map p0 (cB L)=HP L:=by rw [Xo,md2]
def iO (m:List (XA × Int)) (j:Int) (L:List Nat):Int:=((L.countP fun i=>decide ((m.getD i ((0,0),0)).2=j):Nat):Int)
theorem kQ (m:List (XA × Int)) (j:Int) {L:List Nat} {i:Nat} (hi:i∈L):iO m j L=iO m j (L.erase i)+if (m.getD i ((0,0),0)).2=j then 1 else 0:=by
 unfold iO
 rw [(List.perm_cons_erase hi).countP_eq,List.countP_cons]
 by_cases h:(m.getD i ((0,0),0)).2=j
 ·rw [decide_eq_true h,if_pos h]; simp
 ·rw [decide_eq_false h,if_neg h]; simp
theorem K4 (m:List (XA × Int)) (j:Int):iO m j []=0:=rfl
abbrev O5:=Int × Int × Int × Int × Int
def Bj (o:O5) (n:Nat):Prop:=0≤o.1∧o.1+n≤1000000∧0≤o.2.1∧o.2.1+n≤1000000∧0≤o.2.2.1∧o.2.2.1+n≤1000000∧0≤o.2.2.2.1∧o.2.2.2.1+n≤1000000∧0≤o.2.2.2.2∧o.2.2.2.2+n≤1000000
theorem Gj (N:Nat) (m:List (XA × Int)) (hm:∀ x∈m,0≤x.2∧x.2≤4):∀ (n:Nat) (L:List Nat) (o:O5),L.length < n→(∀ i∈L,i < m.length)→Bj o L.length →
  mo (vp N) n (o.1,o.2.1,o.2.2.1,o.2.2.2.1,o.2.2.2.2,m,(m.length:Int),HP L)=some (o.1+iO m 0 L,o.2.1+iO m 1 L,o.2.2.1+iO m 2 L,o.2.2.2.1+iO m 3 L,o.2.2.2.2+iO m 4 L,m,(m.length:Int),[])
 | 0,L,o,h,_,_=>by omega
 | n+1,L,o,h,hi,ho=>by
  rw [E5]
  have ec:decide (m.length=m.length)=true:=decide_eq_true rfl
  cases hL:L with
  | nil=>
   have i0:List.isEmpty ([]:List Nat)=true:=rfl
   simp only [vp,K1,Int.toNat_natCast,ec,cond_true,Xn,i0,ur,oI,oJ,faZ,mdZ,Bool.and_self,uu,Option.bind_some,K4,Int.add_zero]
   rfl
  | cons a L'=>
   rw [← hL]
   have i0:List.isEmpty L=false:=by rw [hL]; rfl
   simp only [vp,K1,Int.toNat_natCast,ec,cond_true,cond_false,Xn,i0]
   refine Nv (by rw [hL]; simp) fun i pF=>?_
   have cg:=hi i pF
   have hv:=hm _ (List.getElem_mem cg)
   have eg:m.getD i ((0,0),0)=m[i]:=by simp [cg]
   have oS:(L.erase i).length=L.length - 1:=List.length_erase_of_mem pF
   have mR:0 < L.length:=List.length_pos_of_mem pF
   have dl:decide (i < m.length)=true:=decide_eq_true cg
   have f86:fits fI (AV.agg [AV.int .i64 m[i].1.1,AV.int .i64 m[i].1.2])=true:=rfl
   have ih:=fun o' (nL:Bj o' (L.erase i).length)=>Gj N m hm n (L.erase i) o' (by omega) (fun j hj=>hi j (List.mem_of_mem_erase hj)) nL
   have c0:=kQ m 0 pF
   have c1:=kQ m 1 pF
   have c2:=kQ m 2 pF
   have c3:=kQ m 3 pF
   have c4:=kQ m 4 pF
   rw [eg] at c0 c1 c2 c3 c4
   obtain ⟨o0,o1,o2,o3,o4⟩:=o
   simp only [Bj] at ho ih ⊢
   simp only [Xm m cg,f86,fn3,dn3,Bool.and_self,cond_true,dl]
   generalize hvv:m[i].2=v at *
   have Xp:v=0∨v=1∨v=2∨v=3∨v=4:=by omega
   have w0:wrap .i64 (o0+1)=o0+1:=ki ⟨by omega,by omega⟩
   have w1:wrap .i64 (o1+1)=o1+1:=ki ⟨by omega,by omega⟩
   have w2:wrap .i64 (o2+1)=o2+1:=ki ⟨by omega,by omega⟩
   have w3:wrap .i64 (o3+1)=o3+1:=ki ⟨by omega,by omega⟩
   have w4:wrap .i64 (o4+1)=o4+1:=ki ⟨by omega,by omega⟩
   have dF:decide False=false:=rfl
   have dT:decide True=true:=rfl
   rcases Xp with rfl | rfl | rfl | rfl | rfl
   all_goals simp only [dF,dT,if_pos,if_neg,ec,cond_true,cond_false,ur,oI,oJ,faZ,mdZ,Bool.and_self,uu,Option.bind_some,w0,w1,w2,w3,w4,Int.reduceEq,if_true,if_false,Int.add_zero] at c0 c1 c2 c3 c4 ⊢
   ·rw [ih (o0+1,o1,o2,o3,o4) (by simp only; omega),c0,c1,c2,c3,c4]; simp only; rw [show o0+1+iO m 0 (L.erase i)=o0+(iO m 0 (L.erase i)+1) by omega]
   ·rw [ih (o0,o1+1,o2,o3,o4) (by simp only; omega),c0,c1,c2,c3,c4]; simp only; rw [show o1+1+iO m 1 (L.erase i)=o1+(iO m 1 (L.erase i)+1) by omega]
   ·rw [ih (o0,o1,o2+1,o3,o4) (by simp only; omega),c0,c1,c2,c3,c4]; simp only; rw [show o2+1+iO m 2 (L.erase i)=o2+(iO m 2 (L.erase i)+1) by omega]
   ·rw [ih (o0,o1,o2,o3+1,o4) (by simp only; omega),c0,c1,c2,c3,c4]; simp only; rw [show o3+1+iO m 3 (L.erase i)=o3+(iO m 3 (L.erase i)+1) by omega]
   ·rw [ih (o0,o1,o2,o3,o4+1) (by simp only; omega),c0,c1,c2,c3,c4]; simp only; rw [show o4+1+iO m 4 (L.erase i)=o4+(iO m 4 (L.erase i)+1) by omega]
def zX (l:List XB):O5:=
 let m:=li l
 (iO m 0 (List.range m.length),iO m 1 (List.range m.length),iO m 2 (List.range m.length),iO m 3 (List.range m.length),iO m 4 (List.range m.length))
noncomputable def Gk (N:Nat) (l:List XB):Option (O5 × Int):=(Rr N l).bind fun e=>bif (e == 0)&&(Nat.ble l.length 10000&&(Nat.ble (li l).length 100000&&(li l).all fun x=>decide (0≤x.2)&&decide (x.2≤4))) then some (zX l,0) else none
theorem Gl {N:Nat} (hN:e7 N) (l:List XB) (y:O5 × Int) (h:Gk N l=some y):Xk N l=some y:=by
 unfold Gk at h
 cases h79:Rr N l with
 | none=>rw [h79] at h; cases h
 | some e=>
  rw [h79,Option.bind_some] at h
  obtain ⟨hc,hy⟩:=bj h
  cases hy
  simp only [Bool.and_eq_true,beq_iff_eq] at hc
  obtain ⟨rfl,hl,hm,hv⟩:=hc
  have hl:=Nat.le_of_ble_eq_true hl
  have hm:=Nat.le_of_ble_eq_true hm
  have hv:∀ x∈li l,0≤x.2∧x.2≤4:=fun x hx=>by
   have:=List.all_eq_true.1 hv x hx
   rw [Bool.and_eq_true] at this
   exact ⟨of_decide_eq_true this.1,of_decide_eq_true this.2⟩
  have r:=K3 N l (by omega) hN
  have g0:((0:Int) != 0)=false:=rfl
  have m0:an ([]:List (AV × AV))=[]:=rfl
  have x0:bA ([]:List (AV × AV))=true:=rfl
  have f0:allFit (fits ck) []=true:=rfl
  have k0:map cV ([]:List AV)=[]:=rfl
  have q:=Gj N (li l) hv N (List.range (li l).length) (0,0,0,0,0) (by rw [List.length_range]; unfold e7 at hN; omega) (fun i hi=>List.mem_range.1 hi) (by simp only [Bj,List.length_range]; omega)
  simp only [Int.zero_add] at q
  rw [TM]
  simp only [cn,cj,Bool.and_self,cond_true,Option.bind_some,h79,g0,cond_false,m0,x0,f0,k0,r,ur,oI,oJ,uu,K1,faZ,mdZ,q]
  rfl
noncomputable def Rx (N:Nat):aZ:=⟨(YZ N).ps,(YZ N).p,Gk N⟩
theorem PB {N:Nat} (hN:e7 N):ap bR 84 (Rx N):=fun x y h=>KY N x y (Gl hN x y h)
theorem ap.toM {m:Int} {g:FuncId} {e:aZ} (h:ap bR g e):ap (fK m) g e:=fun x y hT=>
 aW.more (E:=bR) rfl (fun g cs hg=>by cases (show (none:Option (List AV))=some cs from hg)) (h x y hT)
end Go.Proofs.YtldcljfjjoidhaaGreatDoor
