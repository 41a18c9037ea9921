/- Plain laws: the legs of a net,for the chapter's examples. -/
import Derived.Test.YtldcljfjjoidhaaGreatDoorBraLg
import Derived.Test.YtldcljfjjoidhaaGreatDoorAmKL
import Derived.Test.YtldcljfjjoidhaaGreatDoorAmKK
set_option linter.all false
namespace Go.Proofs.YtldcljfjjoidhaaGreatDoor
open Go Go.Am
open List (map)
open Int (toNat)
open Go.IntKind (wrap)
open Go.Am.aR (fits)
set_option maxRecDepth 100000
abbrev K2:EK:=.st (.cons 0 1 false .int (.cons 1 1 false .int .nil))
theorem zl:iL K2 (fun k:Int × Int=>AV.agg [AV.int .i64 k.1,AV.int .i64 k.2]) cC ar:=⟨fun a b=>Q0 a b,fun _=>rfl,fun _=>rfl⟩
theorem TH (a b:Int) (m:List (XA × Int)):gz K2 (AV.agg [AV.int .i64 a,AV.int .i64 b]) (ab (map ar m))=true:=zl.keys (a,b) m
theorem TJ (a b:Int) (m:List (XA × Int)):eU K2 (AV.agg [AV.int .i64 a,AV.int .i64 b]) (AV.int .i64 0) (ab (map ar m))=cC ((getM (a,b) m).getD 0):=zl.getD (a,b) 0 m
theorem D6 (a b v:Int) (m:List (XA × Int)):iO K2 (AV.agg [AV.int .i64 a,AV.int .i64 b]) (cC v) (ab (map ar m))=ab (map ar (si (a,b) v m)):=zl.put (a,b) v m
theorem vP (m:List (XA × Int)):ao (ab (map ar m))=map ar m:=zl.cells m
theorem vQ (m:List (XA × Int)):bS (ab (map ar m))=true:=zl.bS m
theorem TL (a b v x:Int) (m:List (XA × Int)):kl (ab (map ar (si (a,b) v m))) (ja K2 (AV.agg [AV.int .i64 a,AV.int .i64 b]) (ab (map ar m))) (AV.int .i64 x)=ab (map ar (si (a,b) x m)):=by
 rw [← D6,zk]
 exact D6 a b x m
theorem TM (a b v:Int) (m:List (XA × Int)):decide (ja K2 (AV.agg [AV.int .i64 a,AV.int .i64 b]) (ab (map ar m)) < (ab (map ar (si (a,b) v m))).length)=true:=by
 rw [← D6]
 exact decide_eq_true (Me _ _ _ _)
theorem nn0 (n:Nat):decide (0≤(n:Int))=true:=decide_eq_true (by omega)
theorem Mg (m:List (XA × Int)):(ab (map ar m)).length=m.length:=by rw [zl.ent,List.length_map]
theorem ZY (m:List (XA × Int)) {i:Nat} (h:i < m.length):eT (ab (map ar m)) i=(AV.agg [AV.int .i64 m[i].1.1,AV.int .i64 m[i].1.2],cC m[i].2):=by
 rw [zl.ent,Mf _ m h]
def Jb (m:List (XA × Int)) (a b:Int):List (XA × Int):=si (a,b) (wrap .i64 ((getM (a,b) m).getD 0+1)) m
theorem TN (a b v:Int) (m:List (XA × Int)):(getM (a,b) (si (a,b) v m)).getD 0=v:=by rw [D4,if_pos rfl]; rfl
theorem Q1 (N:Nat) (y:Int × Int × Int × Int) (m:List (XA × Int)) (hN:3≤N):aL (eK N y) N (0,m)=some (Jb (Jb m y.1 y.2.1) y.2.2.1 y.2.2.2):=by
 have s0:∀ m,eK N y (0,m)=some (.inl (1,Jb m y.1 y.2.1)):=fun m=>by
  have w1:wrap .i64 (0+1)=1:=rfl
  have e1:decide ((0:Int) < 2)=true:=rfl
  simp only [eK,eY,dI,fJ,e1,cond_true,decide_true,vP,pU,pV,Bool.and_self,vQ,Option.bind_some,TH,TJ,fn3,dn3,D6,TN,beq_self_eq_true,nn0,Int.toNat_natCast,TM,TL,w1]
  rfl
 have s1:∀ m,eK N y (1,m)=some (.inl (2,Jb m y.2.2.1 y.2.2.2)):=fun m=>by
  have w1:wrap .i64 (1+1)=2:=rfl
  have e1:decide ((1:Int) < 2)=true:=rfl
  have e0:decide ((1:Int)=0)=false:=rfl
  simp only [eK,eY,dI,fJ,e1,e0,cond_true,cond_false,decide_true,vP,pU,pV,Bool.and_self,vQ,Option.bind_some,TH,TJ,fn3,dn3,D6,TN,beq_self_eq_true,nn0,Int.toNat_natCast,TM,TL,w1]
  rfl
 have s2:∀ m,eK N y (2,m)=some (.inr m):=fun m=>by
  have e1:decide ((2:Int) < 2)=false:=rfl
  simp only [eK,eY,dI,fJ,e1,cond_true,cond_false,vP,pU,pV,Bool.and_self,vQ,Option.bind_some]
 obtain ⟨k,rfl⟩:∃ k,N=k+3:=⟨N - 3,by omega⟩
 rw [bB,s0]
 simp only [Option.bind_some,Sum.elim_inl]
 rw [bB,s1]
 simp only [Option.bind_some,Sum.elim_inl]
 rw [bB,s2]
 rfl
def ZZ (b:Int × Int × Int):Int × Int:=(b.1,b.2.1)
def Yk (b:Int × Int × Int):Int × Int:=(wrap .i64 (b.1+b.2.2),wrap .i64 (b.2.1+1))
def Z0 (m:List (XA × Int)) (b:Int × Int × Int):List (XA × Int):=Jb (Jb m (ZZ b).1 (ZZ b).2) (Yk b).1 (Yk b).2
def Gj (l:List XB):List (XA × Int):=l.foldl Z0 []
theorem gl (l:List XB) {k:Nat} (hk:k < l.length):aw (ah (map af l) k)=l[k]∧fits ay (ah (map af l) k)=true:=by
 rw [fH af l k hk,ZP,ZO]; exact ⟨rfl,rfl⟩
theorem Mh (N:Nat) (l:List XB) (hl:l.length≤1000000) (hN:fL N):aL (lF N l) N (0,[])=some (Gj l):=by
 have key:=mq (rd:=lF N l) l (fun m k=>((k:Int),m)) Z0 (fun m=>m) (fun _ _=>True) (fun m k hk _=>by
  obtain ⟨a1,a2⟩:=gl l hk
  have q:I8 N (l[k].1,l[k].2.1,l[k].2.2)=some (l[k].1,l[k].2.1,(Yk l[k]).1,(Yk l[k]).2):=by rw [HA]; rfl
  have r:=Q1 N (l[k].1,l[k].2.1,(Yk l[k]).1,(Yk l[k]).2) m (by unfold fL at hN; omega)
  refine ⟨?_,trivial⟩
  simp only [lF,List.length_map,Int.toNat_natCast,a8 hk,aB hk,a1,a2,Bool.and_self,cond_true,q,Option.bind_some,vP,pU,pV,vQ,r,bE (show k < 9223372036854775807 by omega)]
  rfl) (fun m _=>by
  simp only [lF,List.length_map,bO,cond_false,vP,pU,pV,Bool.and_self,vQ,cond_true,Option.bind_some]) N [] 0 (Nat.zero_le _) (by unfold fL at hN; omega) trivial
 rw [List.drop_zero] at key
 exact key
theorem Z1 (L:List Nat):ba (map iX (Ja L))=L:=by
 unfold ba Ja
 rw [List.map_map,List.map_map]
 conv=>rhs; rw [← List.map_id L]
 apply List.map_congr_left
 intro n _
 show ((n:Int)).toNat=n
 exact Int.toNat_natCast n
theorem Z2 (L:List Nat):cM L=map iX (Ja L):=by
 unfold cM Ja
 rw [List.map_map]; rfl
theorem faZ (L:List Nat):allFit (fits p2) (cM L)=true:=by rw [Z2,fa2]
theorem mdZ (L:List Nat):map kw (cM L)=Ja L:=by rw [Z2,md2]
def kL (m:List (XA × Int)) (j:Int) (L:List Nat):Int:=((L.countP fun i=>decide ((m.getD i ((0,0),0)).2=j):Nat):Int)
theorem lG (m:List (XA × Int)) (j:Int) {L:List Nat} {i:Nat} (hi:i∈L):kL m j L=kL m j (L.erase i)+if (m.getD i ((0,0),0)).2=j then 1 else 0:=by
 unfold kL
 rw [(List.perm_cons_erase hi).countP_eq,List.countP_cons]
 by_cases h:(m.getD i ((0,0),0)).2=j
 ·rw [decide_eq_true h,if_pos h]; simp
 ·rw [decide_eq_false h,if_neg h]; simp
theorem Mi (m:List (XA × Int)) (j:Int):kL m j []=0:=rfl
abbrev O5:=Int × Int × Int × Int × Int
def Cn (o:O5) (n:Nat):Prop:=0≤o.1∧o.1+n≤1000000∧0≤o.2.1∧o.2.1+n≤1000000∧0≤o.2.2.1∧o.2.2.1+n≤1000000∧0≤o.2.2.2.1∧o.2.2.2.1+n≤1000000∧0≤o.2.2.2.2∧o.2.2.2.2+n≤1000000
theorem HB (N:Nat) (m:List (XA × Int)) (hm:∀ x∈m,0≤x.2∧x.2≤4):∀ (n:Nat) (L:List Nat) (o:O5),L.length < n→(∀ i∈L,i < m.length)→Cn o L.length →
  nq (wY N) n (o.1,o.2.1,o.2.2.1,o.2.2.2.1,o.2.2.2.2,m,(m.length:Int),Ja L)=some (o.1+kL m 0 L,o.2.1+kL m 1 L,o.2.2.1+kL m 2 L,o.2.2.2.1+kL m 3 L,o.2.2.2.2+kL m 4 L,m,(m.length:Int),[])
 | 0,L,o,h,_,_=>by omega
 | n+1,L,o,h,hi,ho=>by
  rw [Gi]
  have ec:decide (m.length=m.length)=true:=decide_eq_true rfl
  cases hL:L with
  | nil=>
   have i0:List.isEmpty ([]:List Nat)=true:=rfl
   simp only [wY,Mg,Int.toNat_natCast,ec,cond_true,Z1,i0,vP,pU,pV,faZ,mdZ,Bool.and_self,vQ,Option.bind_some,Mi,Int.add_zero]
   rfl
  | cons a L'=>
   rw [← hL]
   have i0:List.isEmpty L=false:=by rw [hL]; rfl
   simp only [wY,Mg,Int.toNat_natCast,ec,cond_true,cond_false,Z1,i0]
   refine O0 (by rw [hL]; simp) fun i qR=>?_
   have cu:=hi i qR
   have hv:=hm _ (List.getElem_mem cu)
   have eg:m.getD i ((0,0),0)=m[i]:=by simp [cu]
   have qj:(L.erase i).length=L.length - 1:=List.length_erase_of_mem qR
   have oO:0 < L.length:=List.length_pos_of_mem qR
   have dl:decide (i < m.length)=true:=decide_eq_true cu
   have f86:fits fI (AV.agg [AV.int .i64 m[i].1.1,AV.int .i64 m[i].1.2])=true:=rfl
   have ih:=fun o' (oS:Cn o' (L.erase i).length)=>HB N m hm n (L.erase i) o' (by omega) (fun j hj=>hi j (List.mem_of_mem_erase hj)) oS
   have c0:=lG m 0 qR
   have c1:=lG m 1 qR
   have c2:=lG m 2 qR
   have c3:=lG m 3 qR
   have c4:=lG m 4 qR
   rw [eg] at c0 c1 c2 c3 c4
   obtain ⟨o0,o1,o2,o3,o4⟩:=o
   simp only [Cn] at ho ih ⊢
   simp only [ZY m cu,f86,fn3,dn3,Bool.and_self,cond_true,dl]
   generalize hvv:m[i].2=v at *
   have Z3:v=0∨v=1∨v=2∨v=3∨v=4:=by omega
   have w0:wrap .i64 (o0+1)=o0+1:=gk ⟨by omega,by omega⟩
   have w1:wrap .i64 (o1+1)=o1+1:=gk ⟨by omega,by omega⟩
   have w2:wrap .i64 (o2+1)=o2+1:=gk ⟨by omega,by omega⟩
   have w3:wrap .i64 (o3+1)=o3+1:=gk ⟨by omega,by omega⟩
   have w4:wrap .i64 (o4+1)=o4+1:=gk ⟨by omega,by omega⟩
   have dF:decide False=false:=rfl
   have dT:decide True=true:=rfl
   rcases Z3 with rfl | rfl | rfl | rfl | rfl
   all_goals simp only [dF,dT,if_pos,if_neg,ec,cond_true,cond_false,vP,pU,pV,faZ,mdZ,Bool.and_self,vQ,Option.bind_some,w0,w1,w2,w3,w4,Int.reduceEq,if_true,if_false,Int.add_zero] at c0 c1 c2 c3 c4 ⊢
   ·rw [ih (o0+1,o1,o2,o3,o4) (by simp only; omega),c0,c1,c2,c3,c4]; simp only; rw [show o0+1+kL m 0 (L.erase i)=o0+(kL m 0 (L.erase i)+1) by omega]
   ·rw [ih (o0,o1+1,o2,o3,o4) (by simp only; omega),c0,c1,c2,c3,c4]; simp only; rw [show o1+1+kL m 1 (L.erase i)=o1+(kL m 1 (L.erase i)+1) by omega]
   ·rw [ih (o0,o1,o2+1,o3,o4) (by simp only; omega),c0,c1,c2,c3,c4]; simp only; rw [show o2+1+kL m 2 (L.erase i)=o2+(kL m 2 (L.erase i)+1) by omega]
   ·rw [ih (o0,o1,o2,o3+1,o4) (by simp only; omega),c0,c1,c2,c3,c4]; simp only; rw [show o3+1+kL m 3 (L.erase i)=o3+(kL m 3 (L.erase i)+1) by omega]
   ·rw [ih (o0,o1,o2,o3,o4+1) (by simp only; omega),c0,c1,c2,c3,c4]; simp only; rw [show o4+1+kL m 4 (L.erase i)=o4+(kL m 4 (L.erase i)+1) by omega]
def Z4 (l:List XB):O5:=
 let m:=Gj l
 (kL m 0 (List.range m.length),kL m 1 (List.range m.length),kL m 2 (List.range m.length),kL m 3 (List.range m.length),kL m 4 (List.range m.length))
noncomputable def Mj (N:Nat) (l:List XB):Option (O5 × Int):=(TF N l).bind fun e=>bif (e == 0)&&(Nat.ble l.length 10000&&(Nat.ble (Gj l).length 100000&&(Gj l).all fun x=>decide (0≤x.2)&&decide (x.2≤4))) then some (Z4 l,0) else none
theorem Q2 {N:Nat} (hN:fL N) (l:List XB) (y:O5 × Int) (h:Mj N l=some y):T84 N l=some y:=by
 unfold Mj at h
 cases h79:TF N l with
 | none=>rw [h79] at h; cases h
 | some e=>
  rw [h79,Option.bind_some] at h
  obtain ⟨hc,hy⟩:=bq h
  cases hy
  simp only [Bool.and_eq_true,beq_iff_eq] at hc
  obtain ⟨rfl,hl,hm,hv⟩:=hc
  have hl:=Nat.le_of_ble_eq_true hl
  have hm:=Nat.le_of_ble_eq_true hm
  have hv:∀ x∈Gj l,0≤x.2∧x.2≤4:=fun x hx=>by
   have:=List.all_eq_true.1 hv x hx
   rw [Bool.and_eq_true] at this
   exact ⟨of_decide_eq_true this.1,of_decide_eq_true this.2⟩
  have r:=Mh N l (by omega) hN
  have g0:((0:Int) != 0)=false:=rfl
  have m0:ao ([]:List (AV × AV))=[]:=rfl
  have x0:bS ([]:List (AV × AV))=true:=rfl
  have f0:allFit (fits cw) []=true:=rfl
  have k0:map dz ([]:List AV)=[]:=rfl
  have q:=HB N (Gj l) hv N (List.range (Gj l).length) (0,0,0,0,0) (by rw [List.length_range]; unfold fL at hN; omega) (fun i hi=>List.mem_range.1 hi) (by simp only [Cn,List.length_range]; omega)
  simp only [Int.zero_add] at q
  rw [VT]
  simp only [fy,fj,Bool.and_self,cond_true,Option.bind_some,h79,g0,cond_false,m0,x0,f0,k0,r,vP,pU,pV,vQ,Mg,faZ,mdZ,q]
  rfl
noncomputable def TO (N:Nat):aS:=⟨(e84 N).ps,(e84 N).p,Mj N⟩
theorem Q3 {N:Nat} (hN:fL N):ak bF 84 (TO N):=fun x y h=>VP N x y (Q2 hN x y h)
theorem ak.toM {m:Int} {g:FuncId} {e:aS} (h:ak bF g e):ak (gu m) g e:=fun x y hT=>
 a7.more (E:=bF) rfl (fun g cs hg=>by cases (show (none:Option (List AV))=some cs from hg)) (h x y hT)
end Go.Proofs.YtldcljfjjoidhaaGreatDoor
