/- Plain law: how many knots of a net have each degree. -/
import Derived.Test.YtophnjjjmikmeaaGreatOttV
import Derived.Test.YtophnjjjmikmeaaGreatAmKM
import Derived.Test.YtophnjjjmikmeaaGreatOttPk
set_option linter.all false
namespace Go.Proofs.YtophnjjjmikmeaaGreat
open Go Go.Am
set_option maxRecDepth 100000
abbrev K2:EK:=.st (.cons 0 1 false .int (.cons 1 1 false .int .nil))
theorem FR:gI K2 (fun k:Int × Int=>AV.agg [AV.int .i64 k.1,AV.int .i64 k.2]) n3 aA:=⟨fun a b=>OF a b,fun _=>rfl,fun _=>rfl⟩
theorem Wa (a b:Int) (m:List ((Int × Int) × Int)):cH K2 (AV.agg [AV.int .i64 a,AV.int .i64 b]) (ab (List.map aA m))=true:=FR.keys (a,b) m
theorem Wb (a b:Int) (m:List ((Int × Int) × Int)):bu K2 (AV.agg [AV.int .i64 a,AV.int .i64 b]) (AV.int .i64 0) (ab (List.map aA m))=n3 ((getM (a,b) m).getD 0):=FR.getD (a,b) 0 m
theorem Lx (a b v:Int) (m:List ((Int × Int) × Int)):bi K2 (AV.agg [AV.int .i64 a,AV.int .i64 b]) (n3 v) (ab (List.map aA m))=ab (List.map aA (oe (a,b) v m)):=FR.put (a,b) v m
theorem Dp (m:List ((Int × Int) × Int)):ah (ab (List.map aA m))=List.map aA m:=FR.cells m
theorem Dq (m:List ((Int × Int) × Int)):bo (ab (List.map aA m))=true:=FR.bo m
theorem Wc (a b v x:Int) (m:List ((Int × Int) × Int)):hY (ab (List.map aA (oe (a,b) v m))) (gr K2 (AV.agg [AV.int .i64 a,AV.int .i64 b]) (ab (List.map aA m))) (AV.int .i64 x)=ab (List.map aA (oe (a,b) x m)):=by
 rw [← Lx,xZ]
 exact Lx a b x m
theorem Wd (a b v:Int) (m:List ((Int × Int) × Int)):decide (gr K2 (AV.agg [AV.int .i64 a,AV.int .i64 b]) (ab (List.map aA m)) < (ab (List.map aA (oe (a,b) v m))).length)=true:=by
 rw [← Lx]
 exact decide_eq_true (Lv _ _ _ _)
theorem nn0 (n:Nat):decide (0≤(n:Int))=true:=decide_eq_true (by omega)
theorem Tq (m:List ((Int × Int) × Int)):(ab (List.map aA m)).length=m.length:=by rw [FR.ZD,List.length_map]
theorem ZE (m:List ((Int × Int) × Int)) {i:Nat} (h:i < m.length):dD (ab (List.map aA m)) i=(AV.agg [AV.int .i64 m[i].1.1,AV.int .i64 m[i].1.2],n3 m[i].2):=by
 rw [FR.ZD,Lw _ m h]
def pY (m:List ((Int × Int) × Int)) (a b:Int):List ((Int × Int) × Int):=oe (a,b) (IntKind.wrap .i64 ((getM (a,b) m).getD 0+1)) m
theorem PH (a b v:Int) (m:List ((Int × Int) × Int)):(getM (a,b) (oe (a,b) v m)).getD 0=v:=by rw [xY,if_pos rfl]; rfl
theorem Tr (N:Nat) (y:Int × Int × Int × Int) (m:List ((Int × Int) × Int)) (hN:3≤N):aZ (dS N y) N (0,m)=some (pY (pY m y.1 y.2.1) y.2.2.1 y.2.2.2):=by
 have s0:∀ m,dS N y (0,m)=some (.inl (1,pY m y.1 y.2.1)):=fun m=>by
  have w1:IntKind.wrap .i64 (0+1)=1:=rfl
  have e1:decide ((0:Int) < 2)=true:=rfl
  simp only [dS,e1,cond_true,decide_true,Dp,uf,ug,Bool.and_self,Dq,Option.bind_some,Wa,Wb,Zg,Zh,Lx,PH,beq_self_eq_true,nn0,Int.toNat_natCast,Wd,Wc,w1]
  rfl
 have s1:∀ m,dS N y (1,m)=some (.inl (2,pY m y.2.2.1 y.2.2.2)):=fun m=>by
  have w1:IntKind.wrap .i64 (1+1)=2:=rfl
  have e1:decide ((1:Int) < 2)=true:=rfl
  have e0:decide ((1:Int)=0)=false:=rfl
  simp only [dS,e1,e0,cond_true,cond_false,decide_true,Dp,uf,ug,Bool.and_self,Dq,Option.bind_some,Wa,Wb,Zg,Zh,Lx,PH,beq_self_eq_true,nn0,Int.toNat_natCast,Wd,Wc,w1]
  rfl
 have s2:∀ m,dS N y (2,m)=some (.inr m):=fun m=>by
  have e1:decide ((2:Int) < 2)=false:=rfl
  simp only [dS,e1,cond_true,cond_false,Dp,uf,ug,Bool.and_self,Dq,Option.bind_some]
 obtain ⟨k,rfl⟩:∃ k,N=k+3:=⟨N - 3,by omega⟩
 rw [bf,s0]
 simp only [Option.bind_some,Sum.elim_inl]
 rw [bf,s1]
 simp only [Option.bind_some,Sum.elim_inl]
 rw [bf,s2]
 rfl
def pZ (b:Int × Int × Int):Int × Int:=(b.1,b.2.1)
def GZ (b:Int × Int × Int):Int × Int:=(IntKind.wrap .i64 (b.1+b.2.2),IntKind.wrap .i64 (b.2.1+1))
def uE (m:List ((Int × Int) × Int)) (b:Int × Int × Int):List ((Int × Int) × Int):=pY (pY m (pZ b).1 (pZ b).2) (GZ b).1 (GZ b).2
def fj (l:List (Int × Int × Int)):List ((Int × Int) × Int):=l.foldl uE []
theorem OG (N:Nat) (l:List (Int × Int × Int)) (hl:l.length≤1000000) (hN:gU N):aZ (ma N l) N (0,[])=some (fj l):=by
 have key:=lf (rd:=ma N l) l (fun m k=>((k:Int),m)) uE (fun m=>m) (fun _ _=>True) (fun m k hk _=>by
  obtain ⟨a1,a2⟩:=yV l hk
  have q:GK N (l[k].1,l[k].2.1,l[k].2.2)=some (l[k].1,l[k].2.1,(GZ l[k]).1,(GZ l[k]).2):=by rw [Bu]; rfl
  have r:=Tr N (l[k].1,l[k].2.1,(GZ l[k]).1,(GZ l[k]).2) m (by unfold gU at hN; omega)
  refine ⟨?_,trivial⟩
  simp only [ma,List.length_map,Int.toNat_natCast,cu hk,bP hk,a1,a2,Bool.and_self,cond_true,q,Option.bind_some,Dp,uf,ug,Dq,r,dy (show k < 9223372036854775807 by omega)]
  rfl) (fun m _=>by
  simp only [ma,List.length_map,du,cond_false,Dp,uf,ug,Bool.and_self,Dq,cond_true,Option.bind_some]) N [] 0 (Nat.zero_le _) (by unfold gU at hN; omega) trivial
 rw [List.drop_zero] at key
 exact key
theorem We (L:List Nat):aW (List.map n2 (Iz L))=L:=by
 unfold aW Iz
 rw [List.map_map,List.map_map]
 conv=>rhs; rw [← List.map_id L]
 apply List.map_congr_left
 intro n _
 show ((n:Int)).toNat=n
 exact Int.toNat_natCast n
theorem Wf (L:List Nat):cr L=List.map n2 (Iz L):=by
 unfold cr Iz
 rw [List.map_map]; rfl
theorem ZF (L:List Nat):allFit (aj.fits p2) (cr L)=true:=by rw [Wf,fa2]
theorem ZG (L:List Nat):List.map d2 (cr L)=Iz L:=by rw [Wf,md2]
def iw (m:List ((Int × Int) × Int)) (j:Int) (L:List Nat):Int:=((L.countP fun i=>decide ((m.getD i ((0,0),0)).2=j):Nat):Int)
theorem kB (m:List ((Int × Int) × Int)) (j:Int) {L:List Nat} {i:Nat} (hi:i∈L):iw m j L=iw m j (L.erase i)+if (m.getD i ((0,0),0)).2=j then 1 else 0:=by
 unfold iw
 rw [(List.perm_cons_erase hi).countP_eq,List.countP_cons]
 by_cases h:(m.getD i ((0,0),0)).2=j
 ·rw [decide_eq_true h,if_pos h]; simp
 ·rw [decide_eq_false h,if_neg h]; simp
theorem Ly (m:List ((Int × Int) × Int)) (j:Int):iw m j []=0:=rfl
abbrev O5:=Int × Int × Int × Int × Int
def BG (o:O5) (n:Nat):Prop:=0≤o.1∧o.1+n≤1000000∧0≤o.2.1∧o.2.1+n≤1000000∧0≤o.2.2.1∧o.2.2.1+n≤1000000∧0≤o.2.2.2.1∧o.2.2.2.1+n≤1000000∧0≤o.2.2.2.2∧o.2.2.2.2+n≤1000000
theorem G3 (N:Nat) (m:List ((Int × Int) × Int)) (hm:∀ x∈m,0≤x.2∧x.2≤4):∀ (n:Nat) (L:List Nat) (o:O5),L.length < n→(∀ i∈L,i < m.length)→BG o L.length →
  iB (va N) n (o.1,o.2.1,o.2.2.1,o.2.2.2.1,o.2.2.2.2,m,(m.length:Int),Iz L)=some (o.1+iw m 0 L,o.2.1+iw m 1 L,o.2.2.1+iw m 2 L,o.2.2.2.1+iw m 3 L,o.2.2.2.2+iw m 4 L,m,(m.length:Int),[])
 | 0,L,o,h,_,_=>by omega
 | n+1,L,o,h,hi,ho=>by
  rw [FQ]
  have ec:decide (m.length=m.length)=true:=decide_eq_true rfl
  cases hL:L with
  | nil=>
   have i0:List.isEmpty ([]:List Nat)=true:=rfl
   simp only [va,Tq,Int.toNat_natCast,ec,cond_true,We,i0,Dp,uf,ug,ZF,ZG,Bool.and_self,Dq,Option.bind_some,Ly,Int.add_zero]
   rfl
  | cons a L'=>
   rw [← hL]
   have i0:List.isEmpty L=false:=by rw [hL]; rfl
   simp only [va,Tq,Int.toNat_natCast,ec,cond_true,cond_false,We,i0]
   refine M5 (by rw [hL]; simp) fun i lQ=>?_
   have bK:=hi i lQ
   have hv:=hm _ (List.getElem_mem bK)
   have eg:m.getD i ((0,0),0)=m[i]:=by simp [bK]
   have jD:(L.erase i).length=L.length - 1:=List.length_erase_of_mem lQ
   have lu:0 < L.length:=List.length_pos_of_mem lQ
   have dl:decide (i < m.length)=true:=decide_eq_true bK
   have f86:aj.fits iR (AV.agg [AV.int .i64 m[i].1.1,AV.int .i64 m[i].1.2])=true:=rfl
   have ih:=fun o' (mY:BG o' (L.erase i).length)=>G3 N m hm n (L.erase i) o' (by omega) (fun j hj=>hi j (List.mem_of_mem_erase hj)) mY
   have c0:=kB m 0 lQ
   have c1:=kB m 1 lQ
   have c2:=kB m 2 lQ
   have c3:=kB m 3 lQ
   have c4:=kB m 4 lQ
   rw [eg] at c0 c1 c2 c3 c4
   obtain ⟨o0,o1,o2,o3,o4⟩:=o
   simp only [BG] at ho ih ⊢
   simp only [ZE m bK,f86,Zg,Zh,Bool.and_self,cond_true,dl]
   generalize hvv:m[i].2=v at *
   have Wg:v=0∨v=1∨v=2∨v=3∨v=4:=by omega
   have w0:IntKind.wrap .i64 (o0+1)=o0+1:=jA ⟨by omega,by omega⟩
   have w1:IntKind.wrap .i64 (o1+1)=o1+1:=jA ⟨by omega,by omega⟩
   have w2:IntKind.wrap .i64 (o2+1)=o2+1:=jA ⟨by omega,by omega⟩
   have w3:IntKind.wrap .i64 (o3+1)=o3+1:=jA ⟨by omega,by omega⟩
   have w4:IntKind.wrap .i64 (o4+1)=o4+1:=jA ⟨by omega,by omega⟩
   have dF:decide False=false:=rfl
   have dT:decide True=true:=rfl
   rcases Wg with rfl | rfl | rfl | rfl | rfl
   all_goals simp only [dF,dT,if_pos,if_neg,ec,cond_true,cond_false,Dp,uf,ug,ZF,ZG,Bool.and_self,Dq,Option.bind_some,w0,w1,w2,w3,w4,Int.reduceEq,if_true,if_false,Int.add_zero] at c0 c1 c2 c3 c4 ⊢
   ·rw [ih (o0+1,o1,o2,o3,o4) (by simp only; omega),c0,c1,c2,c3,c4]; simp only; rw [show o0+1+iw m 0 (L.erase i)=o0+(iw m 0 (L.erase i)+1) by omega]
   ·rw [ih (o0,o1+1,o2,o3,o4) (by simp only; omega),c0,c1,c2,c3,c4]; simp only; rw [show o1+1+iw m 1 (L.erase i)=o1+(iw m 1 (L.erase i)+1) by omega]
   ·rw [ih (o0,o1,o2+1,o3,o4) (by simp only; omega),c0,c1,c2,c3,c4]; simp only; rw [show o2+1+iw m 2 (L.erase i)=o2+(iw m 2 (L.erase i)+1) by omega]
   ·rw [ih (o0,o1,o2,o3+1,o4) (by simp only; omega),c0,c1,c2,c3,c4]; simp only; rw [show o3+1+iw m 3 (L.erase i)=o3+(iw m 3 (L.erase i)+1) by omega]
   ·rw [ih (o0,o1,o2,o3,o4+1) (by simp only; omega),c0,c1,c2,c3,c4]; simp only; rw [show o4+1+iw m 4 (L.erase i)=o4+(iw m 4 (L.erase i)+1) by omega]
def Ah (l:List (Int × Int × Int)):O5:=
 let m:=fj l
 (iw m 0 (List.range m.length),iw m 1 (List.range m.length),iw m 2 (List.range m.length),iw m 3 (List.range m.length),iw m 4 (List.range m.length))
noncomputable def Lz (N:Nat) (l:List (Int × Int × Int)):Option (O5 × Int):=(Mg N l).bind fun e=>bif (e == 0)&&(Nat.ble l.length 10000&&(Nat.ble (fj l).length 100000&&(fj l).all fun x=>decide (0≤x.2)&&decide (x.2≤4))) then some (Ah l,0) else none
theorem OH {N:Nat} (hN:gU N) (l:List (Int × Int × Int)) (y:O5 × Int) (h:Lz N l=some y):V4 N l=some y:=by
 unfold Lz at h
 cases ZH:Mg N l with
 | none=>rw [ZH] at h; cases h
 | some e=>
  rw [ZH,Option.bind_some] at h
  obtain ⟨hc,hy⟩:=bc h
  cases hy
  simp only [Bool.and_eq_true,beq_iff_eq] at hc
  obtain ⟨rfl,hl,hm,hv⟩:=hc
  have hl:=Nat.le_of_ble_eq_true hl
  have hm:=Nat.le_of_ble_eq_true hm
  have hv:∀ x∈fj l,0≤x.2∧x.2≤4:=fun x hx=>by
   have:=List.all_eq_true.1 hv x hx
   rw [Bool.and_eq_true] at this
   exact ⟨of_decide_eq_true this.1,of_decide_eq_true this.2⟩
  have r:=OG N l (by omega) hN
  have g0:((0:Int) != 0)=false:=rfl
  have m0:ah ([]:List (AV × AV))=[]:=rfl
  have x0:bo ([]:List (AV × AV))=true:=rfl
  have f0:allFit (aj.fits eF) []=true:=rfl
  have k0:List.map fh ([]:List AV)=[]:=rfl
  have q:=G3 N (fj l) hv N (List.range (fj l).length) (0,0,0,0,0) (by rw [List.length_range]; unfold gU at hN; omega) (fun i hi=>List.mem_range.1 hi) (by simp only [BG,List.length_range]; omega)
  simp only [Int.zero_add] at q
  rw [S7]
  simp only [fY,ft,Bool.and_self,cond_true,Option.bind_some,ZH,g0,cond_false,m0,x0,f0,k0,r,Dp,uf,ug,Dq,Tq,ZF,ZG,q]
  rfl
end Go.Proofs.YtophnjjjmikmeaaGreat
