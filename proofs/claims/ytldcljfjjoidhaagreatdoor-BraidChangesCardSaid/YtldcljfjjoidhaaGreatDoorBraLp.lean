/- Plain laws: the legs of a net,for the chapter's examples. -/
import Derived.Test.YtldcljfjjoidhaaGreatDoorBraLg
import Derived.Test.YtldcljfjjoidhaaGreatDoorAmKL
import Derived.Test.YtldcljfjjoidhaaGreatDoorAmKK
set_option linter.all false
namespace Go.Proofs.YtldcljfjjoidhaaGreatDoor
open Go Go.Am
set_option maxRecDepth 100000
abbrev K2:EK:=.st (.cons 0 1 false .int (.cons 1 1 false .int .nil))
theorem vi:fT K2 (fun k:Int × Int=>AV.agg [AV.int .i64 k.1,AV.int .i64 k.2]) n3 ak:=⟨fun a b=>LV a b,fun _=>rfl,fun _=>rfl⟩
theorem NG (a b:Int) (m:List ((Int × Int) × Int)):eH K2 (AV.agg [AV.int .i64 a,AV.int .i64 b]) (ab (List.map ak m))=true:=vi.keys (a,b) m
theorem NH (a b:Int) (m:List ((Int × Int) × Int)):b9 K2 (AV.agg [AV.int .i64 a,AV.int .i64 b]) (AV.int .i64 0) (ab (List.map ak m))=n3 ((getM (a,b) m).getD 0):=vi.getD (a,b) 0 m
theorem AZ (a b v:Int) (m:List ((Int × Int) × Int)):dD K2 (AV.agg [AV.int .i64 a,AV.int .i64 b]) (n3 v) (ab (List.map ak m))=ab (List.map ak (oU (a,b) v m)):=vi.put (a,b) v m
theorem r8 (m:List ((Int × Int) × Int)):aj (ab (List.map ak m))=List.map ak m:=vi.cells m
theorem r9 (m:List ((Int × Int) × Int)):bt (ab (List.map ak m))=true:=vi.bt m
theorem NI (a b v x:Int) (m:List ((Int × Int) × Int)):gl (ab (List.map ak (oU (a,b) v m))) (fu K2 (AV.agg [AV.int .i64 a,AV.int .i64 b]) (ab (List.map ak m))) (AV.int .i64 x)=ab (List.map ak (oU (a,b) x m)):=by
 rw [← AZ,vh]
 exact AZ a b x m
theorem NJ (a b v:Int) (m:List ((Int × Int) × Int)):decide (fu K2 (AV.agg [AV.int .i64 a,AV.int .i64 b]) (ab (List.map ak m)) < (ab (List.map ak (oU (a,b) v m))).length)=true:=by
 rw [← AZ]
 exact decide_eq_true (HR _ _ _ _)
theorem YB (n:Nat):decide (0≤(n:Int))=true:=decide_eq_true (by omega)
theorem HT (m:List ((Int × Int) × Int)):(ab (List.map ak m)).length=m.length:=by rw [vi.UY,List.length_map]
theorem Tw (m:List ((Int × Int) × Int)) {i:Nat} (h:i < m.length):cZ (ab (List.map ak m)) i=(AV.agg [AV.int .i64 m[i].1.1,AV.int .i64 m[i].1.2],n3 m[i].2):=by
 rw [vi.UY,HS _ m h]
def E6 (m:List ((Int × Int) × Int)) (a b:Int):List ((Int × Int) × Int):=oU (a,b) (IntKind.wrap .i64 ((getM (a,b) m).getD 0+1)) m
theorem NK (a b v:Int) (m:List ((Int × Int) × Int)):(getM (a,b) (oU (a,b) v m)).getD 0=v:=by rw [AX,if_pos rfl]; rfl
theorem LW (N:Nat) (y:Int × Int × Int × Int) (m:List ((Int × Int) × Int)) (hN:3≤N):aQ (cU N y) N (0,m)=some (E6 (E6 m y.1 y.2.1) y.2.2.1 y.2.2.2):=by
 have s0:∀ m,cU N y (0,m)=some (.inl (1,E6 m y.1 y.2.1)):=fun m=>by
  have w1:IntKind.wrap .i64 (0+1)=1:=rfl
  have e1:decide ((0:Int) < 2)=true:=rfl
  simp only [cU,e1,cond_true,decide_true,r8,mX,mY,Bool.and_self,r9,Option.bind_some,NG,NH,Wx,Wy,AZ,NK,beq_self_eq_true,YB,Int.toNat_natCast,NJ,NI,w1]
  rfl
 have s1:∀ m,cU N y (1,m)=some (.inl (2,E6 m y.2.2.1 y.2.2.2)):=fun m=>by
  have w1:IntKind.wrap .i64 (1+1)=2:=rfl
  have e1:decide ((1:Int) < 2)=true:=rfl
  have e0:decide ((1:Int)=0)=false:=rfl
  simp only [cU,e1,e0,cond_true,cond_false,decide_true,r8,mX,mY,Bool.and_self,r9,Option.bind_some,NG,NH,Wx,Wy,AZ,NK,beq_self_eq_true,YB,Int.toNat_natCast,NJ,NI,w1]
  rfl
 have s2:∀ m,cU N y (2,m)=some (.inr m):=fun m=>by
  have e1:decide ((2:Int) < 2)=false:=rfl
  simp only [cU,e1,cond_true,cond_false,r8,mX,mY,Bool.and_self,r9,Option.bind_some]
 obtain ⟨k,rfl⟩:∃ k,N=k+3:=⟨N - 3,by omega⟩
 rw [a6,s0]
 simp only [Option.bind_some,Sum.elim_inl]
 rw [a6,s1]
 simp only [Option.bind_some,Sum.elim_inl]
 rw [a6,s2]
 rfl
def Tx (b:Int × Int × Int):Int × Int:=(b.1,b.2.1)
def RA (b:Int × Int × Int):Int × Int:=(IntKind.wrap .i64 (b.1+b.2.2),IntKind.wrap .i64 (b.2.1+1))
def Ty (m:List ((Int × Int) × Int)) (b:Int × Int × Int):List ((Int × Int) × Int):=E6 (E6 m (Tx b).1 (Tx b).2) (RA b).1 (RA b).2
def CJ (l:List (Int × Int × Int)):List ((Int × Int) × Int):=l.foldl Ty []
theorem HU (l:List (Int × Int × Int)) {k:Nat} (hk:k < l.length):d106 (ah (List.map n106 l) k)=l[k]∧an.fits ej (ah (List.map n106 l) k)=true:=by
 rw [jz n106 l k hk,Tg,Tf]; exact ⟨rfl,rfl⟩
theorem HV (N:Nat) (l:List (Int × Int × Int)) (hl:l.length≤1000000) (hN:iK N):aQ (jB N l) N (0,[])=some (CJ l):=by
 have key:=rX (rd:=jB N l) l (fun m k=>((k:Int),m)) Ty (fun m=>m) (fun _ _=>True) (fun m k hk _=>by
  obtain ⟨a1,a2⟩:=HU l hk
  have q:LM N (l[k].1,l[k].2.1,l[k].2.2)=some (l[k].1,l[k].2.1,(RA l[k]).1,(RA l[k]).2):=by rw [LN]; rfl
  have r:=LW N (l[k].1,l[k].2.1,(RA l[k]).1,(RA l[k]).2) m (by unfold iK at hN; omega)
  refine ⟨?_,trivial⟩
  simp only [jB,List.length_map,Int.toNat_natCast,bV hk,bR hk,a1,a2,Bool.and_self,cond_true,q,Option.bind_some,r8,mX,mY,r9,r,cO (show k < 9223372036854775807 by omega)]
  rfl) (fun m _=>by
  simp only [jB,List.length_map,b0,cond_false,r8,mX,mY,Bool.and_self,r9,cond_true,Option.bind_some]) N [] 0 (Nat.zero_le _) (by unfold iK at hN; omega) trivial
 rw [List.drop_zero] at key
 exact key
theorem Tz (L:List Nat):aO (List.map n2 (E5 L))=L:=by
 unfold aO E5
 rw [List.map_map,List.map_map]
 conv=>rhs; rw [← List.map_id L]
 apply List.map_congr_left
 intro n _
 show ((n:Int)).toNat=n
 exact Int.toNat_natCast n
theorem TA (L:List Nat):bZ L=List.map n2 (E5 L):=by
 unfold bZ E5
 rw [List.map_map]; rfl
theorem W3 (L:List Nat):allFit (an.fits p2) (bZ L)=true:=by rw [TA,fa2]
theorem W4 (L:List Nat):List.map d2 (bZ L)=E5 L:=by rw [TA,md2]
def iV (m:List ((Int × Int) × Int)) (j:Int) (L:List Nat):Int:=((L.countP fun i=>decide ((m.getD i ((0,0),0)).2=j):Nat):Int)
theorem jC (m:List ((Int × Int) × Int)) (j:Int) {L:List Nat} {i:Nat} (hi:i∈L):iV m j L=iV m j (L.erase i)+if (m.getD i ((0,0),0)).2=j then 1 else 0:=by
 unfold iV
 rw [(List.perm_cons_erase hi).countP_eq,List.countP_cons]
 by_cases h:(m.getD i ((0,0),0)).2=j
 ·rw [decide_eq_true h,if_pos h]; simp
 ·rw [decide_eq_false h,if_neg h]; simp
theorem HW (m:List ((Int × Int) × Int)) (j:Int):iV m j []=0:=rfl
abbrev O5:=Int × Int × Int × Int × Int
def yM (o:O5) (n:Nat):Prop:=0≤o.1∧o.1+n≤1000000∧0≤o.2.1∧o.2.1+n≤1000000∧0≤o.2.2.1∧o.2.2.1+n≤1000000∧0≤o.2.2.2.1∧o.2.2.2.1+n≤1000000∧0≤o.2.2.2.2∧o.2.2.2.2+n≤1000000
theorem DN (N:Nat) (m:List ((Int × Int) × Int)) (hm:∀ x∈m,0≤x.2∧x.2≤4):∀ (n:Nat) (L:List Nat) (o:O5),L.length < n→(∀ i∈L,i < m.length)→yM o L.length →
  kN (s5 N) n (o.1,o.2.1,o.2.2.1,o.2.2.2.1,o.2.2.2.2,m,(m.length:Int),E5 L)=some (o.1+iV m 0 L,o.2.1+iV m 1 L,o.2.2.1+iV m 2 L,o.2.2.2.1+iV m 3 L,o.2.2.2.2+iV m 4 L,m,(m.length:Int),[])
 | 0,L,o,h,_,_=>by omega
 | n+1,L,o,h,hi,ho=>by
  rw [CI]
  have ec:decide (m.length=m.length)=true:=decide_eq_true rfl
  cases hL:L with
  | nil=>
   have i0:List.isEmpty ([]:List Nat)=true:=rfl
   simp only [s5,HT,Int.toNat_natCast,ec,cond_true,Tz,i0,r8,mX,mY,W3,W4,Bool.and_self,r9,Option.bind_some,HW,Int.add_zero]
   rfl
  | cons a L'=>
   rw [← hL]
   have i0:List.isEmpty L=false:=by rw [hL]; rfl
   simp only [s5,HT,Int.toNat_natCast,ec,cond_true,cond_false,Tz,i0]
   refine J2 (by rw [hL]; simp) fun i nQ=>?_
   have bT:=hi i nQ
   have hv:=hm _ (List.getElem_mem bT)
   have eg:m.getD i ((0,0),0)=m[i]:=by simp [bT]
   have nj:(L.erase i).length=L.length - 1:=List.length_erase_of_mem nQ
   have mw:0 < L.length:=List.length_pos_of_mem nQ
   have dl:decide (i < m.length)=true:=decide_eq_true bT
   have f86:an.fits nF (AV.agg [AV.int .i64 m[i].1.1,AV.int .i64 m[i].1.2])=true:=rfl
   have ih:=fun o' (mb:yM o' (L.erase i).length)=>DN N m hm n (L.erase i) o' (by omega) (fun j hj=>hi j (List.mem_of_mem_erase hj)) mb
   have c0:=jC m 0 nQ
   have c1:=jC m 1 nQ
   have c2:=jC m 2 nQ
   have c3:=jC m 3 nQ
   have c4:=jC m 4 nQ
   rw [eg] at c0 c1 c2 c3 c4
   obtain ⟨o0,o1,o2,o3,o4⟩:=o
   simp only [yM] at ho ih ⊢
   simp only [Tw m bT,f86,Wx,Wy,Bool.and_self,cond_true,dl]
   generalize hvv:m[i].2=v at *
   have TB:v=0∨v=1∨v=2∨v=3∨v=4:=by omega
   have w0:IntKind.wrap .i64 (o0+1)=o0+1:=lW ⟨by omega,by omega⟩
   have w1:IntKind.wrap .i64 (o1+1)=o1+1:=lW ⟨by omega,by omega⟩
   have w2:IntKind.wrap .i64 (o2+1)=o2+1:=lW ⟨by omega,by omega⟩
   have w3:IntKind.wrap .i64 (o3+1)=o3+1:=lW ⟨by omega,by omega⟩
   have w4:IntKind.wrap .i64 (o4+1)=o4+1:=lW ⟨by omega,by omega⟩
   have dF:decide False=false:=rfl
   have dT:decide True=true:=rfl
   rcases TB with rfl | rfl | rfl | rfl | rfl
   all_goals simp only [dF,dT,if_pos,if_neg,ec,cond_true,cond_false,r8,mX,mY,W3,W4,Bool.and_self,r9,Option.bind_some,w0,w1,w2,w3,w4,Int.reduceEq,if_true,if_false,Int.add_zero] at c0 c1 c2 c3 c4 ⊢
   ·rw [ih (o0+1,o1,o2,o3,o4) (by simp only; omega),c0,c1,c2,c3,c4]; simp only; rw [show o0+1+iV m 0 (L.erase i)=o0+(iV m 0 (L.erase i)+1) by omega]
   ·rw [ih (o0,o1+1,o2,o3,o4) (by simp only; omega),c0,c1,c2,c3,c4]; simp only; rw [show o1+1+iV m 1 (L.erase i)=o1+(iV m 1 (L.erase i)+1) by omega]
   ·rw [ih (o0,o1,o2+1,o3,o4) (by simp only; omega),c0,c1,c2,c3,c4]; simp only; rw [show o2+1+iV m 2 (L.erase i)=o2+(iV m 2 (L.erase i)+1) by omega]
   ·rw [ih (o0,o1,o2,o3+1,o4) (by simp only; omega),c0,c1,c2,c3,c4]; simp only; rw [show o3+1+iV m 3 (L.erase i)=o3+(iV m 3 (L.erase i)+1) by omega]
   ·rw [ih (o0,o1,o2,o3,o4+1) (by simp only; omega),c0,c1,c2,c3,c4]; simp only; rw [show o4+1+iV m 4 (L.erase i)=o4+(iV m 4 (L.erase i)+1) by omega]
def TC (l:List (Int × Int × Int)):O5:=
 let m:=CJ l
 (iV m 0 (List.range m.length),iV m 1 (List.range m.length),iV m 2 (List.range m.length),iV m 3 (List.range m.length),iV m 4 (List.range m.length))
noncomputable def HX (N:Nat) (l:List (Int × Int × Int)):Option (O5 × Int):=(UX N l).bind fun e=>bif (e == 0)&&(Nat.ble l.length 10000&&(Nat.ble (CJ l).length 100000&&(CJ l).all fun x=>decide (0≤x.2)&&decide (x.2≤4))) then some (TC l,0) else none
theorem LX {N:Nat} (hN:iK N) (l:List (Int × Int × Int)) (y:O5 × Int) (h:HX N l=some y):WN N l=some y:=by
 unfold HX at h
 cases W5:UX N l with
 | none=>rw [W5] at h; cases h
 | some e=>
  rw [W5,Option.bind_some] at h
  obtain ⟨hc,hy⟩:=aZ h
  cases hy
  simp only [Bool.and_eq_true,beq_iff_eq] at hc
  obtain ⟨rfl,hl,hm,hv⟩:=hc
  have hl:=Nat.le_of_ble_eq_true hl
  have hm:=Nat.le_of_ble_eq_true hm
  have hv:∀ x∈CJ l,0≤x.2∧x.2≤4:=fun x hx=>by
   have:=List.all_eq_true.1 hv x hx
   rw [Bool.and_eq_true] at this
   exact ⟨of_decide_eq_true this.1,of_decide_eq_true this.2⟩
  have r:=HV N l (by omega) hN
  have g0:((0:Int) != 0)=false:=rfl
  have m0:aj ([]:List (AV × AV))=[]:=rfl
  have x0:bt ([]:List (AV × AV))=true:=rfl
  have f0:allFit (an.fits cg) []=true:=rfl
  have k0:List.map cz ([]:List AV)=[]:=rfl
  have q:=DN N (CJ l) hv N (List.range (CJ l).length) (0,0,0,0,0) (by rw [List.length_range]; unfold iK at hN; omega) (fun i hi=>List.mem_range.1 hi) (by simp only [yM,List.length_range]; omega)
  simp only [Int.zero_add] at q
  rw [PL]
  simp only [vf,vg,Bool.and_self,cond_true,Option.bind_some,W5,g0,cond_false,m0,x0,f0,k0,r,r8,mX,mY,r9,HT,W3,W4,q]
  rfl
noncomputable def NL (N:Nat):aK:=⟨(WO N).ps,(WO N).p,HX N⟩
theorem LY {N:Nat} (hN:iK N):ao bF 84 (NL N):=fun x y h=>PK N x y (LX hN x y h)
theorem ao.toM {m:Int} {g:FuncId} {e:aK} (h:ao bF g e):ao (eC m) g e:=fun x y hT=>
 aM.more (E:=bF) rfl (fun g cs hg=>by cases (show (none:Option (List AV))=some cs from hg)) (h x y hT)
end Go.Proofs.YtldcljfjjoidhaaGreatDoor
