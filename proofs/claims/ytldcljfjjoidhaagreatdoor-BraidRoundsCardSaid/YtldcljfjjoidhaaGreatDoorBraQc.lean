/- Plain laws: programs that are moved,mirrored,worked back,or parted. -/
import Derived.Test.YtldcljfjjoidhaaGreatDoorBraQa
set_option linter.all false
namespace Go.Proofs.YtldcljfjjoidhaaGreatDoor
open Go Go.Am Go.Sort
open List (map)
open Int (toNat)
open Go.IntKind (wrap)
open Go.Am.aT (fits)
set_option maxRecDepth 100000
theorem qq (k:Int × Int):aF k=0∨aF k=3∨aF k=14:=by
 unfold aF
 split
 ·exact .inr (.inl rfl)
 ·split
  ·exact .inl rfl
  ·exact .inr (.inr rfl)
theorem nI {P:Int→Prop} (h0:P 0):∀ l:List Int,(∀ x∈l,P x)→P (aS l)
 | [],_=>h0
 | x :: l,h=>by
  unfold aS
  split
  ·exact nI h0 l fun y hy=>h y (by simp [hy])
  ·exact h x (by simp)
theorem vp {p:List bD} (hl:p.length≤256) (h:∀ k (hk:k < p.length),mD (p.take k) p[k]=0):bY p=0:=by
 unfold bY
 rw [if_neg (by omega)]
 refine dj.2 fun x hx=>?_
 obtain ⟨k,hk,rfl⟩:=List.getElem_of_mem hx
 rw [iL] at hk
 rw [ss p hk]
 exact h k hk
theorem Rz {p:List bD} {P:Int→Prop} (h0:P 0) (hl:p.length≤256) (h:∀ k (hk:k < p.length),P (mD (p.take k) p[k])):P (bY p):=by
 unfold bY
 rw [if_neg (by omega)]
 refine nI h0 _ fun x hx=>?_
 obtain ⟨k,hk,rfl⟩:=List.getElem_of_mem hx
 rw [iL] at hk
 rw [ss p hk]
 exact h k hk
theorem qW {p:List bD} {c:bD} (h1:dW c=0) (h2:below p c=false) (h3:∀ b∈cp c,b∉bp p) (h4:(bp p).length+(cp c).length≤4096):mD p c=0:=by
 unfold mD
 rw [if_pos h1,if_neg (by simp [h2]),if_neg (by rintro ⟨b,hb,hq⟩; exact h3 b hb hq),if_neg (by omega)]
theorem IH {a b:List bD} {c:bD} (h:mD (a++b) c=0):mD b c=0:=by
 obtain ⟨h1,h2,h3,h4⟩:=gq h
 have eo:bp (a++b)=bp a++bp b:=by unfold bp; rw [List.flatMap_append]
 rw [eo] at h3 h4
 rw [List.length_append] at h4
 refine qW h1 ?_ (fun x hx hq=>h3 x hx (List.mem_append.2 (.inr hq))) (by omega)
 cases b with
 | nil=>rfl
 | cons y b=>
  unfold below at *
  rw [List.getLast?_append] at h2
  cases hg:(y :: b).getLast? with
  | none=>rfl
  | some q=>rw [hg] at h2; exact h2
theorem II {p:List bD} (h:bY p=0) (k:Nat):bY (p.take k)=0:=by
 obtain ⟨hl,he⟩:=fS h
 refine vp (by rw [List.length_take]; omega) fun j hj=>?_
 rw [List.length_take] at hj
 have e1:(p.take k).take j=p.take j:=by rw [List.take_take,Nat.min_eq_left (by omega)]
 have e2:(p.take k)[j]'(by rw [List.length_take]; omega)=p[j]:=List.getElem_take
 rw [e1,e2]
 exact he j (by omega)
theorem IJ {p:List bD} (h:bY p=0) (k:Nat):bY (p.drop k)=0:=by
 obtain ⟨hl,he⟩:=fS h
 refine vp (by rw [List.length_drop]; omega) fun j hj=>?_
 rw [List.length_drop] at hj
 have h2:=he (k+j) (by omega)
 have e1:p.take (k+j)=p.take k++(p.drop k).take j:=by rw [List.take_add]
 have e2:(p.drop k)[j]'(by rw [List.length_drop]; omega)=p[k+j]:=List.getElem_drop
 rw [e1] at h2
 rw [e2]
 exact IH h2
def mk (s:Bool) (x:Int):Int:=if s then -x else x
def yk (s:Bool) (dx dy:Int) (k:Int × Int):Int × Int:=(mk s k.1+dx,k.2+dy)
def fh (s:Bool) (dx dy:Int) (b:dM):dM:=(mk s b.1+dx,b.2.1+dy,mk s b.2.2)
def iT (s:Bool) (dx dy:Int) (c:bD):bD:=(mk s c.1+dx,c.2.1+dy,c.2.2.1 != s,c.2.2.2.1,c.2.2.2.2)
variable {s:Bool} {dx dy:Int}
theorem sy (c:bD) (i:Nat):aK (iT s dx dy c) i=yk s dx dy (aK c i):=by
 obtain ⟨x,y,r,u,n⟩:=c
 unfold aK iT yk mk sg
 cases s <;> cases r <;> cases u <;> simp <;> omega
theorem BD {a b:Int × Int} (h:yk s dx dy a=yk s dx dy b):a=b:=by
 obtain ⟨a1,a2⟩:=a
 obtain ⟨b1,b2⟩:=b
 unfold yk mk at h
 have h1:=congrArg Prod.fst h
 have h2:=congrArg Prod.snd h
 simp only at h1 h2
 cases s
 ·simp only [Bool.false_eq_true,if_false] at h1; exact Prod.ext (by simp only; omega) (by simp only; omega)
 ·simp only [if_true] at h1; exact Prod.ext (by simp only; omega) (by simp only; omega)
theorem MK {a b:dM} (h:fh s dx dy a=fh s dx dy b):a=b:=by
 obtain ⟨a1,a2,a3⟩:=a
 obtain ⟨b1,b2,b3⟩:=b
 unfold fh mk at h
 have h1:=congrArg Prod.fst h
 have h2:=congrArg (fun x=>x.2.1) h
 have h3:=congrArg (fun x=>x.2.2) h
 simp only at h1 h2 h3
 have e2:a2=b2:=by omega
 cases s
 ·simp only [Bool.false_eq_true,if_false] at h1 h3
  have e1:a1=b1:=by omega
  rw [e1,e2,h3]
 ·simp only [if_true] at h1 h3
  have e1:a1=b1:=by omega
  have e3:a3=b3:=by omega
  rw [e1,e2,e3]
theorem ML (a b:Int × Int):fP (yk s dx dy a) (yk s dx dy b)=fh s dx dy (fP a b):=by
 obtain ⟨a1,a2⟩:=a
 obtain ⟨b1,b2⟩:=b
 unfold fP yk fh mk
 by_cases h:a2 > b2
 ·have h':a2+dy > b2+dy:=by omega
  simp only [h,h',if_true]
  cases s <;> simp <;> omega
 ·have h':¬ a2+dy > b2+dy:=by omega
  simp only [h,h',if_false]
  cases s <;> simp <;> omega
theorem RA (c:bD) (i:Nat):eQ (iT s dx dy c) i=fh s dx dy (eQ c i):=by
 unfold eQ
 rw [sy,sy,ML]
theorem yl (c:bD):cp (iT s dx dy c)=(cp c).map (fh s dx dy):=by
 unfold cp cN
 rw [List.map_map]
 exact List.map_congr_left fun i _=>RA c i
theorem sA (p:List bD):bp (p.map (iT s dx dy))=(bp p).map (fh s dx dy):=by
 induction p with
 | nil=>rfl
 | cons c p ih=>
  unfold bp at *
  rw [List.map_cons,List.flatMap_cons,List.flatMap_cons,List.map_append,ih,yl]
theorem MM (c:bD):DP (iT s dx dy c)=DP c+dy:=by
 unfold DP iT
 cases c.2.2.2.1 <;> simp <;> omega
theorem MN (p:List bD) (c:bD):below (p.map (iT s dx dy)) (iT s dx dy c)=below p c:=by
 unfold below
 rw [List.getLast?_map]
 cases p.getLast? with
 | none=>rfl
 | some q=>
  simp only [Option.map_some]
  rw [MM,MM]
  exact decide_eq_decide.2 (by omega)
theorem G9 {p:List bD} {c:bD} (h:mD p c=0):mD (p.map (iT s dx dy)) (iT s dx dy c)=dW (iT s dx dy c):=by
 obtain ⟨h1,h2,h3,h4⟩:=gq h
 by_cases hc:dW (iT s dx dy c)=0
 ·rw [hc]
  refine qW hc (by rw [MN]; exact h2) ?_ (by rw [sA,yl,List.length_map,List.length_map]; exact h4)
  intro b hb hq
  rw [yl] at hb
  rw [sA] at hq
  obtain ⟨x,hx,rfl⟩:=List.mem_map.1 hb
  obtain ⟨y,hy,e⟩:=List.mem_map.1 hq
  have:=MK e
  subst this
  exact h3 y hx hy
 ·unfold mD
  rw [if_neg hc]
theorem FK {c:bD} (h:pW c.2.2.2.2 1 512=0):dW c=0∨dW c=3∨dW c=14:=by
 have h0:(0:Int)=0∨(0:Int)=3∨(0:Int)=14:=.inl rfl
 unfold dW
 split
 ·refine nI (P:=fun x=>x=0∨x=3∨x=14) h0 _ fun x hx=>?_
  obtain ⟨k,_,rfl⟩:=List.mem_map.1 hx
  exact qq k
 ·unfold bX
  refine nI (P:=fun x=>x=0∨x=3∨x=14) h0 _ fun x hx=>?_
  rcases List.mem_cons.1 hx with rfl | hx
  ·exact qq _
  ·rw [List.mem_singleton.1 hx,h]; exact h0
theorem RB {p:List bD} (h:bY p=0):(bY (p.map (iT s dx dy))=0∨bY (p.map (iT s dx dy))=3∨bY (p.map (iT s dx dy))=14):=by
 obtain ⟨hl,he⟩:=fS h
 refine Rz (P:=fun x=>x=0∨x=3∨x=14) (.inl rfl) (by rw [List.length_map]; exact hl) fun k hk=>?_
 rw [List.length_map] at hk
 rw [← List.map_take,List.getElem_map,G9 (he k hk)]
 have hc:=nE (gq (he k hk)).1
 exact FK (dj.1 hc _ (by simp [iT]))
theorem MO {p:List bD} (h:bY p=0) (hm:∀ c∈p,dW (iT s dx dy c)=0):bY (p.map (iT s dx dy))=0:=by
 obtain ⟨hl,he⟩:=fS h
 refine vp (by rw [List.length_map]; exact hl) fun k hk=>?_
 rw [List.length_map] at hk
 rw [← List.map_take,List.getElem_map,G9 (he k hk)]
 exact hm _ (List.getElem_mem hk)
theorem RC (p:List bD) {i:Nat} (hi:i < p.length):yX (p.map (iT s dx dy)) i=yX p i:=by
 have g:∀ j,j < p.length→(p.map (iT s dx dy)).getD j (0,0,false,false,0)=iT s dx dy (p.getD j (0,0,false,false,0)):=fun j hj=>by simp [hj]
 unfold yX
 rw [g i hi,g (i - 1) (by omega)]
 have e:∀ c:bD,((iT s dx dy c).1,(iT s dx dy c).2.1)=yk s dx dy (c.1,c.2.1):=fun c=>rfl
 have e2:∀ c:bD,(iT s dx dy c).2.2.2.2=c.2.2.2.2:=fun c=>rfl
 rw [e,e2,sy]
 congr 2
 exact decide_eq_decide.2 ⟨fun h=>BD h,fun h=>by rw [h]⟩
theorem MP (p:List bD):Dx (p.map (iT s dx dy)) (p.map (iT s dx dy)).length=Dx p p.length:=by
 unfold Dx
 rw [List.length_map]
 congr 1
 refine List.filter_congr fun i hi=>RC p (List.mem_range.1 hi)
theorem S0 (b:dM):mE (fh s dx dy b)=yk s dx dy (mE b):=rfl
theorem Ha {b:dM} (h:gB b=0) (h2:gB (fh s dx dy b)=0):mH (fh s dx dy b)=yk s dx dy (mH b):=by
 obtain ⟨c1,c2,c3⟩:=lx h
 obtain ⟨d1,mG,eR⟩:=lx h2
 rw [nF c1 c2,nF d1 mG]
 unfold fh yk mk
 cases s <;> simp <;> omega
theorem il (p:List bD) (b:dM):b∈cU (p.map (iT s dx dy))↔∃ x∈cU p,b=fh s dx dy x:=by
 rw [(cO _).2,sA,List.mem_map]
 constructor
 ·rintro ⟨x,hx,rfl⟩
  exact ⟨x,((cO p).2 x).2 hx,rfl⟩
 ·rintro ⟨x,hx,rfl⟩
  exact ⟨x,((cO p).2 x).1 hx,rfl⟩
theorem MQ {p:List bD} (h:bY p=0) (h2:bY (p.map (iT s dx dy))=0) (k:Int × Int):k∈fR (cU (p.map (iT s dx dy)))↔∃ x∈fR (cU p),k=yk s dx dy x:=by
 have hv:∀ x∈cU p,gB x=0:=fun x hx=>gN h x (((cO p).2 x).1 hx)
 have hw:∀ x∈cU p,gB (fh s dx dy x)=0:=fun x hx=>gN h2 _ (((cO _).2 _).1 ((il p _).2 ⟨x,hx,rfl⟩))
 rw [nG]
 constructor
 ·rintro ⟨b,hb,e⟩
  obtain ⟨x,hx,rfl⟩:=(il p b).1 hb
  rcases e with e | e
  ·exact ⟨mE x,nG.2 ⟨x,hx,.inl rfl⟩,by rw [e,S0]⟩
  ·exact ⟨mH x,nG.2 ⟨x,hx,.inr rfl⟩,by rw [e,Ha (hv x hx) (hw x hx)]⟩
 ·rintro ⟨x,hx,rfl⟩
  obtain ⟨b,hb,e⟩:=nG.1 hx
  refine ⟨fh s dx dy b,(il p _).2 ⟨b,hb,rfl⟩,?_⟩
  rcases e with rfl | rfl
  ·exact .inl (S0 b).symm
  ·exact .inr (Ha (hv b hb) (hw b hb)).symm
theorem RD {p:List bD} (h:bY p=0) (h2:bY (p.map (iT s dx dy))=0) (k:Int × Int):ly (cU (p.map (iT s dx dy))) (yk s dx dy k)=ly (cU p) k:=by
 have hv:∀ x∈bp p,gB x=0:=gN h
 have hw:∀ x∈bp p,gB (fh s dx dy x)=0:=fun x hx=>gN h2 _ (by rw [sA]; exact List.mem_map.2 ⟨x,hx,rfl⟩)
 rw [yh h,yh h2]
 refine decide_eq_decide.2 ?_
 rw [sA,List.map_map,List.mem_map,List.mem_map]
 constructor
 ·rintro ⟨b,hb,e⟩
  refine ⟨b,hb,BD (s:=s) (dx:=dx) (dy:=dy) ?_⟩
  rw [← e]
  exact (Ha (hv b hb) (hw b hb)).symm
 ·rintro ⟨b,hb,rfl⟩
  exact ⟨b,hb,Ha (hv b hb) (hw b hb)⟩
theorem ym (l:List dM):GN ID (fR l):=(ms Ix QQ (0,0) (bZ l)).1
theorem Ai {l:List XA} (h:GN ID l) (h0:0 < l.length) {k:Int × Int} (hk:k∈l):l[0].2≤k.2:=by
 obtain ⟨j,hj,rfl⟩:=List.getElem_of_mem hk
 by_cases e:j=0
 ·subst e; exact Int.le_refl _
 ·have:=List.pairwise_iff_getElem.1 h 0 j (by omega) hj (by omega)
  rw [We] at this
  have:=of_decide_eq_true this
  omega
theorem MR {p:List bD} (h:bY p=0) (h2:bY (p.map (iT s dx dy))=0):(DD (p.map (iT s dx dy))).length=(DD p).length:=by
 have a1:=ym (cU p)
 have a2:=ym (cU (p.map (iT s dx dy)))
 have km:=MQ (s:=s) (dx:=dx) (dy:=dy) h h2
 have dm:=RD (s:=s) (dx:=dx) (dy:=dy) h h2
 unfold DD
 generalize fR (cU (p.map (iT s dx dy)))=K2 at *
 generalize fR (cU p)=K at *
 have n1:K.Nodup:=Af Ix a1
 have gj:K2.Nodup:=Af Ix a2
 have eP:(K.map (yk s dx dy)).Nodup:=by
  unfold List.Nodup at *
  rw [List.pairwise_map]
  exact n1.imp fun Nh e=>Nh (BD e)
 have pm:K2.Perm (K.map (yk s dx dy)):=(List.perm_ext_iff_of_nodup gj eP).2 fun k=>by
  rw [km,List.mem_map]
  constructor
  ·rintro ⟨x,hx,rfl⟩; exact ⟨x,hx,rfl⟩
  ·rintro ⟨x,hx,rfl⟩; exact ⟨x,hx,rfl⟩
 rw [(pm.filter _).length_eq,List.filter_map,List.length_map]
 congr 1
 refine List.filter_congr fun k hk=>?_
 have k0:0 < K.length:=List.length_pos_of_mem hk
 have k20:0 < K2.length:=by rw [pm.length_eq,List.length_map]; exact k0
 have e1:K.getD 0 (0,0)=K[0]:=by simp [k0]
 have e2:K2.getD 0 (0,0)=K2[0]:=by simp [k20]
 have low:K2[0].2=K[0].2+dy:=by
  obtain ⟨x,hx,ex⟩:=(km K2[0]).1 (List.getElem_mem k20)
  have l1:=Ai a1 k0 hx
  have l2:=Ai a2 k20 ((km (yk s dx dy K[0])).2 ⟨K[0],List.getElem_mem k0,rfl⟩)
  have l3:K2[0].2=x.2+dy:=by rw [ex]; rfl
  have l4:(yk s dx dy K[0]).2=K[0].2+dy:=rfl
  omega
 show (decide ((yk s dx dy k).2 > (K2.getD 0 (0,0)).2)&&!ly _ (yk s dx dy k))=_
 rw [dm,e1,e2,low]
 congr 1
 exact decide_eq_decide.2 (by show k.2+dy > _↔_; omega)
theorem RE (p:List bD):cU (p.map (iT false dx dy))=(cU p).map (fh false dx dy):=by
 refine pK Bx (cO _).1 ?_ fun b=>?_
 ·unfold GN
  rw [List.pairwise_map]
  refine (cO p).1.imp fun {a b} Nh=>?_
  rw [tz] at *
  have:=of_decide_eq_true Nh
  refine decide_eq_true ?_
  unfold fh mk
  simp only [Bool.false_eq_true,if_false]
  omega
 ·rw [il,List.mem_map]
  constructor
  ·rintro ⟨x,hx,rfl⟩; exact ⟨x,hx,rfl⟩
  ·rintro ⟨x,hx,rfl⟩; exact ⟨x,hx,rfl⟩
theorem IK (p:List bD):Bt (ltOf kL) (0,0,0) ((cU p).map (fh s dx dy))=cU (p.map (iT s dx dy)):=by
 obtain ⟨a1,a2⟩:=ms Bx L4 (0,0,0) ((cU p).map (fh s dx dy))
 refine pK Bx a1 (cO _).1 fun b=>?_
 rw [a2,il,List.mem_map]
 constructor
 ·rintro ⟨x,hx,rfl⟩; exact ⟨x,hx,rfl⟩
 ·rintro ⟨x,hx,rfl⟩; exact ⟨x,hx,rfl⟩
theorem RG (c:bD):nV c=iT true 0 0 c:=by
 unfold nV iT mk
 cases c.2.2.1 <;> simp
theorem yn (p:List bD):p.map nV=p.map (iT true 0 0):=List.map_congr_left fun c _=>RG c
theorem uC (k:Int × Int):aF (yk true 0 0 k)=aF k:=by
 unfold aF yk mk
 simp only [if_true,Int.add_zero]
 have e:(-k.1+k.2) % 2=(k.1+k.2) % 2:=by omega
 rw [e]
 by_cases h:k.1 < -100000∨k.1 > 100000∨k.2 < -100000∨k.2 > 100000
 ·rw [if_pos h,if_pos (by omega)]
 ·rw [if_neg h,if_neg (by omega)]
theorem MS (c:bD):dW (iT true 0 0 c)=dW c:=by
 have e1:bX (iT true 0 0 c)=bX c:=by
  unfold bX
  have:((iT true 0 0 c).1,(iT true 0 0 c).2.1)=yk true 0 0 (c.1,c.2.1):=rfl
  rw [this,uC]
  rfl
 unfold dW
 rw [e1]
 have e2:(cg (iT true 0 0 c) ((iT true 0 0 c).2.2.2.2.toNat+1)).map aF=(cg c (c.2.2.2.2.toNat+1)).map aF:=by
  unfold cg
  rw [List.map_map,List.map_map]
  refine List.map_congr_left fun i _=>?_
  show aF (aK (iT true 0 0 c) i)=aF (aK c i)
  rw [sy,uC]
 rw [e2]
theorem MT {p:List bD} (h:bY p=0):bY (p.map nV)=0:=by
 rw [yn]
 exact MO h fun c hc=>by rw [MS]; exact Mz h c hc
theorem RH (p:List bD):(p.map nV).map nV=p:=by
 rw [List.map_map]
 conv=>rhs; rw [← List.map_id p]
 refine List.map_congr_left fun c _=>?_
 show nV (nV c)=c
 unfold nV
 simp
theorem S1 {n:Int} (h:0≤n):(Int.tmod n 2 == 1)=(n.toNat % 2 == 1):=by
 rw [Int.tmod_eq_emod_of_nonneg h]
 have:n % 2=((n.toNat % 2:Nat):Int):=by omega
 rw [this]
 rcases Nat.mod_two_eq_zero_or_one n.toNat with hm | hm <;> rw [hm] <;> rfl
theorem nJ {c:bD} (h:0≤c.2.2.2.2) {i:Nat} (hi:i≤c.2.2.2.2.toNat):aK (df c) i=aK c (c.2.2.2.2.toNat - i):=by
 obtain ⟨x,y,r,u,n⟩:=c
 simp only at h hi
 unfold df
 simp only [S1 h]
 unfold aK sg
 simp only
 rcases Nat.mod_two_eq_zero_or_one n.toNat with hm | hm
 ·have e:(n.toNat - i) % 2=i % 2:=by omega
  rw [hm,e]
  have hc:((n.toNat - i:Nat):Int)=(n.toNat:Int) - i:=by omega
  rw [hc]
  rcases Nat.mod_two_eq_zero_or_one i with hk | hk <;> rw [hk] <;> cases r <;> cases u <;> simp <;> omega
 ·have hc:((n.toNat - i:Nat):Int)=(n.toNat:Int) - i:=by omega
  rw [hm,hc]
  rcases Nat.mod_two_eq_zero_or_one i with hk | hk
  ·have e:(n.toNat - i) % 2=1:=by omega
   rw [hk,e]
   cases r <;> cases u <;> simp <;> omega
  ·have e:(n.toNat - i) % 2=0:=by omega
   rw [hk,e]
   cases r <;> cases u <;> simp <;> omega
theorem FL {a b:Int × Int} (h:a.2≠b.2):fP a b=fP b a:=by
 unfold fP
 by_cases h1:a.2 > b.2
 ·rw [if_pos h1,if_neg (by omega)]
 ·rw [if_neg h1,if_pos (by omega)]
theorem FM (c:bD) (k:Nat):(aK c k).2≠(aK c (k+1)).2:=by
 unfold aK sg
 simp only
 rcases Nat.mod_two_eq_zero_or_one k with hm | hm
 ·have Fs:(k+1) % 2=1:=by omega
  rw [hm,Fs]
  cases c.2.2.2.1 <;> simp <;> omega
 ·have Fs:(k+1) % 2=0:=by omega
  rw [hm,Fs]
  cases c.2.2.2.1 <;> simp <;> omega
theorem Aj {c:bD} (h:0≤c.2.2.2.2) {i:Nat} (hi:i < c.2.2.2.2.toNat):eQ (df c) i=eQ c (c.2.2.2.2.toNat - 1 - i):=by
 unfold eQ
 rw [nJ h (by omega),nJ h (show i+1≤_ by omega)]
 have e1:c.2.2.2.2.toNat - i=(c.2.2.2.2.toNat - 1 - i)+1:=by omega
 have e2:c.2.2.2.2.toNat - (i+1)=c.2.2.2.2.toNat - 1 - i:=by omega
 rw [e1,e2]
 exact FL (fun e=>FM c _ e.symm)
theorem qX {c:bD} (h:0≤c.2.2.2.2) (b:dM):b∈cp (df c)↔b∈cp c:=by
 have e:(df c).2.2.2.2=c.2.2.2.2:=rfl
 rw [tE,tE,e]
 constructor
 ·rintro ⟨k,hk,rfl⟩
  exact ⟨c.2.2.2.2.toNat - 1 - k,by omega,(Aj h hk).symm⟩
 ·rintro ⟨k,hk,rfl⟩
  refine ⟨c.2.2.2.2.toNat - 1 - k,by omega,?_⟩
  rw [Aj h (by omega)]
  congr 1
  omega
theorem pg (c:bD):(cp (df c)).length=(cp c).length:=by
 unfold cp
 rw [dQ,dQ]
 rfl
theorem Ak {p:List bD} (h:∀ c∈p,bX c=0) (b:dM):b∈bp (p.map df)↔b∈bp p:=by
 unfold bp
 rw [List.mem_flatMap,List.mem_flatMap]
 constructor
 ·rintro ⟨c,hc,hb⟩
  obtain ⟨d,hd,rfl⟩:=List.mem_map.1 hc
  have:=(cB (h d hd)).2.1
  exact ⟨d,hd,(qX (by omega) b).1 hb⟩
 ·rintro ⟨d,hd,hb⟩
  have:=(cB (h d hd)).2.1
  exact ⟨df d,List.mem_map.2 ⟨d,hd,rfl⟩,(qX (by omega) b).2 hb⟩
theorem yZ (p:List bD):(bp (p.map df)).length=(bp p).length:=by
 induction p with
 | nil=>rfl
 | cons c p ih=>
  unfold bp at *
  rw [List.map_cons,List.flatMap_cons,List.flatMap_cons,List.length_append,List.length_append,ih,pg]
theorem DH {c:bD} (h:0≤c.2.2.2.2):DP (df c)=DP c:=by
 obtain ⟨x,y,r,u,n⟩:=c
 simp only at h
 unfold DP df
 simp only [S1 h]
 unfold aK sg
 simp only
 rcases Nat.mod_two_eq_zero_or_one n.toNat with hm | hm <;> rw [hm] <;> cases u <;> simp <;> omega
theorem IL {c:bD} (h:dW c=0):dW (df c)=0:=by
 have h1:=nE h
 obtain ⟨k1,k2,k3⟩:=cB h1
 have e1:bX (df c)=0:=by
  unfold bX
  refine dj.2 fun x hx=>?_
  rcases List.mem_cons.1 hx with rfl | hx
  ·exact su h (Nat.le_refl _)
  ·rw [List.mem_singleton.1 hx]
   exact dj.1 h1 _ (by simp [df])
 unfold dW
 rw [if_pos e1]
 refine dj.2 fun x hx=>?_
 obtain ⟨k,hk,rfl⟩:=List.mem_map.1 hx
 obtain ⟨i,hi,rfl⟩:=List.mem_map.1 hk
 have hi:=List.mem_range.1 hi
 have e:(df c).2.2.2.2=c.2.2.2.2:=rfl
 rw [e] at hi
 rw [nJ (by omega) (by omega)]
 exact su h (by omega)
theorem FN {p:List bD} {c:bD} (hp:∀ q∈p,bX q=0) (hc:bX c=0):below (p.map df) (df c)=below p c:=by
 unfold below
 rw [List.getLast?_map]
 cases hg:p.getLast? with
 | none=>rfl
 | some q=>
  have hq:q∈p:=List.mem_of_getLast? hg
  have:=(cB (hp q hq)).2.1
  have:=(cB hc).2.1
  simp only [Option.map_some]
  rw [DH (by omega),DH (by omega)]
theorem IM {p:List bD} (h:bY p=0):bY (p.map df)=0:=by
 obtain ⟨hl,he⟩:=fS h
 have zL:=(gr h).2
 refine vp (by rw [List.length_map]; exact hl) fun k hk=>?_
 rw [List.length_map] at hk
 rw [← List.map_take,List.getElem_map]
 obtain ⟨h1,h2,h3,h4⟩:=gq (he k hk)
 have ht:∀ q∈p.take k,bX q=0:=fun q hq=>zL q (List.mem_of_mem_take hq)
 have BQ:=zL p[k] (List.getElem_mem hk)
 have:=(cB BQ).2.1
 refine qW (IL h1) (by rw [FN ht BQ]; exact h2) ?_ (by rw [yZ,pg]; exact h4)
 intro b hb hq
 exact h3 b ((qX (by omega) b).1 hb) ((Ak ht b).1 hq)
theorem IN {p:List bD} (h:bY p=0):cU (p.map df)=cU p:=by
 refine pK Bx (cO _).1 (cO _).1 fun b=>?_
 rw [(cO _).2,(cO _).2]
 exact Ak (gr h).2 b
theorem IP {p:List bD} (h:bY p=0):(p.map df).map df=p:=by
 rw [List.map_map]
 conv=>rhs; rw [← List.map_id p]
 refine List.map_congr_left fun c hc=>?_
 show df (df c)=c
 have:=(cB ((gr h).2 c hc)).2.1
 have e:(df c).2.2.2.2=c.2.2.2.2:=rfl
 have k1:aK (df c) c.2.2.2.2.toNat=(c.1,c.2.1):=by
  rw [nJ (by omega) (Nat.le_refl _),Nat.sub_self]
  unfold aK
  simp
 have e3:df (df c)=((aK (df c) c.2.2.2.2.toNat).1,(aK (df c) c.2.2.2.2.toNat).2,!(!c.2.2.1),!((!(c.2.2.2.1 == (Int.tmod c.2.2.2.2 2 == 1))) == (Int.tmod c.2.2.2.2 2 == 1)),c.2.2.2.2):=rfl
 rw [e3,k1]
 obtain ⟨x,y,r,u,n⟩:=c
 simp only
 cases r <;> cases u <;> cases (Int.tmod n 2 == 1) <;> rfl
theorem MU {dx dy:Int} (hx:-200000≤dx∧dx≤200000) (hy:-200000≤dy∧dy≤200000) {c:bD} (h:bX c=0):jN dx dy c=iT false dx dy c:=by
 have b:=DG h
 unfold jN iT mk
 rw [iE (by omega),iE (by omega)]
 cases c.2.2.1 <;> rfl
theorem Al {dx dy:Int} (hx:-200000≤dx∧dx≤200000) (hy:-200000≤dy∧dy≤200000) {p:List bD} (h:bY p=0):p.map (jN dx dy)=p.map (iT false dx dy):=
 List.map_congr_left fun c hc=>MU hx hy ((gr h).2 c hc)
theorem BE {n lo hi:Int} (h:pW n lo hi=0):lo≤n∧n≤hi:=by
 unfold pW at h
 split at h
 ·simp at h
 ·omega
theorem za {dx dy:Int} {p:List bD} (h:bY p=0):jZ dx dy p=0∨jZ dx dy p=3∨jZ dx dy p=14:=by
 unfold jZ
 by_cases h1:pW dx (-200000) 200000≠0∨pW dy (-200000) 200000≠0
 ·rw [if_pos h1]; exact .inr (.inl rfl)
 ·rw [if_neg h1]
  split
  ·exact .inr (.inr rfl)
  ·have hx:=BE (n:=dx) (lo:=-200000) (hi:=200000) (by
    by_cases e:pW dx (-200000) 200000=0
    ·exact e
    ·exact absurd (.inl e) h1)
   have hy:=BE (n:=dy) (lo:=-200000) (hi:=200000) (by
    by_cases e:pW dy (-200000) 200000=0
    ·exact e
    ·exact absurd (.inr e) h1)
   rw [Al hx hy h]
   exact RB h
theorem BF {dx dy:Int} {p:List bD} (h:bY p=0) (h0:jZ dx dy p=0):(-200000≤dx∧dx≤200000)∧(-200000≤dy∧dy≤200000)∧p.map (jN dx dy)=p.map (iT false dx dy)∧bY (p.map (iT false dx dy))=0:=by
 unfold jZ at h0
 by_cases h1:pW dx (-200000) 200000≠0∨pW dy (-200000) 200000≠0
 ·rw [if_pos h1] at h0; simp at h0
 ·rw [if_neg h1] at h0
  split at h0
  ·simp at h0
  ·have hx:=BE (n:=dx) (lo:=-200000) (hi:=200000) (by
    by_cases e:pW dx (-200000) 200000=0
    ·exact e
    ·exact absurd (.inl e) h1)
   have hy:=BE (n:=dy) (lo:=-200000) (hi:=200000) (by
    by_cases e:pW dy (-200000) 200000=0
    ·exact e
    ·exact absurd (.inr e) h1)
   have e:=Al hx hy h
   rw [e] at h0
   exact ⟨hx,hy,e,h0⟩
end Go.Proofs.YtldcljfjjoidhaaGreatDoor
