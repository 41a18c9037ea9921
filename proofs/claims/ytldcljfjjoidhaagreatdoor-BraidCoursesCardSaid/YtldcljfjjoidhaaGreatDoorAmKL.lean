/- The abstract machine: strings.Split,strings.Cut and strconv.Itoa by their contracts. -/
import Derived.Test.YtldcljfjjoidhaaGreatDoorAmKK
import Derived.Lib.SplitLaws
import Derived.Lib.CutLaws
import Derived.Deep.Draws
import Derived.Lib.LaidTab
import Derived.Lib.ItoaNum
import Derived.Sort.Grow
import Derived.Shelf.SlSortCmp.NoneTotal
set_option linter.all false
namespace Go.Am
open Go Go.RowKit
def eS (c:UInt8):List UInt8→List (List UInt8)
 | []=>[[]]
 | b :: s=>if b=c then [] :: eS c s else match eS c s with
  | []=>[[b]]
  | x :: xs=>(b :: x) :: xs
def tE (c:UInt8):List UInt8→List UInt8 × List UInt8 × Bool
 | []=>([],[],false)
 | b :: s=>if b=c then ([],s,true) else (b :: (tE c s).1,(tE c s).2.1,(tE c s).2.2)
theorem Qn (c b:UInt8) (l:List UInt8):[c].isPrefixOf (b :: l)=(c == b):=by simp [List.isPrefixOf]
theorem kb (c b:UInt8) (l:List UInt8):Lib.index (b :: l) [c]=if b=c then 0 else if Lib.index l [c]=-1 then -1 else Lib.index l [c]+1:=by
 rw [Lib.index,Qn]
 by_cases h:b=c
 ·subst h; simp
 ·have:(c == b)=false:=by simp; exact fun e=>h e.symm
  simp [this,h]
theorem oU (c:UInt8) (l:List UInt8):Lib.index l [c]=-1∨∃ i:Nat,Lib.index l [c]=i:=by
 rcases Lib.index_spec l [c] with ⟨h,_⟩ | ⟨i,h,_⟩
 ·exact .inl h
 ·exact .inr ⟨i,h⟩
theorem pO (c:UInt8):∀ l:List UInt8,Lib.index l [c]=-1↔l.count c=0
 | []=>by simp [Lib.index]
 | b :: l=>by
  rw [kb]
  by_cases h:b=c
  ·subst h; simp
  ·have ih:=pO c l
   rw [if_neg h,List.count_cons_of_ne h]
   rcases oU c l with h1 | ⟨i,h1⟩
   ·rw [if_pos h1]; simp [ih.1 h1]
   ·have bT:Lib.index l [c]≠-1:=by omega
    rw [if_neg bT]
    constructor
    ·intro h2; omega
    ·intro h2; exact absurd (ih.2 h2) bT
theorem mb (c:UInt8):∀ l:List UInt8,l.count c=0→eS c l=[l]
 | [],_=>rfl
 | b :: l,h=>by
  have hb:b≠c:=fun e=>by subst e; simp at h
  rw [List.count_cons_of_ne hb] at h
  unfold eS
  rw [if_neg hb,mb c l h]
theorem xF (c:UInt8):∀ l:List UInt8,Lib.splitK [c] 0 (l.count c) l=eS c l
 | []=>by simp [Lib.splitK,eS]
 | b :: l=>by
  have ih:=xF c l
  by_cases hb:b=c
  ·subst hb
   rw [List.count_cons_self,Lib.splitK,kb,if_pos rfl]
   simp [eS,ih]
  ·rw [List.count_cons_of_ne hb]
   cases hk:l.count c with
   | zero=>
    have:=mb c l hk
    unfold eS
    rw [if_neg hb,this,Lib.splitK]
   | succ k=>
    have bT:Lib.index l [c]≠-1:=fun e=>by have:=(pO c l).1 e; omega
    obtain ⟨i,hi⟩:=(oU c l).resolve_left bT
    rw [hk,Lib.splitK,hi] at ih
    rw [Lib.splitK,kb,if_neg hb,if_neg bT,hi]
    have e1:(((i:Int) == -1))=false:=by simp
    have e2:(((i:Int)+1 == -1))=false:=by simp; omega
    rw [e1] at ih
    rw [e2]
    unfold eS
    rw [if_neg hb,← ih]
    have e3:((i:Int)+1).toNat=i+1:=by omega
    simp [e3]
theorem IZ (c:UInt8):∀ l:List UInt8,Lib.cut l [c]=tE c l
 | []=>by simp [Lib.cut,Lib.index,tE]
 | b :: l=>by
  have ih:=IZ c l
  unfold Lib.cut at ih ⊢
  rw [kb]
  unfold tE
  by_cases hb:b=c
  ·rw [if_pos hb]; simp [hb]
  ·rw [if_neg hb,if_neg hb,← ih]
   rcases oU c l with h | ⟨i,h⟩
   ·rw [if_pos h,h]; simp
   ·have bT:Lib.index l [c]≠-1:=by omega
    have h1:(0:Int)≤(i:Int)+1:=by omega
    have h2:(0:Int)≤(i:Int):=by omega
    have e3:((i:Int)+1).toNat=i+1:=by omega
    rw [if_neg bT,h,if_pos h1,if_pos h2,e3]
    simp
theorem Eg (c:UInt8) (s:List UInt8):(Lib.splitB ⟨#[c]⟩ 0 (Lib.countB ⟨⟨s⟩⟩ ⟨#[c]⟩) ⟨⟨s⟩⟩).map (·.data.toList)=eS c s:=by
 rw [Lib.splitB_data]
 show Lib.splitK [c] 0 (Lib.count s [c]) s=_
 rw [Lib.count_one]
 exact xF c s
def vz (n:Int):Option (List UInt8):=bif decide (-9223372036854775808≤n)&&decide (n≤9223372036854775807) then some (Lib.itoa n) else none
def zE:aV:=⟨p1 (.int .i64),.str,vz⟩
def KF:List UInt8 × List UInt8→Option (List (List UInt8))
 | (s,[c])=>bif decide (s.length < 4294967281) then some (eS c s) else none
 | _=>none
def Qo:List UInt8 × List UInt8→Option (List UInt8 × List UInt8 × Bool)
 | (s,[c])=>bif decide (s.length < 4294967281) then some (tE c s) else none
 | _=>none
def zF:aV:=⟨p2 .str .str,.list 1 .str,KF⟩
def KG:aV:=⟨p2 .str .str,.aR (.cons .str (.cons .str (.cons .bool .nil))),Qo⟩
section
variable {E:Env} {R:ah} {w w':World}
theorem aN.Qp {g:FuncId} {args:List AV} {xs:List (List UInt8)} {t:TypeId} (hp:Plain E.P g) (hm:xs.length≤140737488355328)
  (h:∀ (R:ah) (w:World) (cs:List Value),cu E R w []→aA R w args cs→Calls E.P g ⟨cs⟩ w (fun e w'=>e=.returned (.slice (some ⟨w.heap.size,0,none⟩) xs.length xs.length)∧w'=w.alloc (.cells ((xs.map fun l=>Value.string ⟨⟨l⟩⟩).toArray) t)))
  (lP:ax 0 args=true):aN E g args (fun r'=>r'=(av.list 1 .str).enc xs):=fun G=>
 ⟨hp,fun R w cs hg hl=>by
  let R0:ah:=⟨R.I,[]⟩
  have m0:Mv R R0 0:=⟨fun _ _ h=>h,fun _ _ h=>absurd h (Nat.not_lt_zero _)⟩
  have IA:cu E R0 w []:=⟨rfl,fun id go ro h1 _=>by simp [nth] at h1,fun i j ri rj b h1=>by simp [R0,nth] at h1,hg.wf,fun g cs n4=>(hg.bY g cs n4).move m0 (bH _ (E.mf g cs n4)),hg.lo⟩
  refine callsIn_wide.2 ((h R0 w cs IA (hl.move m0 lP)).mono fun e w' ⟨he,hw⟩=>?_)
  subst he; subst hw
  let R':ah:=R.all w.heap.size
  have e1:=ot (R:=R) hg.wf (.cells ((xs.map fun l=>Value.string ⟨⟨l⟩⟩).toArray) t)
  have e:Ext R w R' (w.alloc (.cells ((xs.map fun l=>Value.string ⟨⟨l⟩⟩).toArray) t)):=e1.trans (lm R _ _)
  have old:∀ b,b < w.heap.size→(w.alloc (.cells ((xs.map fun l=>Value.string ⟨⟨l⟩⟩).toArray) t)).heap[b]?=w.heap[b]?:=fun b hb=>heap_alloc_old w _ hb
  have im:∀ b o,b < w.heap.size→R'.I b o→R.I b o:=fun b o hb hi=>hi.resolve_right (by omega)
  refine ⟨_,G,R',⟨rfl,rfl⟩,?_,?_,⟨e,rfl,rfl,rfl,by simp,fun b hb _=>old b hb,fun b hb ho=>ho,fun b o hi hb _=>im b o hb hi⟩⟩
  ·have nh:(w.alloc (.cells ((xs.map fun l=>Value.string ⟨⟨l⟩⟩).toArray) t)).heap[w.heap.size]?=some (.cells ((xs.map fun l=>Value.string ⟨⟨l⟩⟩).toArray) t):=heap_alloc_new w _
   have key:∀ (ys:List (List UInt8)) (o:Nat),(∀ (j:Nat) l,ys[j]?=some l→xs[o+j]?=some l)→ee R' (w.alloc (.cells ((xs.map fun l=>Value.string ⟨⟨l⟩⟩).toArray) t)) w.heap.size o 1 (ys.map (fun l=>AV.str l)):=by
    intro ys
    induction ys with
    | nil=>intro o _; exact .nil
    | cons l ys ih=>
     intro o hj
     refine .cons rfl rfl rfl (.cons (c:=.string ⟨⟨l⟩⟩) ?_ rfl (.inr rfl) (.str l) .nil) (ih (o+1) fun j l' h'=>by
      have:=hj (j+1) l' (by simpa using h')
      rwa [show o+(j+1)=o+1+j by omega] at this)
     have h0:=hj 0 l rfl
     rw [Nat.add_zero] at h0
     simp only [World.cell?,nh]
     simp [h0]
   have hk:=key xs 0 (fun j l h=>by rw [Nat.zero_add]; exact h)
   exact Rel.list (k:=.iy) (sz:=1) (es:=xs.map (fun l=>AV.str l)) hk (by rw [List.length_map]) (Nat.le_refl _) trivial
  ·exact hg.bA e rfl (fun b hb=>old b (hg.bl hb)) (fun b o hb hi=>im b o (hg.bl hb) hi) (fun b o hi=>by
    rcases hi with hi | hi
    ·have:=hg.wf b o hi; simp; omega
    ·subst hi; simp) (fun hd=>hd)⟩
theorem Eh {g gm:FuncId} {m:Int} {t:TypeId} (hp:Plain E.P g) (hg:E.bY gm=some [.int .i64 m])
  (h:∀ (s:ByteArray) (c:UInt8) (w:World),s.size < 4294967281→w.cell? ⟨gm,0,none⟩=some (.int .i64 m)→Calls E.P g #[.string s,.string ⟨#[c]⟩] w fun e w'=>
   e=.returned (.slice (some ⟨w.heap.size,0,none⟩) (Lib.countB s ⟨#[c]⟩+1) (Lib.countB s ⟨#[c]⟩+1))∧w'=w.alloc (.cells ((Lib.splitB ⟨#[c]⟩ 0 (Lib.countB s ⟨#[c]⟩) s).map Value.string).toArray t)):ap E g zF:=fun x y hT=>by
 obtain ⟨s,c⟩:=x
 match c,hT with
 | [],hT=>cases hT
 | _ :: _ :: _,hT=>cases hT
 | [c],hT=>
  have hT:(bif decide (s.length < 4294967281) then some (eS c s) else none)=some y:=hT
  obtain ⟨h1,h2⟩:s.length < 4294967281∧eS c s=y:=by
   cases hd:decide (s.length < 4294967281) with
   | true=>rw [hd] at hT; exact ⟨of_decide_eq_true hd,Option.some.inj hT⟩
   | false=>rw [hd] at hT; cases hT
  subst h2
  have hB:=Eg c s
  have lI:=Lib.splitB_all ⟨#[c]⟩ (Nat.le_refl 1) 0 _ ⟨⟨s⟩⟩ rfl
  have hlen:(eS c s).length=Lib.countB ⟨⟨s⟩⟩ ⟨#[c]⟩+1:=by rw [← hB,List.length_map,lI]
  have gl:=Lib.countB_le ⟨#[c]⟩ (Nat.le_refl 1) s.length ⟨⟨s⟩⟩ (by show s.length≤_; exact Nat.le_refl _)
  have gl:Lib.countB ⟨⟨s⟩⟩ ⟨#[c]⟩≤s.length:=gl
  refine aN.Qp (t:=t) hp (by rw [hlen]; omega) (fun R w cs hr hl=>?_) rfl
  have tX:cG R w gm 0 [.int .i64 m]:=(hr.bY gm _ hg).1
  have hm:w.cell? ⟨gm,0,none⟩=some (.int .i64 m):=by
   cases tX with
   | cons a1 _ _ a4 _=>cases a4; exact a1
  cases hl with
  | cons a1 hl=>
  cases hl with
  | cons a2 hl=>
  cases hl
  cases a1; cases a2
  refine (h ⟨⟨s⟩⟩ c w (by show s.length < _; exact h1) hm).mono ?_
  rintro e w' ⟨rfl,rfl⟩
  have e3:(Lib.splitB ⟨#[c]⟩ 0 (Lib.countB ⟨⟨s⟩⟩ ⟨#[c]⟩) ⟨⟨s⟩⟩).map Value.string=(eS c s).map fun l=>Value.string ⟨⟨l⟩⟩:=by
   rw [← hB,List.map_map]; rfl
  rw [hlen,e3]
  exact ⟨rfl,rfl⟩
theorem KH {g gm:FuncId} {m:Int} (hp:Plain E.P g) (hg:E.bY gm=some [.int .i64 m]) (hE:E.lo=0)
  (h:∀ (s:ByteArray) (c:UInt8) (w:World),s.size < 4294967281→w.cell? ⟨gm,0,none⟩=some (.int .i64 m)→Calls E.P g #[.string s,.string ⟨#[c]⟩] w fun e w'=>
   e=.returned (.tuple #[.string ⟨(Lib.cut s.data.toList [c]).1.toArray⟩,.string ⟨(Lib.cut s.data.toList [c]).2.1.toArray⟩,.bool (Lib.cut s.data.toList [c]).2.2])∧∃ n,w'=w.drewN n):ap E g KG:=fun x y hT=>by
 obtain ⟨s,c⟩:=x
 match c,hT with
 | [],hT=>cases hT
 | _ :: _ :: _,hT=>cases hT
 | [c],hT=>
  have hT:(bif decide (s.length < 4294967281) then some (tE c s) else none)=some y:=hT
  obtain ⟨h1,h2⟩:s.length < 4294967281∧tE c s=y:=by
   cases hd:decide (s.length < 4294967281) with
   | true=>rw [hd] at hT; exact ⟨of_decide_eq_true hd,Option.some.inj hT⟩
   | false=>rw [hd] at hT; cases hT
  subst h2
  refine fun G=>⟨hp,fun R w cs hr hl=>callsIn_wide.2 ?_⟩
  have tX:cG R w gm 0 [.int .i64 m]:=(hr.bY gm _ hg).1
  have hm:w.cell? ⟨gm,0,none⟩=some (.int .i64 m):=by
   cases tX with
   | cons a1 _ _ a4 _=>cases a4; exact a1
  have L5:=hr.wf
  cases hl with
  | cons a1 hl=>
  cases hl with
  | cons a2 hl=>
  cases hl
  cases a1; cases a2
  refine (h ⟨⟨s⟩⟩ c w (by show s.length < _; exact h1) hm).mono ?_
  rintro e w' ⟨rfl,n,rfl⟩
  have hb:Below w.heap.size w (w.drewN n):=⟨rfl,rfl,rfl,Nat.le_refl _,fun _ _=>rfl⟩
  refine ⟨_,G,R,⟨rfl,rfl⟩,?_,Below.FU hb hr hE,Below.AH hb L5⟩
  have e4:Lib.cut (⟨⟨s⟩⟩:ByteArray).data.toList [c]=tE c s:=IZ c s
  rw [e4]
  exact Rel.aR (.cons (.str _) (.cons (.str _) (.cons (.bool _) .nil)))
theorem xG {R:ah} {w:World} {b:Nat}:∀ {zs:List Int} {k:IntKind} {o:Nat},cG R w b o (zs.map fun z=>AV.int k z)→∀ (j:Nat) z,zs[j]?=some z→w.cell? ⟨b,o+j,none⟩=some (.int k z)
 | [],_,_,_,j,z,h=>by simp at h
 | a :: zs,k,o,.cons h1 h2 h3 h4 t,0,z,h=>by
  cases h4
  simp only [List.getElem?_cons_zero,Option.some.injEq] at h
  subst h
  exact h1
 | a :: zs,k,o,.cons h1 h2 h3 h4 t,j+1,z,h=>by
  have:=xG t j z (by simpa using h)
  rwa [show o+(j+1)=o+1+j by omega]
theorem fZ.zv {nm:String} {gt:Nat} {k:IntKind} {zs:List Int} (hn:E.P.globalNamed nm=some gt) (hx:E.gx gt=true) (h0:1≤zs.length) (h:fZ E R w gt (zs.map fun z=>AV.int k z)):Lib.TabIs E.P w nm k zs:=by
 obtain ⟨h1,h2⟩:=h
 obtain ⟨_,h2⟩:=h2 hx
 rw [List.length_map] at h2
 have hg:=xG h1
 unfold Lib.TabIs World.var?
 rw [hn]
 have LI:=hg 0 zs[0] (by simp [List.getElem?_eq_getElem h0])
 cases hb:w.heap[gt]? with
 | none=>simp [World.cell?,hb] at LI
 | some ob=>
  cases ob with
  | cells cs t fr=>
   have hc:∀ j,w.cell? ⟨gt,j,none⟩=cs[j]?:=fun j=>by simp [World.cell?,hb]
   have e:cs=(zs.map fun z=>Value.int k z).toArray:=by
    apply Array.ext'
    rw [List.toList_toArray]
    apply List.ext_getElem?
    intro j
    rw [Array.getElem?_toList,List.getElem?_map]
    rcases Nat.lt_or_ge j zs.length with hj | hj
    ·have:=hg j zs[j] (by simp [List.getElem?_eq_getElem hj])
     rw [Nat.zero_add,hc] at this
     rw [this,List.getElem?_eq_getElem hj]; rfl
    ·have hz:zs[j]?=none:=List.getElem?_eq_none hj
     rw [hz,Option.map_none]
     rw [hc] at h2
     have hs:cs.size≤zs.length:=by simpa using h2
     exact Array.getElem?_eq_none (by omega)
   show (match w.heap[gt]? with | some (.cells cs _ _)=>some cs | _=>none)=_
   rw [hb,e]
  | _=>simp [World.cell?,hb] at LI
theorem Ei {g gt:FuncId} {nm:String} (hp:Plain E.P g) (hg:E.bY gt=some (Lib.pow10Tab.map fun z=>AV.int .u64 z)) (hx:E.gx gt=true) (hn:E.P.globalNamed nm=some gt) (hE:E.lo=0)
  (h:∀ (n:Int) (w:World),-9223372036854775808≤n→n≤9223372036854775807→Lib.TabIs E.P w nm .u64 Lib.pow10Tab→Calls E.P g #[.int .i64 n] w fun e w'=>
   e=.returned (.string ⟨(Lib.itoa n).toArray⟩)∧∃ k os,w'=Sort.grow (w.drewN k) os):ap E g zE:=fun x y hT=>by
 obtain ⟨n,rfl⟩:∃ n:Int,(show zE.ps.T from n)=x:=⟨x,rfl⟩
 have hT:(bif decide (-9223372036854775808≤n)&&decide (n≤9223372036854775807) then some (Lib.itoa n) else none)=some y:=hT
 obtain ⟨h1,h2⟩:=xx.cond_some' hT
 subst h2
 rw [Bool.and_eq_true] at h1
 have a:=of_decide_eq_true h1.1
 have b:=of_decide_eq_true h1.2
 refine fun G=>⟨hp,fun R w cs hr hl=>callsIn_wide.2 ?_⟩
 have vu:=(hr.bY gt _ hg).zv hn hx (by rw [Lib.pow10Tab_length]; decide)
 have L5:=hr.wf
 cases hl with
 | cons a1 hl=>
 cases hl
 cases a1
 refine (h n w a b vu).mono ?_
 rintro e w' ⟨rfl,k,os,rfl⟩
 have hb:Below w.heap.size w (Sort.grow (w.drewN k) os):=⟨rfl,rfl,rfl,by simp [Sort.grow,World.drewN],fun i hi=>by
  show (w.heap++os)[i]?=_
  rw [Array.getElem?_append_left hi]⟩
 exact ⟨_,G,R,⟨rfl,rfl⟩,Rel.str _,Below.FU hb hr hE,Below.AH hb L5⟩
end
end Go.Am
namespace Go.Am
open Go
section
variable {κ ν:Type} [DecidableEq κ]
def getM (k:κ):List (κ × ν)→Option ν
 | []=>none
 | (k',v) :: m=>if k=k' then some v else getM k m
def sV (k:κ) (v:ν):List (κ × ν)→List (κ × ν)
 | []=>[(k,v)]
 | (k',v') :: m=>if k=k' then (k,v) :: m else (k',v') :: sV k v m
theorem xK (k k':κ) (v:ν):∀ m:List (κ × ν),getM k' (sV k v m)=if k'=k then some v else getM k' m
 | []=>rfl
 | (k1,v1) :: m=>by
  unfold sV
  by_cases h:k=k1
  ·subst h
   rw [if_pos rfl]
   by_cases h2:k'=k
   ·simp [getM,h2]
   ·simp [getM,h2]
  ·rw [if_neg h]
   by_cases h2:k'=k1
   ·subst h2
    have h3:¬ k'=k:=fun e=>h e.symm
    simp [getM,h3]
   ·simp only [getM,if_neg h2]
    exact xK k k' v m
structure fq (ek:EK) (nk:κ→AV) (nv:ν→AV) (nM:κ × ν→AV):Prop where
 key:∀ a b,zS ek (nk a) (nk b)=some (decide (a=b))
 pair:∀ x,nM x=.agg [nk x.1,nv x.2]
 exact:∀ x,(nM x).exact=true
variable {ek:EK} {nk:κ→AV} {nv:ν→AV} {nM:κ × ν→AV} (h:fq ek nk nv nM)
include h
theorem fq.QK:∀ m:List (κ × ν),ab (List.map nM m)=m.map fun x=>(nk x.1,nv x.2)
 | []=>rfl
 | x :: m=>by
  rw [List.map_cons,h.pair,ab,fq.QK m]
  rfl
theorem fq.keys (k:κ):∀ m:List (κ × ν),ew ek (nk k) (ab (List.map nM m))=true
 | []=>rfl
 | x :: m=>by
  have:=fq.keys k m
  rw [List.map_cons,h.pair,ab]
  show ((zS ek (nk k) (nk x.1)).isSome&&ew ek (nk k) (ab (List.map nM m)))=true
  rw [this,h.key]
  rfl
theorem fq.get (k:κ):∀ m:List (κ × ν),dj ek (nk k) (ab (List.map nM m))=(getM k m).map nv
 | []=>rfl
 | x :: m=>by
  have ih:=fq.get k m
  rw [List.map_cons,h.pair,ab]
  show (bif qo ek (nk k) (nk x.1) then some (nv x.2) else dj ek (nk k) (ab (List.map nM m)))=(if k=x.1 then some x.2 else getM k m).map nv
  unfold qo
  rw [h.key,ih]
  by_cases e:k=x.1
  ·simp [e]
  ·simp [e]
theorem fq.getD (k:κ) (z:ν) (m:List (κ × ν)):bO ek (nk k) (nv z) (ab (List.map nM m))=nv ((getM k m).getD z):=by
 unfold bO
 rw [h.get]
 cases getM k m <;> rfl
theorem fq.put (k:κ) (v:ν):∀ m:List (κ × ν),dm ek (nk k) (nv v) (ab (List.map nM m))=ab (List.map nM (sV k v m))
 | []=>by
  show [(nk k,nv v)]=ab [nM (k,v)]
  rw [h.pair]
  rfl
 | x :: m=>by
  have ih:=fq.put k v m
  rw [List.map_cons,h.pair,ab]
  show (bif qo ek (nk k) (nk x.1) then (nk k,nv v) :: ab (List.map nM m) else (nk x.1,nv x.2) :: dm ek (nk k) (nv v) (ab (List.map nM m)))=ab (List.map nM (if k=x.1 then (k,v) :: m else (x.1,x.2) :: sV k v m))
  unfold qo
  rw [h.key,ih]
  by_cases e:k=x.1
  ·simp only [e,decide_true,cond_true,if_true,List.map_cons]
   rw [h.pair (x.1,v),ab]
   rfl
  ·simp only [e,decide_false,cond_false,if_false,List.map_cons]
   rw [h.pair (x.1,x.2),ab]
   rfl
theorem fq.cells:∀ m:List (κ × ν),aq (ab (List.map nM m))=List.map nM m
 | []=>rfl
 | x :: m=>by
  have ih:=fq.cells m
  rw [List.map_cons,h.pair,ab]
  show AV.agg [nk x.1,nv x.2] :: aq (ab (List.map nM m))=_
  rw [ih]
theorem fq.cT (m:List (κ × ν)):Go.Am.cT (ab (List.map nM m))=true:=by
 unfold Go.Am.cT
 rw [h.cells]
 induction m with
 | nil=>rfl
 | cons x m ih=>rw [List.map_cons,dX,ih,h.exact]; rfl
end
theorem HG (a b:Int × Int):zS (.st (.cons 0 1 false .int (.cons 1 1 false .int .nil))) (.agg [.int .i64 a.1,.int .i64 a.2]) (.agg [.int .i64 b.1,.int .i64 b.2])=some (decide (a=b)):=by
 obtain ⟨a1,a2⟩:=a
 obtain ⟨b1,b2⟩:=b
 have e:iE (.st (.cons 0 1 false .int (.cons 1 1 false .int .nil))) (.agg [.int .i64 a1,.int .i64 a2]) (.agg [.int .i64 b1,.int .i64 b2])=some ((a1 == b1)&&((a2 == b2)&&true)):=rfl
 unfold zS
 rw [e]
 by_cases h1:a1=b1 <;> by_cases h2:a2=b2
 ·subst h1; subst h2
  simp [EK.wide,jI,ko,mW]
 all_goals simp [h1,h2]
end Go.Am
namespace Go.Am
open Go
theorem sW (ek:EK) (k v x:AV):∀ es:List (AV × AV),fe (dm ek k v es) (ey ek k es) x=dm ek k x es
 | []=>rfl
 | (k',v') :: l=>by
  unfold dm ey
  cases h:qo ek k k' with
  | true=>rfl
  | false=>
   simp only [cond_false,fe]
   rw [sW ek k v x l]
theorem Ep (ek:EK) (k v:AV):∀ es:List (AV × AV),ey ek k es < (dm ek k v es).length
 | []=>Nat.zero_lt_one
 | (k',v') :: l=>by
  unfold dm ey
  cases h:qo ek k k' with
  | true=>exact Nat.zero_lt_succ _
  | false=>
   simp only [cond_false,List.length_cons]
   have:=Ep ek k v l
   omega
theorem zH {V X:Type} (rd:(V→Option X)→V→Option X) (n:Nat) (v:V):jA rd (n+1) v=rd (jA rd n) v:=rfl
def BQ (L:List Nat):List Int:=L.map fun n:Nat=>(n:Int)
theorem Er {α:Type} (f:α→AV × AV) (m:List α) {i:Nat} (h:i < m.length):cK (m.map f) i=f m[i]:=by
 unfold cK
 rw [aJ,List.getElem?_map,List.getElem?_eq_getElem h]
 rfl
end Go.Am
namespace Go.Am
open Go Go.RowKit Go.Proofs Go.Shelf Go.Sort
section
variable {E:Env} {ρ:Ren} {c:FuncId} {p:av} {k:Nat} {cf:p.T→p.T→Int} [Inhabited p.T]
end
end Go.Am
namespace Go.Am
open Go Go.Sort
section
variable {α:Type} [DecidableEq α] {lt:α→α→Bool}
end
end Go.Am
