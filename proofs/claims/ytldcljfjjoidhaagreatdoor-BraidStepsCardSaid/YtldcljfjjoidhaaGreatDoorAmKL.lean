/- The abstract machine: strings.Split,strings.Cut and strconv.Itoa by their contracts. -/
import Derived.Test.YtldcljfjjoidhaaGreatDoorAmKK
import Derived.Lib.SplitLaws
import Derived.Lib.CutLaws
import Derived.Deep.Draws
import Derived.Lib.LaidTab
import Derived.Lib.ItoaNum
import Derived.Sort.Grow
import Derived.Shelf.SlSortCmp.NoneTotal
set_option linter.all false
namespace Go.Am
open Go Go.RowKit
def gr (c:UInt8):List UInt8→List (List UInt8)
 | []=>[[]]
 | b :: s=>if b=c then [] :: gr c s else match gr c s with
  | []=>[[b]]
  | x :: xs=>(b :: x) :: xs
def xI (c:UInt8):List UInt8→List UInt8 × List UInt8 × Bool
 | []=>([],[],false)
 | b :: s=>if b=c then ([],s,true) else (b :: (xI c s).1,(xI c s).2.1,(xI c s).2.2)
theorem ZT (c b:UInt8) (l:List UInt8):[c].isPrefixOf (b :: l)=(c == b):=by simp [List.isPrefixOf]
theorem mB (c b:UInt8) (l:List UInt8):Lib.index (b :: l) [c]=if b=c then 0 else if Lib.index l [c]=-1 then -1 else Lib.index l [c]+1:=by
 rw [Lib.index,ZT]
 by_cases h:b=c
 ·subst h; simp
 ·have:(c == b)=false:=by simp; exact fun e=>h e.symm
  simp [this,h]
theorem sf (c:UInt8) (l:List UInt8):Lib.index l [c]=-1∨∃ i:Nat,Lib.index l [c]=i:=by
 rcases Lib.index_spec l [c] with ⟨h,_⟩ | ⟨i,h,_⟩
 ·exact .inl h
 ·exact .inr ⟨i,h⟩
theorem tj (c:UInt8):∀ l:List UInt8,Lib.index l [c]=-1↔l.count c=0
 | []=>by simp [Lib.index]
 | b :: l=>by
  rw [mB]
  by_cases h:b=c
  ·subst h; simp
  ·have ih:=tj c l
   rw [if_neg h,List.count_cons_of_ne h]
   rcases sf c l with h1 | ⟨i,h1⟩
   ·rw [if_pos h1]; simp [ih.1 h1]
   ·have cA:Lib.index l [c]≠-1:=by omega
    rw [if_neg cA]
    constructor
    ·intro h2; omega
    ·intro h2; exact absurd (ih.2 h2) cA
theorem po (c:UInt8):∀ l:List UInt8,l.count c=0→gr c l=[l]
 | [],_=>rfl
 | b :: l,h=>by
  have hb:b≠c:=fun e=>by subst e; simp at h
  rw [List.count_cons_of_ne hb] at h
  unfold gr
  rw [if_neg hb,po c l h]
theorem B3 (c:UInt8):∀ l:List UInt8,Lib.splitK [c] 0 (l.count c) l=gr c l
 | []=>by simp [Lib.splitK,gr]
 | b :: l=>by
  have ih:=B3 c l
  by_cases hb:b=c
  ·subst hb
   rw [List.count_cons_self,Lib.splitK,mB,if_pos rfl]
   simp [gr,ih]
  ·rw [List.count_cons_of_ne hb]
   cases hk:l.count c with
   | zero=>
    have:=po c l hk
    unfold gr
    rw [if_neg hb,this,Lib.splitK]
   | succ k=>
    have cA:Lib.index l [c]≠-1:=fun e=>by have:=(tj c l).1 e; omega
    obtain ⟨i,hi⟩:=(sf c l).resolve_left cA
    rw [hk,Lib.splitK,hi] at ih
    rw [Lib.splitK,mB,if_neg hb,if_neg cA,hi]
    have e1:(((i:Int) == -1))=false:=by simp
    have e2:(((i:Int)+1 == -1))=false:=by simp; omega
    rw [e1] at ih
    rw [e2]
    unfold gr
    rw [if_neg hb,← ih]
    have e3:((i:Int)+1).toNat=i+1:=by omega
    simp [e3]
theorem Qo (c:UInt8):∀ l:List UInt8,Lib.cut l [c]=xI c l
 | []=>by simp [Lib.cut,Lib.index,xI]
 | b :: l=>by
  have ih:=Qo c l
  unfold Lib.cut at ih ⊢
  rw [mB]
  unfold xI
  by_cases hb:b=c
  ·rw [if_pos hb]; simp [hb]
  ·rw [if_neg hb,if_neg hb,← ih]
   rcases sf c l with h | ⟨i,h⟩
   ·rw [if_pos h,h]; simp
   ·have cA:Lib.index l [c]≠-1:=by omega
    have h1:(0:Int)≤(i:Int)+1:=by omega
    have h2:(0:Int)≤(i:Int):=by omega
    have e3:((i:Int)+1).toNat=i+1:=by omega
    rw [if_neg cA,h,if_pos h1,if_pos h2,e3]
    simp
theorem JE (c:UInt8) (s:List UInt8):(Lib.splitB ⟨#[c]⟩ 0 (Lib.countB ⟨⟨s⟩⟩ ⟨#[c]⟩) ⟨⟨s⟩⟩).map (·.data.toList)=gr c s:=by
 rw [Lib.splitB_data]
 show Lib.splitK [c] 0 (Lib.count s [c]) s=_
 rw [Lib.count_one]
 exact B3 c s
def Ab (n:Int):Option (List UInt8):=bif decide (-9223372036854775808≤n)&&decide (n≤9223372036854775807) then some (Lib.itoa n) else none
def DR:aL:=⟨p1 (.int .i64),.str,Ab⟩
def Sq:List UInt8 × List UInt8→Option (List (List UInt8))
 | (s,[c])=>bif decide (s.length < 4294967281) then some (gr c s) else none
 | _=>none
def ZU:List UInt8 × List UInt8→Option (List UInt8 × List UInt8 × Bool)
 | (s,[c])=>bif decide (s.length < 4294967281) then some (xI c s) else none
 | _=>none
def DS:aL:=⟨p2 .str .str,.list 1 .str,Sq⟩
def Sr:aL:=⟨p2 .str .str,.bf (.cons .str (.cons .str (.cons .bool .nil))),ZU⟩
section
variable {E:Env} {R:ak} {w w':World}
theorem aR.ZV {g:FuncId} {args:List AV} {xs:List (List UInt8)} {t:TypeId} (hp:Plain E.P g) (hm:xs.length≤140737488355328)
  (h:∀ (R:ak) (w:World) (cs:List Value),de E R w []→aH R w args cs→Calls E.P g ⟨cs⟩ w (fun e w'=>e=.returned (.slice (some ⟨w.heap.size,0,none⟩) xs.length xs.length)∧w'=w.alloc (.cells ((xs.map fun l=>Value.string ⟨⟨l⟩⟩).toArray) t)))
  (oV:aC 0 args=true):aR E g args (fun r'=>r'=(aj.list 1 .str).enc xs):=fun G=>
 ⟨hp,fun R w cs hg hl=>by
  let R0:ak:=⟨R.I,[]⟩
  have m0:Mv R R0 0:=⟨fun _ _ h=>h,fun _ _ h=>absurd h (Nat.not_lt_zero _)⟩
  have Lf:de E R0 w []:=⟨rfl,fun id go ro h1 _=>by simp [nth] at h1,fun i j ri rj b h1=>by simp [R0,nth] at h1,hg.wf,fun g cs py=>(hg.bY g cs py).move m0 (cb _ (E.mT g cs py)),hg.lo⟩
  refine callsIn_wide.2 ((h R0 w cs Lf (hl.move m0 oV)).mono fun e w' ⟨he,hw⟩=>?_)
  subst he; subst hw
  let R':ak:=R.all w.heap.size
  have e1:=rI (R:=R) hg.wf (.cells ((xs.map fun l=>Value.string ⟨⟨l⟩⟩).toArray) t)
  have e:Ext R w R' (w.alloc (.cells ((xs.map fun l=>Value.string ⟨⟨l⟩⟩).toArray) t)):=e1.trans (oq R _ _)
  have old:∀ b,b < w.heap.size→(w.alloc (.cells ((xs.map fun l=>Value.string ⟨⟨l⟩⟩).toArray) t)).heap[b]?=w.heap[b]?:=fun b hb=>heap_alloc_old w _ hb
  have im:∀ b o,b < w.heap.size→R'.I b o→R.I b o:=fun b o hb hi=>hi.resolve_right (by omega)
  refine ⟨_,G,R',⟨rfl,rfl⟩,?_,?_,⟨e,rfl,rfl,rfl,by simp,fun b hb _=>old b hb,fun b hb ho=>ho,fun b o hi hb _=>im b o hb hi⟩⟩
  ·have nh:(w.alloc (.cells ((xs.map fun l=>Value.string ⟨⟨l⟩⟩).toArray) t)).heap[w.heap.size]?=some (.cells ((xs.map fun l=>Value.string ⟨⟨l⟩⟩).toArray) t):=heap_alloc_new w _
   have key:∀ (ys:List (List UInt8)) (o:Nat),(∀ (j:Nat) l,ys[j]?=some l→xs[o+j]?=some l)→fx R' (w.alloc (.cells ((xs.map fun l=>Value.string ⟨⟨l⟩⟩).toArray) t)) w.heap.size o 1 (ys.map (fun l=>AV.str l)):=by
    intro ys
    induction ys with
    | nil=>intro o _; exact .nil
    | cons l ys ih=>
     intro o hj
     refine .cons rfl rfl rfl (.cons (c:=.string ⟨⟨l⟩⟩) ?_ rfl (.inr rfl) (.str l) .nil) (ih (o+1) fun j l' h'=>by
      have:=hj (j+1) l' (by simpa using h')
      rwa [show o+(j+1)=o+1+j by omega] at this)
     have h0:=hj 0 l rfl
     rw [Nat.add_zero] at h0
     simp only [World.cell?,nh]
     simp [h0]
   have hk:=key xs 0 (fun j l h=>by rw [Nat.zero_add]; exact h)
   exact Rel.list (k:=.ki) (sz:=1) (es:=xs.map (fun l=>AV.str l)) hk (by rw [List.length_map]) (Nat.le_refl _) trivial
  ·exact hg.bp e rfl (fun b hb=>old b (hg.bT hb)) (fun b o hb hi=>im b o (hg.bT hb) hi) (fun b o hi=>by
    rcases hi with hi | hi
    ·have:=hg.wf b o hi; simp; omega
    ·subst hi; simp) (fun hd=>hd)⟩
theorem JF {g gm:FuncId} {m:Int} {t:TypeId} (hp:Plain E.P g) (hg:E.bY gm=some [.int .i64 m])
  (h:∀ (s:ByteArray) (c:UInt8) (w:World),s.size < 4294967281→w.cell? ⟨gm,0,none⟩=some (.int .i64 m)→Calls E.P g #[.string s,.string ⟨#[c]⟩] w fun e w'=>
   e=.returned (.slice (some ⟨w.heap.size,0,none⟩) (Lib.countB s ⟨#[c]⟩+1) (Lib.countB s ⟨#[c]⟩+1))∧w'=w.alloc (.cells ((Lib.splitB ⟨#[c]⟩ 0 (Lib.countB s ⟨#[c]⟩) s).map Value.string).toArray t)):an E g DS:=fun x y hT=>by
 obtain ⟨s,c⟩:=x
 match c,hT with
 | [],hT=>cases hT
 | _ :: _ :: _,hT=>cases hT
 | [c],hT=>
  have hT:(bif decide (s.length < 4294967281) then some (gr c s) else none)=some y:=hT
  obtain ⟨h1,h2⟩:s.length < 4294967281∧gr c s=y:=by
   cases hd:decide (s.length < 4294967281) with
   | true=>rw [hd] at hT; exact ⟨of_decide_eq_true hd,Option.some.inj hT⟩
   | false=>rw [hd] at hT; cases hT
  subst h2
  have hB:=JE c s
  have mO:=Lib.splitB_all ⟨#[c]⟩ (Nat.le_refl 1) 0 _ ⟨⟨s⟩⟩ rfl
  have hlen:(gr c s).length=Lib.countB ⟨⟨s⟩⟩ ⟨#[c]⟩+1:=by rw [← hB,List.length_map,mO]
  have iG:=Lib.countB_le ⟨#[c]⟩ (Nat.le_refl 1) s.length ⟨⟨s⟩⟩ (by show s.length≤_; exact Nat.le_refl _)
  have iG:Lib.countB ⟨⟨s⟩⟩ ⟨#[c]⟩≤s.length:=iG
  refine aR.ZV (t:=t) hp (by rw [hlen]; omega) (fun R w cs hr hl=>?_) rfl
  have uZ:dx R w gm 0 [.int .i64 m]:=(hr.bY gm _ hg).1
  have hm:w.cell? ⟨gm,0,none⟩=some (.int .i64 m):=by
   cases uZ with
   | cons a1 _ _ a4 _=>cases a4; exact a1
  cases hl with
  | cons a1 hl=>
  cases hl with
  | cons a2 hl=>
  cases hl
  cases a1; cases a2
  refine (h ⟨⟨s⟩⟩ c w (by show s.length < _; exact h1) hm).mono ?_
  rintro e w' ⟨rfl,rfl⟩
  have e3:(Lib.splitB ⟨#[c]⟩ 0 (Lib.countB ⟨⟨s⟩⟩ ⟨#[c]⟩) ⟨⟨s⟩⟩).map Value.string=(gr c s).map fun l=>Value.string ⟨⟨l⟩⟩:=by
   rw [← hB,List.map_map]; rfl
  rw [hlen,e3]
  exact ⟨rfl,rfl⟩
theorem Ss {g gm:FuncId} {m:Int} (hp:Plain E.P g) (hg:E.bY gm=some [.int .i64 m]) (hE:E.lo=0)
  (h:∀ (s:ByteArray) (c:UInt8) (w:World),s.size < 4294967281→w.cell? ⟨gm,0,none⟩=some (.int .i64 m)→Calls E.P g #[.string s,.string ⟨#[c]⟩] w fun e w'=>
   e=.returned (.tuple #[.string ⟨(Lib.cut s.data.toList [c]).1.toArray⟩,.string ⟨(Lib.cut s.data.toList [c]).2.1.toArray⟩,.bool (Lib.cut s.data.toList [c]).2.2])∧∃ n,w'=w.drewN n):an E g Sr:=fun x y hT=>by
 obtain ⟨s,c⟩:=x
 match c,hT with
 | [],hT=>cases hT
 | _ :: _ :: _,hT=>cases hT
 | [c],hT=>
  have hT:(bif decide (s.length < 4294967281) then some (xI c s) else none)=some y:=hT
  obtain ⟨h1,h2⟩:s.length < 4294967281∧xI c s=y:=by
   cases hd:decide (s.length < 4294967281) with
   | true=>rw [hd] at hT; exact ⟨of_decide_eq_true hd,Option.some.inj hT⟩
   | false=>rw [hd] at hT; cases hT
  subst h2
  refine fun G=>⟨hp,fun R w cs hr hl=>callsIn_wide.2 ?_⟩
  have uZ:dx R w gm 0 [.int .i64 m]:=(hr.bY gm _ hg).1
  have hm:w.cell? ⟨gm,0,none⟩=some (.int .i64 m):=by
   cases uZ with
   | cons a1 _ _ a4 _=>cases a4; exact a1
  have UW:=hr.wf
  cases hl with
  | cons a1 hl=>
  cases hl with
  | cons a2 hl=>
  cases hl
  cases a1; cases a2
  refine (h ⟨⟨s⟩⟩ c w (by show s.length < _; exact h1) hm).mono ?_
  rintro e w' ⟨rfl,n,rfl⟩
  have hb:Below w.heap.size w (w.drewN n):=⟨rfl,rfl,rfl,Nat.le_refl _,fun _ _=>rfl⟩
  refine ⟨_,G,R,⟨rfl,rfl⟩,?_,Below.IP hb hr hE,Below.BU hb UW⟩
  have e4:Lib.cut (⟨⟨s⟩⟩:ByteArray).data.toList [c]=xI c s:=Qo c s
  rw [e4]
  exact Rel.bf (.cons (.str _) (.cons (.str _) (.cons (.bool _) .nil)))
theorem B4 {R:ak} {w:World} {b:Nat}:∀ {zs:List Int} {k:IntKind} {o:Nat},dx R w b o (zs.map fun z=>AV.int k z)→∀ (j:Nat) z,zs[j]?=some z→w.cell? ⟨b,o+j,none⟩=some (.int k z)
 | [],_,_,_,j,z,h=>by simp at h
 | a :: zs,k,o,.cons h1 h2 h3 h4 t,0,z,h=>by
  cases h4
  simp only [List.getElem?_cons_zero,Option.some.injEq] at h
  subst h
  exact h1
 | a :: zs,k,o,.cons h1 h2 h3 h4 t,j+1,z,h=>by
  have:=B4 t j z (by simpa using h)
  rwa [show o+(j+1)=o+1+j by omega]
theorem iX.yH {nm:String} {gt:Nat} {k:IntKind} {zs:List Int} (hn:E.P.globalNamed nm=some gt) (hx:E.gx gt=true) (h0:1≤zs.length) (h:iX E R w gt (zs.map fun z=>AV.int k z)):Lib.TabIs E.P w nm k zs:=by
 obtain ⟨h1,h2⟩:=h
 obtain ⟨_,h2⟩:=h2 hx
 rw [List.length_map] at h2
 have hg:=B4 h1
 unfold Lib.TabIs World.var?
 rw [hn]
 have Uz:=hg 0 zs[0] (by simp [List.getElem?_eq_getElem h0])
 cases hb:w.heap[gt]? with
 | none=>simp [World.cell?,hb] at Uz
 | some ob=>
  cases ob with
  | cells cs t fr=>
   have hc:∀ j,w.cell? ⟨gt,j,none⟩=cs[j]?:=fun j=>by simp [World.cell?,hb]
   have e:cs=(zs.map fun z=>Value.int k z).toArray:=by
    apply Array.ext'
    rw [List.toList_toArray]
    apply List.ext_getElem?
    intro j
    rw [Array.getElem?_toList,List.getElem?_map]
    rcases Nat.lt_or_ge j zs.length with hj | hj
    ·have:=hg j zs[j] (by simp [List.getElem?_eq_getElem hj])
     rw [Nat.zero_add,hc] at this
     rw [this,List.getElem?_eq_getElem hj]; rfl
    ·have hz:zs[j]?=none:=List.getElem?_eq_none hj
     rw [hz,Option.map_none]
     rw [hc] at h2
     have hs:cs.size≤zs.length:=by simpa using h2
     exact Array.getElem?_eq_none (by omega)
   show (match w.heap[gt]? with | some (.cells cs _ _)=>some cs | _=>none)=_
   rw [hb,e]
  | _=>simp [World.cell?,hb] at Uz
theorem JG {g gt:FuncId} {nm:String} (hp:Plain E.P g) (hg:E.bY gt=some (Lib.pow10Tab.map fun z=>AV.int .u64 z)) (hx:E.gx gt=true) (hn:E.P.globalNamed nm=some gt) (hE:E.lo=0)
  (h:∀ (n:Int) (w:World),-9223372036854775808≤n→n≤9223372036854775807→Lib.TabIs E.P w nm .u64 Lib.pow10Tab→Calls E.P g #[.int .i64 n] w fun e w'=>
   e=.returned (.string ⟨(Lib.itoa n).toArray⟩)∧∃ k os,w'=Sort.grow (w.drewN k) os):an E g DR:=fun x y hT=>by
 obtain ⟨n,rfl⟩:∃ n:Int,(show DR.ps.T from n)=x:=⟨x,rfl⟩
 have hT:(bif decide (-9223372036854775808≤n)&&decide (n≤9223372036854775807) then some (Lib.itoa n) else none)=some y:=hT
 obtain ⟨h1,h2⟩:=BV.cond_some' hT
 subst h2
 rw [Bool.and_eq_true] at h1
 have a:=of_decide_eq_true h1.1
 have b:=of_decide_eq_true h1.2
 refine fun G=>⟨hp,fun R w cs hr hl=>callsIn_wide.2 ?_⟩
 have z6:=(hr.bY gt _ hg).yH hn hx (by rw [Lib.pow10Tab_length]; decide)
 have UW:=hr.wf
 cases hl with
 | cons a1 hl=>
 cases hl
 cases a1
 refine (h n w a b z6).mono ?_
 rintro e w' ⟨rfl,k,os,rfl⟩
 have hb:Below w.heap.size w (Sort.grow (w.drewN k) os):=⟨rfl,rfl,rfl,by simp [Sort.grow,World.drewN],fun i hi=>by
  show (w.heap++os)[i]?=_
  rw [Array.getElem?_append_left hi]⟩
 exact ⟨_,G,R,⟨rfl,rfl⟩,Rel.str _,Below.IP hb hr hE,Below.BU hb UW⟩
end
end Go.Am
namespace Go.Am
open Go
section
variable {κ ν:Type} [DecidableEq κ]
def getM (k:κ):List (κ × ν)→Option ν
 | []=>none
 | (k',v) :: m=>if k=k' then some v else getM k m
def nT (k:κ) (v:ν):List (κ × ν)→List (κ × ν)
 | []=>[(k,v)]
 | (k',v') :: m=>if k=k' then (k,v) :: m else (k',v') :: nT k v m
theorem wB (k k':κ) (v:ν):∀ m:List (κ × ν),getM k' (nT k v m)=if k'=k then some v else getM k' m
 | []=>rfl
 | (k1,v1) :: m=>by
  unfold nT
  by_cases h:k=k1
  ·subst h
   rw [if_pos rfl]
   by_cases h2:k'=k
   ·simp [getM,h2]
   ·simp [getM,h2]
  ·rw [if_neg h]
   by_cases h2:k'=k1
   ·subst h2
    have h3:¬ k'=k:=fun e=>h e.symm
    simp [getM,h3]
   ·simp only [getM,if_neg h2]
    exact wB k k' v m
theorem B8 {k:κ} {v:ν}:∀ {m:List (κ × ν)},getM k m=none→nT k v m=m++[(k,v)]
 | [],_=>rfl
 | (k1,v1) :: m,h=>by
  unfold getM at h
  split at h
  ·cases h
  ·rename_i cA
   unfold nT
   rw [if_neg cA,B8 h]
   rfl
theorem yL (k:κ) (l:List κ):getM k (l.map fun x=>(x,true))=if k∈l then some true else none:=by
 induction l with
 | nil=>rfl
 | cons a l ih=>
  simp only [List.map_cons,getM,ih,List.mem_cons]
  by_cases h:k=a
  ·simp [h]
  ·simp [h]
structure fK (ek:EK) (nk:κ→AV) (nv:ν→AV) (nM:κ × ν→AV):Prop where
 key:∀ a b,Cp ek (nk a) (nk b)=some (decide (a=b))
 pair:∀ x,nM x=.agg [nk x.1,nv x.2]
 exact:∀ x,(nM x).exact=true
variable {ek:EK} {nk:κ→AV} {nv:ν→AV} {nM:κ × ν→AV} (h:fK ek nk nv nM)
include h
theorem fK.Yo:∀ m:List (κ × ν),ab (List.map nM m)=m.map fun x=>(nk x.1,nv x.2)
 | []=>rfl
 | x :: m=>by
  rw [List.map_cons,h.pair,ab,fK.Yo m]
  rfl
theorem fK.keys (k:κ):∀ m:List (κ × ν),eB ek (nk k) (ab (List.map nM m))=true
 | []=>rfl
 | x :: m=>by
  have:=fK.keys k m
  rw [List.map_cons,h.pair,ab]
  show ((Cp ek (nk k) (nk x.1)).isSome&&eB ek (nk k) (ab (List.map nM m)))=true
  rw [this,h.key]
  rfl
theorem fK.get (k:κ):∀ m:List (κ × ν),eC ek (nk k) (ab (List.map nM m))=(getM k m).map nv
 | []=>rfl
 | x :: m=>by
  have ih:=fK.get k m
  rw [List.map_cons,h.pair,ab]
  show (bif tU ek (nk k) (nk x.1) then some (nv x.2) else eC ek (nk k) (ab (List.map nM m)))=(if k=x.1 then some x.2 else getM k m).map nv
  unfold tU
  rw [h.key,ih]
  by_cases e:k=x.1
  ·simp [e]
  ·simp [e]
theorem fK.getD (k:κ) (z:ν) (m:List (κ × ν)):cg ek (nk k) (nv z) (ab (List.map nM m))=nv ((getM k m).getD z):=by
 unfold cg
 rw [h.get]
 cases getM k m <;> rfl
theorem fK.put (k:κ) (v:ν):∀ m:List (κ × ν),dE ek (nk k) (nv v) (ab (List.map nM m))=ab (List.map nM (nT k v m))
 | []=>by
  show [(nk k,nv v)]=ab [nM (k,v)]
  rw [h.pair]
  rfl
 | x :: m=>by
  have ih:=fK.put k v m
  rw [List.map_cons,h.pair,ab]
  show (bif tU ek (nk k) (nk x.1) then (nk k,nv v) :: ab (List.map nM m) else (nk x.1,nv x.2) :: dE ek (nk k) (nv v) (ab (List.map nM m)))=ab (List.map nM (if k=x.1 then (k,v) :: m else (x.1,x.2) :: nT k v m))
  unfold tU
  rw [h.key,ih]
  by_cases e:k=x.1
  ·simp only [e,decide_true,cond_true,if_true,List.map_cons]
   rw [h.pair (x.1,v),ab]
   rfl
  ·simp only [e,decide_false,cond_false,if_false,List.map_cons]
   rw [h.pair (x.1,x.2),ab]
   rfl
theorem fK.cells:∀ m:List (κ × ν),ai (ab (List.map nM m))=List.map nM m
 | []=>rfl
 | x :: m=>by
  have ih:=fK.cells m
  rw [List.map_cons,h.pair,ab]
  show AV.agg [nk x.1,nv x.2] :: ai (ab (List.map nM m))=_
  rw [ih]
theorem fK.aV (m:List (κ × ν)):Go.Am.aV (ab (List.map nM m))=true:=by
 unfold Go.Am.aV
 rw [h.cells]
 induction m with
 | nil=>rfl
 | cons x m ih=>rw [List.map_cons,fh,ih,h.exact]; rfl
end
theorem Fc (a b:Int × Int):Cp (.st (.cons 0 1 false .int (.cons 1 1 false .int .nil))) (.agg [.int .i64 a.1,.int .i64 a.2]) (.agg [.int .i64 b.1,.int .i64 b.2])=some (decide (a=b)):=by
 obtain ⟨a1,a2⟩:=a
 obtain ⟨b1,b2⟩:=b
 have e:km (.st (.cons 0 1 false .int (.cons 1 1 false .int .nil))) (.agg [.int .i64 a1,.int .i64 a2]) (.agg [.int .i64 b1,.int .i64 b2])=some ((a1 == b1)&&((a2 == b2)&&true)):=rfl
 unfold Cp
 rw [e]
 by_cases h1:a1=b1 <;> by_cases h2:a2=b2
 ·subst h1; subst h2
  simp [EK.wide,ku,li,mU]
 all_goals simp [h1,h2]
end Go.Am
namespace Go.Am
open Go
theorem wC (ek:EK) (k v x:AV):∀ es:List (AV × AV),gJ (dE ek k v es) (fN ek k es) x=dE ek k x es
 | []=>rfl
 | (k',v') :: l=>by
  unfold dE fN
  cases h:tU ek k k' with
  | true=>rfl
  | false=>
   simp only [cond_false,gJ]
   rw [wC ek k v x l]
theorem JQ (ek:EK) (k v:AV):∀ es:List (AV × AV),fN ek k es < (dE ek k v es).length
 | []=>Nat.zero_lt_one
 | (k',v') :: l=>by
  unfold dE fN
  cases h:tU ek k k' with
  | true=>exact Nat.zero_lt_succ _
  | false=>
   simp only [cond_false,List.length_cons]
   have:=JQ ek k v l
   omega
theorem DV {V X:Type} (rd:(V→Option X)→V→Option X) (n:Nat) (v:V):lF rd (n+1) v=rd (lF rd n) v:=rfl
def GJ (L:List Nat):List Int:=L.map fun n:Nat=>(n:Int)
theorem JR {α:Type} (f:α→AV × AV) (m:List α) {i:Nat} (h:i < m.length):dD (m.map f) i=f m[i]:=by
 unfold dD
 rw [aX,List.getElem?_map,List.getElem?_eq_getElem h]
 rfl
end Go.Am
namespace Go.Am
open Go Go.RowKit Go.Proofs Go.Shelf Go.Sort
def D0:AV→Value
 | .bool b=>.bool b
 | .int k n=>.int k n
 | .str l=>.string ⟨⟨l⟩⟩
 | _=>.bool false
theorem Kh {R:ak} {w:World} {a:AV} {c:Value} (ha:fX a=true) (h:Rel R w a c):c=D0 a:=by
 cases a <;> first | (cases ha; done) | (cases h; rfl)
theorem Ki {R:ak} {w:World} {a:AV} (ha:fX a=true):Rel R w a (D0 a):=by
 cases a <;> first | (cases ha; done) | constructor
theorem yM {R:ak} {w:World}:∀ {l:List AV} {vs:List Value},(∀ a∈l,fX a=true)→aH R w l vs→vs=l.map D0
 | [],_,_,h=>by cases h; rfl
 | a :: l,_,hs,.cons h t=>by
  rw [Kh (hs a (by simp)) h,yM (fun b hb=>hs b (by simp [hb])) t]
  rfl
theorem sh {R:ak} {w:World}:∀ {l:List AV},(∀ a∈l,fX a=true)→aH R w l (l.map D0)
 | [],_=>.nil
 | a :: l,hs=>.cons (Ki (hs a (by simp))) (sh fun b hb=>hs b (by simp [hb]))
theorem wI {a:AV} (ha:fX a=true):(D0 a).oneCell'=true:=by
 cases a <;> first | (cases ha; done) | rfl
structure oF (P:Program) (bY:Nat→Option (List AV)) (c:FuncId) (p:aj) (k:Nat) (cf:p.T→p.T→Int):Prop where
 flat:p.flat=true
 size:∀ x,(p.enc x).cells.length=k
 D1:∀ x,∀ a∈(p.enc x).cells,fX a=true
 agg:∀ x,∃ cs,p.enc x=.agg cs
 calls:∀ (E:Env),E.P=P→E.bY=bY→E.gx=(fun _=>false)→∀ x y,aR E c [p.enc x,p.enc y] (fun r=>r=.int .i64 (cf x y))
 swo:SWO (ltOf cf)
 Yt:∀ x y,(ltOf cf) x y=false→(ltOf cf) y x=false→x=y
def fH (p:aj) (cf:p.T→p.T→Int) (es:List AV):List AV:=(((es.map p.bn).mergeSort fun x y=>!(ltOf cf) y x)).map p.enc
def wJ (p:aj) (cf:p.T→p.T→Int) (sz:Nat) (el:TypeId) (c:FuncId):List AV→List GO→Option (Bool × AV × List GO)
 | [.dA id f off sz1 len,.fn c' [] []],G=>match nth G id with
  | some (.cS es mS Yu)=>if Nat.beq c c'&&Nat.beq off 0&&Nat.beq sz1 sz&&Nat.beq mS sz&&Nat.beq Yu el then
    some (decide (f=es.length)&&decide (len=es.length)&&decide (es.length≤140737488355328)&&allFit p.fits es,.bf [],aA G id (.cS (fH p cf es) sz el)) else none
  | _=>none
 | _,_=>none
theorem xK {W W':World} (h:Below W.heap.size W W') (hd:W.drawn≤W'.drawn):∃ q os,W'=Sort.grow (W.drewN q) os:=by
 refine ⟨W'.drawn - W.drawn,W'.heap.extract W.heap.size W'.heap.size,?_⟩
 have hh:W'.heap=W.heap++W'.heap.extract W.heap.size W'.heap.size:=by
  apply Array.ext_getElem?
  intro i
  by_cases hi:i < W.heap.size
  ·rw [Array.getElem?_append_left hi]
   exact h.block i hi
  ·rw [Array.getElem?_append_right (by omega),Array.getElem?_extract]
   have hs:=h.size
   by_cases hj:i < W'.heap.size
   ·rw [if_pos (by omega)]
    congr 1
    omega
   ·rw [if_neg (by omega),Array.getElem?_eq_none (by omega)]
 obtain ⟨hp,tp,dr,os,out⟩:=W'
 have h1:=h.os
 have h2:=h.tape
 have h3:=h.output
 simp only at hh h1 h2 h3 hd
 unfold Sort.grow World.drewN
 simp only
 rw [← hh,h1,h2,h3]
 congr 1
 omega
def fD (p:aj) (x:p.T):List Value:=((p.enc x).cells).map D0
theorem nU {α:Type} [Inhabited α] {enc:α→List Value} {k:Nat} (hk:∀ x,(enc x).length=k):∀ (l:List α) (t:Nat),t < l.length * k→(l.flatMap enc)[t]?=some ((enc l[t / k]!)[t % k]!)
 | [],t,h=>by simp at h
 | x :: l,t,h=>by
  have uK:0 < k:=by
   rcases Nat.eq_zero_or_pos k with h0 | h0
   ·rw [h0] at h; omega
   ·exact h0
  rw [List.flatMap_cons]
  by_cases ht:t < k
  ·rw [List.getElem?_append_left (by rw [hk]; exact ht),Nat.div_eq_of_lt ht,Nat.mod_eq_of_lt ht]
   have hl:t < (enc x).length:=by rw [hk]; exact ht
   simp [hl]
  ·have ht:k≤t:=Nat.le_of_not_lt ht
   rw [List.getElem?_append_right (by rw [hk]; exact ht),hk]
   have h':t - k < l.length * k:=by
    rw [List.length_cons,Nat.add_mul,Nat.one_mul] at h
    omega
   rw [nU hk l (t - k) h']
   have e1:t / k=(t - k) / k+1:=by
    rw [Nat.div_eq_sub_div uK ht]
   have e2:t % k=(t - k) % k:=Nat.mod_eq_sub_mod ht
   rw [e1,e2]
   simp
theorem yN {α:Type} [Inhabited α] {enc:α→List Value} {k:Nat} (hk:∀ x,(enc x).length=k) (d:Array α):(flatK enc k d).toList=d.toList.flatMap enc:=by
 have hl:(d.toList.flatMap enc).length=d.size * k:=by
  obtain ⟨l⟩:=d
  show (l.flatMap enc).length=l.length * k
  induction l with
  | nil=>simp
  | cons x l ih=>rw [List.flatMap_cons,List.length_append,hk,ih,List.length_cons,Nat.add_mul,Nat.one_mul,Nat.add_comm]
 apply List.ext_getElem?
 intro t
 by_cases ht:t < d.size * k
 ·have h1:=nU hk d.toList t (by simpa using ht)
  rw [h1]
  have hs:t < (flatK enc k d).size:=by rw [size_flatK]; exact ht
  have h2:=get_flatK enc k d t ht
  rw [getElem!_pos (flatK enc k d) t hs] at h2
  have e:∀ i:Nat,d[i]! = d.toList[i]!:=fun i=>by rw [getElem!_def,getElem!_def,Array.getElem?_toList]
  rw [Array.getElem?_toList,Array.getElem?_eq_getElem hs,h2,e]
 ·rw [List.getElem?_eq_none (by rw [Array.length_toList,size_flatK]; omega),List.getElem?_eq_none (by rw [hl]; omega)]
theorem pU (p:aj):∀ (xs:List p.T),(ar (xs.map p.enc)).map D0=xs.flatMap (fD p)
 | []=>rfl
 | x :: xs=>by
  rw [List.map_cons,ar,List.map_append,pU p xs,List.flatMap_cons]
  rfl
theorem qY {w:World} {b:Nat} {cur:Array Value} {el:TypeId} (h:w.heap[b]?=some (.cells cur el (0,0))) (f:Array Value→Array Value):mapBlock w b f=w.setRow b (f cur):=by
 unfold mapBlock World.setRow
 congr 1
 apply Array.ext_getElem?
 intro i
 rw [Array.getElem?_modify,Array.getElem?_modify]
 by_cases e:b=i
 ·subst e
  rw [if_pos rfl,if_pos rfl,h]
  rfl
 ·rw [if_neg e,if_neg e]
section
variable {E:Env} {ρ:Ren} {c:FuncId} {p:aj} {k:Nat} {cf:p.T→p.T→Int} [Inhabited p.T]
theorem wK (hC:oF E.P E.bY c p k cf) (x:p.T):(fD p x).length=k:=by
 unfold fD
 rw [List.length_map,hC.size]
theorem Kj (Mb:E.gx=fun _=>false) (hC:oF E.P E.bY c p k cf) {R:ak} {w:World} {G:List GO} (hg:de E R w G) {b:Nat} {cur:Array Value} {el:TypeId} (hb:w.heap[b]?=some (.cells cur el (0,0))) (hI:∀ o,¬ R.I b o) (size:Nat) :
  CmpLays E.P c #[] (fD p) k cf b 0 size w:=by
 intro m os dk _ x y
 have e1:putRowK (fD p) k (Sort.ahead w m) b 0 dk=(Sort.ahead w m).setRow b (putCells id 0 (flatK (fD p) k dk) cur):=qY (w:=Sort.ahead w m) hb _
 have hW:sortWorldK (fD p) k w b 0 m dk os=Sort.grow ((Sort.ahead w m).setRow b (putCells id 0 (flatK (fD p) k dk) cur)) os:=by
  unfold sortWorldK
  rw [e1]
 rw [hW]
 generalize putCells id 0 (flatK (fD p) k dk) cur=cur2
 have eA:Ext R w R (Sort.ahead w m):=⟨fun _ _ h=>h,fun _ _ _=>rfl,fun _ ro h=>⟨ro,h,ck.refl ro⟩,.old fun _ _=>rfl⟩
 have eS:Ext R (Sort.ahead w m) R ((Sort.ahead w m).setRow b cur2):=hZ hI cur2
 have Kk:Below ((Sort.ahead w m).setRow b cur2).heap.size ((Sort.ahead w m).setRow b cur2) (Sort.grow ((Sort.ahead w m).setRow b cur2) os):=by
  refine ⟨rfl,rfl,rfl,?_,fun i hi=>?_⟩
  ·show _≤(((Sort.ahead w m).setRow b cur2).heap++os).size
   rw [Array.size_append]; exact Nat.le_add_right _ _
  ·show (((Sort.ahead w m).setRow b cur2).heap++os)[i]?=_
   rw [Array.getElem?_append_left hi]
 have dV:((Sort.ahead w m).setRow b cur2).heap.size=w.heap.size:=by unfold World.setRow; simp [Sort.ahead]
 have eG:Ext R ((Sort.ahead w m).setRow b cur2) R (Sort.grow ((Sort.ahead w m).setRow b cur2) os):=Below.RY Kk fun b' o hi=>by rw [dV]; exact hg.wf b' o hi
 have eW:=(eA.trans eS).trans eG
 generalize hWd:Sort.grow ((Sort.ahead w m).setRow b cur2) os=W at *
 have hWs:w.heap.size≤W.heap.size:=by rw [← dV]; exact Kk.size
 let E':Env:={ E with lo:=W.drawn }
 let R0:ak:=⟨R.I,[]⟩
 have m0:Mv R R0 0:=⟨fun _ _ h=>h,fun _ _ h=>absurd h (Nat.not_lt_zero _)⟩
 have Lf:de E' R0 W []:=⟨rfl,fun id go ro h1 _=>by simp [nth] at h1,fun i j ri rj b h1=>by simp [R0,nth] at h1,fun b o h=>Nat.lt_of_lt_of_le (hg.wf b o h) hWs,
  fun g cs py=>((hg.bY g cs py).mono eW).move m0 (cb _ (E.mT g cs py)),Nat.le_refl _⟩
 have dS:∀ z:p.T,Rel R0 W (p.enc z) (.agg (fD p z).toArray):=fun z=>by
  obtain ⟨cs,ol⟩:=hC.agg z
  have hs:=hC.D1 z
  unfold fD
  rw [ol] at hs ⊢
  refine Rel.agg (sh hs) fun v hv=>?_
  obtain ⟨a,ha,rfl⟩:=List.mem_map.1 hv
  exact wI (hs a ha)
 have hc:=(hC.calls E' rfl rfl Mb x y []).2 R0 W [.agg (fD p x).toArray,.agg (fD p y).toArray] Lf (.cons (dS x) (.one (dS y)))
 refine (callsIn_wide.1 hc).mono fun e w' he=>?_
 cases e with
 | panicked c=>exact he.elim
 | outgrown=>exact he.elim
 | returned cv=>
  obtain ⟨r,G',R1,⟨rfl,rfl⟩,hr,L0,st⟩:=he
  have FR:cv=.int .i64 (cf x y):=by cases hr; rfl
  subst FR
  have iE:∀ b,¬ Own R0 (fun _=>0) eD b:=fun b ho=>by
   obtain ⟨id,ro,h1,_⟩:=dZ ho
   simp [R0,nth] at h1
  refine ⟨rfl,xK ⟨st.os,st.tape,st.output,st.size,fun i hi=>st.bp i hi (iE i)⟩ L0.lo⟩
theorem Cd {p:aj} (hp:p.flat=true):∀ es:List AV,allFit p.fits es=true→es=(es.map p.bn).map p.enc
 | [],_=>rfl
 | a :: es,h=>by
  simp only [allFit,Bool.and_eq_true] at h
  rw [List.map_cons,List.map_cons,← Cd hp es h.2,aj.iL hp h.1]
theorem wL (L:SlLaysF0.n6 E.P ρ) (hp:Plain E.P (ρ.f 6)) (hc:Plain E.P c) (aE:∀ w,(isAgg (ρ.t 24)).run E.P w=.ok true w) (zE:∀ w,(Go.sizeOf (ρ.t 24)).run E.P w=.ok k w) (hC:oF E.P E.bY c p k cf) (hE:E.lo=0) (uK:1≤k) {el:TypeId} (Mb:E.gx=fun _=>false:=by rfl) :
  ∀ (args:List AV) (G:List GO) (r:AV) (G':List GO),wJ p cf k el c args G=some (true,r,G')→cp E (ρ.f 6) args G (fun r' Cv=>r'=r∧Cv=G'):=by
 intro args G r G' h
 unfold wJ at h
 split at h
 ·rename_i G1 oid f off sz1 len c'
  split at h
  ·rename_i es mS Yu hid
   split at h
   ·rename_i cD
    simp only [Bool.and_eq_true] at cD
    obtain ⟨⟨⟨⟨q1,q2⟩,q3⟩,q4⟩,q5⟩:=cD
    have q1:=Nat.eq_of_beq_eq_true q1
    have q2:=Nat.eq_of_beq_eq_true q2
    have q3:=Nat.eq_of_beq_eq_true q3
    have q4:=Nat.eq_of_beq_eq_true q4
    have q5:=Nat.eq_of_beq_eq_true q5
    subst q1; subst q2; subst q3; subst q4; subst q5
    injection h with h
    injection h with h1 h
    injection h with h2 h3
    subst h2; subst h3
    simp only [Bool.and_eq_true,decide_eq_true_eq] at h1
    obtain ⟨⟨⟨hf,Fk⟩,hbig⟩,tH⟩:=h1
    refine ⟨hp,fun R w cs hg hl=>callsIn_wide.2 ?_⟩
    cases hl with
    | @cons _ cv _ _ r1 hl=>
    cases hl with
    | @cons _ fv _ _ r2 hl=>
    cases hl
    cases r2 with
    | fn x1 x2=>
    cases x1; cases x2
    by_cases he:es=[]
    ·subst he
     obtain ⟨pa,cap,rfl⟩:∃ pa cap,cv=.slice pa 0 cap:=by
      have Fk:len=0:=Fk
      subst Fk
      cases r1 with
      | iB _ _=>exact ⟨_,_,rfl⟩
      | dA _ _ _=>exact ⟨_,_,rfl⟩
     refine (AnyF.slices_SortFunc_none (P:=E.P) (ρ:=ρ) L pa cap _ w).mono fun e w' ⟨e1,e2⟩=>?_
     subst e1; subst e2
     have Tl:fH p cf []=[]:=by simp [fH]
     have hG:aA G oid (.cS (fH p cf []) mS Yu)=G:=by rw [Tl]; exact jH hid
     rw [hG]
     exact ⟨.bf [],G,R,⟨rfl,rfl⟩,Rel.bf .nil,hg,Step.refl _ _ _ _⟩
    ·have oN:0 < es.length:=List.length_pos_iff.2 he
     cases r1 with
     | iB _ _=>omega
     | @dA _ _ _ _ _ cap b o' ro bP dY gC=>
     subst hf; subst Fk
     obtain ⟨b',c',cur,vs,rfl,g1,g2,g3,g4,g5,g6,g7,g8,g9⟩:=lZ hg hid bP (fun k=>by subst k; exact dY)
     obtain ⟨rfl,Cr,uT⟩:=dY.2 rfl
     have om:o'=0:=by
      rcases uT with uT | uT
      ·rw [uT,Nat.zero_mul]
      ·omega
     subst om
     -- the elements by their leaves
     have zq:=Cd hC.flat es tH
     generalize UE:es.map p.bn=xs at zq
     have hlen:xs.length=es.length:=by rw [← UE,List.length_map]
     have XV:∀ (ys:List p.T),∀ a∈ar (ys.map p.enc),fX a=true:=fun ys=>by
      induction ys with
      | nil=>intro a ha; simp [ar] at ha
      | cons y ys ih=>
       intro a ha
       rw [List.map_cons,ar] at ha
       rcases List.mem_append.1 ha with ha | ha
       ·exact hC.D1 y a ha
       ·exact ih a ha
     have V6:vs=xs.flatMap (fD p):=by
      rw [zq] at g7
      rw [yM (XV xs) g7,pU]
     have hd:(xs.toArray).size=es.length:=by simpa using hlen
     have Xb:(flatK (fD p) mS xs.toArray).toList=vs:=by rw [yN (wK hC),V6]
     have LG:(flatK (fD p) mS xs.toArray).size=es.length * mS:=by rw [size_flatK,hd]
     have iG:cur.toList.length=c' * mS:=by rw [show cur.toList.length=cur.size from Array.length_toList,g5]
     have hle:es.length * mS≤c' * mS:=Nat.mul_le_mul_right _ g3
     have hH:HoldsK (fD p) mS w b 0 xs.toArray:=by
      intro j hj
      rw [LG] at hj
      refine ⟨?_,?_⟩
      ·have hj2:j < (flatK (fD p) mS xs.toArray).size:=by rw [LG]; exact hj
       rw [getElem!_pos (flatK (fD p) mS xs.toArray) j hj2,Nat.zero_add,cell_of_row w b j cur Yu (0,0) g2]
       have h1:cur[j]?=vs[j]?:=by
        rw [← g9,List.getElem?_take,if_pos hj,← Array.getElem?_toList]
       rw [h1,← Xb,Array.getElem?_toList,Array.getElem?_eq_getElem hj2]
       rfl
      ·unfold World.frozen?
       rw [g2]
       simp
     have hCL:=Kj Mb hC hg g2 g6 xs.toArray.size
     have key:=AnyQ.slices_SortFunc_total L mS aE zE (fD p) (wK hC) (fun x v hv=>by
      obtain ⟨a,ha,rfl⟩:=List.mem_map.1 hv
      exact wI (hC.D1 x a ha)) cf hC.swo c #[] b 0 cap xs.toArray w (mh hc) hCL hH (bh g2) (by rw [hd]; omega) hC.Yt
     rw [hd] at key
     refine key.mono fun e w' ⟨e1,n,os,e2⟩=>?_
     subst e1
     -- the world behind
     have e3:putRowK (fD p) mS (Sort.ahead w n) b 0 (xs.mergeSort fun x y=>!(ltOf cf) y x).toArray=(Sort.ahead w n).setRow b (putCells (fun v=>v) 0 (flatK (fD p) mS (xs.mergeSort fun x y=>!(ltOf cf) y x).toArray) cur):=qY (w:=Sort.ahead w n) g2 _
     have e4:w'=Sort.grow ((Sort.ahead w n).setRow b (putCells (fun v=>v) 0 (flatK (fD p) mS (xs.mergeSort fun x y=>!(ltOf cf) y x).toArray) cur)) os:=by
      rw [e2]
      unfold sortWorldK
      rw [e3]
     clear e2 e3 key
     generalize UG:(xs.mergeSort fun x y=>!(ltOf cf) y x)=ys at e4
     have Ya:ys.length=es.length:=by rw [← UG,List.length_mergeSort,hlen]
     have hso:fH p cf es=ys.map p.enc:=by unfold fH; rw [UE,UG]
     rw [hso]
     have hfy:(flatK (fD p) mS ys.toArray).toList=ys.flatMap (fD p):=by rw [yN (wK hC)]
     have Xc:(flatK (fD p) mS ys.toArray).size=es.length * mS:=by rw [size_flatK]; simp [Ya]
     have Tm:(putCells (fun v=>v) 0 (flatK (fD p) mS ys.toArray) cur).size=cur.size:=by simp [putCells]
     have F0:(putCells (fun v=>v) 0 (flatK (fD p) mS ys.toArray) cur).toList.take (es.length * mS)=ys.flatMap (fD p):=by
      rw [← hfy]
      apply List.ext_getElem?
      intro t
      rw [List.getElem?_take]
      by_cases ht:t < es.length * mS
      ·have h1:t < (flatK (fD p) mS ys.toArray).size:=by rw [Xc]; exact ht
       have h2:t < cur.size:=by rw [g5]; omega
       rw [if_pos ht,Array.getElem?_toList,Array.getElem?_toList,Array.getElem?_eq_getElem h1,Array.getElem?_eq_getElem (by rw [Tm]; exact h2)]
       simp only [putCells,Array.getElem_mapIdx,Nat.zero_le,Nat.zero_add,h1,and_self,if_true,Nat.sub_zero]
       rw [getElem!_pos (flatK (fD p) mS ys.toArray) t h1]
      ·rw [if_neg ht,List.getElem?_eq_none (by rw [Array.length_toList,Xc]; omega)]
     generalize putCells (fun v=>v) 0 (flatK (fD p) mS ys.toArray) cur=cur2 at e4 Tm F0
     have H5:∀ v∈ys.flatMap (fD p),v.oneCell'=true:=fun v hv=>by
      obtain ⟨y,_,hy⟩:=List.mem_flatMap.1 hv
      obtain ⟨a,ha,rfl⟩:=List.mem_map.1 hy
      exact wI (hC.D1 y a ha)
     have oQ:dp mS (ys.map p.enc):=fun a ha=>by
      obtain ⟨y,_,rfl⟩:=List.mem_map.1 ha
      refine ⟨hC.size y,?_⟩
      obtain ⟨cs,ol⟩:=hC.agg y
      rw [ol]; rfl
     have dS:aH R w (ar (ys.map p.enc)) (ys.flatMap (fD p)):=by
      rw [← pU]
      exact sh (XV ys)
     have cN:bg E R w (fun _=>0) ⟨[],[],G,[],none,0⟩ (⟨#[],[]⟩:Act):=
      ⟨hg,⟨fun k cs h=>by simp [dm] at h,fun k k' cs cs' h=>by simp [dm] at h⟩,fun i hi=>absurd rfl hi,rfl,trivial⟩
     obtain ⟨k1,k2⟩:=cN.CW (es':=ys.map p.enc) hid bP g2 (by rw [List.length_map,Ya]) oQ Tm dS H5 F0
     have Kk:Below (w.setRow b cur2).heap.size (w.setRow b cur2) w':=by
      rw [e4]
      refine ⟨rfl,rfl,rfl,?_,fun i hi=>?_⟩
      ·show _≤((w.setRow b cur2).heap++os).size
       rw [Array.size_append]; exact Nat.le_add_right _ _
      ·show ((w.setRow b cur2).heap++os)[i]?=_
       rw [Array.getElem?_append_left hi]
     exact ⟨.bf [],_,R,⟨rfl,rfl⟩,Rel.bf .nil,Below.IP Kk k1.g hE,k2.trans (Below.BU Kk k1.g.wf)⟩
   ·cases h
  ·cases h
 ·cases h
end
end Go.Am
namespace Go.Am
open Go Go.Sort
section
variable {α:Type} [DecidableEq α] {lt:α→α→Bool}
def Fl (lt:α→α→Bool) (l:List α):Prop:=l.Pairwise fun x y=>lt x y=true
omit [DecidableEq α] in
theorem Al (hw:SWO lt):∀ {a b:List α},Fl lt a→Fl lt b→(∀ x,x∈a↔x∈b)→a=b
 | [],[],_,_,_=>rfl
 | [],y :: b,_,_,h=>by have:=(h y).2 (by simp); simp at this
 | x :: a,[],_,_,h=>by have:=(h x).1 (by simp); simp at this
 | x :: a,y :: b,ha,hb,h=>by
  have ha':=List.pairwise_cons.1 ha
  have jI:=List.pairwise_cons.1 hb
  have xL:x=y:=by
   have h1:=(h x).1 (by simp)
   have h2:=(h y).2 (by simp)
   rcases List.mem_cons.1 h1 with h1 | h1
   ·exact h1
   ·rcases List.mem_cons.1 h2 with h2 | h2
    ·exact h2.symm
    ·have l1:=jI.1 x h1
     have l2:=ha'.1 y h2
     have:=hw.trans _ _ _ l1 l2
     rw [hw.irrefl] at this
     cases this
  subst xL
  congr 1
  refine Al hw ha'.2 jI.2 fun z=>?_
  constructor
  ·intro hz
   rcases List.mem_cons.1 ((h z).1 (by simp [hz])) with rfl | h2
   ·have:=ha'.1 z hz
    rw [hw.irrefl] at this
    cases this
   ·exact h2
  ·intro hz
   rcases List.mem_cons.1 ((h z).2 (by simp [hz])) with rfl | h2
   ·have:=jI.1 z hz
    rw [hw.irrefl] at this
    cases this
   ·exact h2
def wM (d:α) (l:List α):Nat→List α
 | 0=>[]
 | m+1=>if 0 < m∧l.getD m d=l.getD (m - 1) d then wM d l m else wM d l m++[l.getD m d]
theorem qZ (d:α) (l:List α):∀ m,m≤l.length→(∀ k,0 < k→k < m→l.getD k d≠l.getD (k - 1) d)→wM d l m=l.take m
 | 0,_,_=>by simp [wM]
 | m+1,hm,h=>by
  have e:l.getD m d=l[m]:=by simp [show m < l.length by omega]
  unfold wM
  rw [if_neg (fun c=>h m c.1 (by omega) c.2),qZ d l m (by omega) fun k h1 h2=>h k h1 (by omega),e,List.take_succ,List.getElem?_eq_getElem (by omega)]
  rfl
theorem An (d:α) (l:List α):∀ m,m≤l.length→∀ x,x∈wM d l m↔x∈l.take m
 | 0,_,x=>by simp [wM]
 | m+1,hm,x=>by
  have e:l.getD m d=l[m]:=by simp [show m < l.length by omega]
  have ih:=An d l m (by omega)
  have et:l.take (m+1)=l.take m++[l[m]]:=by rw [List.take_succ,List.getElem?_eq_getElem (by omega)]; rfl
  unfold wM
  rw [et]
  split
  ·rename_i hc
   rw [ih,List.mem_append,List.mem_singleton]
   constructor
   ·exact .inl
   ·rintro (h | rfl)
    ·exact h
    ·have e2:l.getD (m - 1) d=l[m - 1]:=by simp [show m - 1 < l.length by omega]
     rw [e,e2] at hc
     rw [hc.2,List.mem_take_iff_getElem]
     exact ⟨m - 1,by omega,rfl⟩
  ·rw [List.mem_append,List.mem_append,ih,e]
theorem Fm (hw:SWO lt) (ht:∀ x y,lt x y=false→lt y x=false→x=y) (d:α) (l:List α) (hs:l.Pairwise fun x y=>lt y x=false):∀ m,m≤l.length→Fl lt (wM d l m)
 | 0,_=>List.Pairwise.nil
 | m+1,hm=>by
  have ih:=Fm hw ht d l hs m (by omega)
  have e:l.getD m d=l[m]:=by simp [show m < l.length by omega]
  unfold wM
  split
  ·exact ih
  ·rename_i hc
   refine List.pairwise_append.2 ⟨ih,List.pairwise_singleton _ _,fun x hx y hy=>?_⟩
   rw [List.mem_singleton] at hy
   subst hy
   have qj:=(An d l m (by omega) x).1 hx
   obtain ⟨k,hk,rfl⟩:=List.mem_take_iff_getElem.1 qj
   have Fo:k < m:=by omega
   rw [e] at hc ⊢
   have h1:lt l[m] l[k]=false:=List.pairwise_iff_getElem.1 hs k m (by omega) (by omega) Fo
   cases hl:lt l[k] l[m] with
   | true=>rfl
   | false=>
    exfalso
    have jf:=ht _ _ hl h1
    -- the one before is between
    have h0:0 < m:=by omega
    have e2:l.getD (m - 1) d=l[m - 1]:=by simp [show m - 1 < l.length by omega]
    rw [e2] at hc
    apply hc
    refine ⟨h0,?_⟩
    have h2:lt l[m] l[m - 1]=false:=List.pairwise_iff_getElem.1 hs (m - 1) m (by omega) (by omega) (by omega)
    refine ht _ _ h2 ?_
    by_cases hkm:k=m - 1
    ·subst hkm; exact hl
    ·have h3:lt l[m - 1] l[k]=false:=List.pairwise_iff_getElem.1 hs k (m - 1) (by omega) (by omega) (by omega)
     rw [← jf]
     exact h3
def mR (lt:α→α→Bool) (d:α) (k:α) (l:List α):List α:=
 let at_:=(l.takeWhile fun x=>lt x k).length
 if at_=l.length∨l.getD at_ d≠k then l.take at_++[k]++l.drop at_ else l
omit [DecidableEq α] in
theorem gj (p:α→Bool):∀ l:List α,(∀ x∈l.take (l.takeWhile p).length,p x=true)∧∀ h:(l.takeWhile p).length < l.length,p l[(l.takeWhile p).length]=false
 | []=>by simp
 | a :: l=>by
  obtain ⟨h1,h2⟩:=gj p l
  by_cases ha:p a=true
  ·simp only [List.takeWhile_cons,ha,if_true,List.length_cons,List.take_succ_cons,List.mem_cons,forall_eq_or_imp,true_and,List.getElem_cons_succ]
   exact ⟨h1,fun h=>h2 (by omega)⟩
  ·simp only [List.takeWhile_cons,if_neg ha,List.length_nil,List.take_zero]
   refine ⟨by simp,fun _=>?_⟩
   rw [List.getElem_cons_zero]
   exact Bool.eq_false_iff.2 ha
theorem Kl (d:α) (k:α) (l:List α) (x:α):x∈mR lt d k l↔x=k∨x∈l:=by
 unfold mR
 simp only
 have hle:(l.takeWhile fun x=>lt x k).length≤l.length:=(List.takeWhile_sublist _).length_le
 generalize (l.takeWhile fun x=>lt x k).length=a at *
 have e:x∈l↔x∈l.take a∨x∈l.drop a:=by rw [← List.mem_append,List.take_append_drop]
 split
 ·simp only [List.mem_append,List.mem_singleton]
  rw [e]
  constructor
  ·rintro ((h | h) | h)
   ·exact .inr (.inl h)
   ·exact .inl h
   ·exact .inr (.inr h)
  ·rintro (h | h | h)
   ·exact .inl (.inr h)
   ·exact .inl (.inl h)
   ·exact .inr h
 ·rename_i h
  rw [not_or,Decidable.not_not] at h
  constructor
  ·exact .inr
  ·rintro (rfl | h2)
   ·have hl:a < l.length:=by omega
    have e2:l.getD a d=l[a]:=by simp [hl]
    rw [e2] at h
    rw [← h.2]
    exact List.getElem_mem hl
   ·exact h2
theorem Km (hw:SWO lt) (ht:∀ x y,lt x y=false→lt y x=false→x=y) (d:α) (k:α) (l:List α) (hl:Fl lt l):Fl lt (mR lt d k l):=by
 unfold mR
 simp only
 obtain ⟨h1,h2⟩:=gj (fun x=>lt x k) l
 have hle:(l.takeWhile fun x=>lt x k).length≤l.length:=(List.takeWhile_sublist _).length_le
 generalize (l.takeWhile fun x=>lt x k).length=a at *
 have hp:=List.pairwise_iff_getElem.1 hl
 split
 ·rename_i hc
  have FW:∀ y∈l.drop a,lt k y=true:=by
   intro y hy
   obtain ⟨j,hj,rfl⟩:=List.getElem_of_mem hy
   rw [List.length_drop] at hj
   rw [List.getElem_drop]
   have tM:a < l.length:=by omega
   have e2:l.getD a d=l[a]:=by simp [tM]
   have hka:lt k l[a]=true:=by
    cases hh:lt k l[a] with
    | true=>rfl
    | false=>
     have:=ht _ _ (h2 tM) hh
     rcases hc with hc | hc
     ·omega
     ·rw [e2] at hc; exact absurd this hc
   by_cases h0:j=0
   ·subst h0; simpa using hka
   ·exact hw.trans _ _ _ hka (hp a (a+j) tM (by omega) (by omega))
  unfold Fl
  rw [List.append_assoc,List.pairwise_append]
  refine ⟨hl.take,?_,fun x hx y hy=>?_⟩
  ·rw [List.singleton_append,List.pairwise_cons]
   exact ⟨FW,hl.drop⟩
  ·rw [List.singleton_append] at hy
   have hxk:=h1 x hx
   rcases List.mem_cons.1 hy with rfl | hy
   ·exact hxk
   ·exact hw.trans _ _ _ hxk (FW y hy)
 ·exact hl
def Ao (lt:α→α→Bool) (d:α) (l:List α):List α:=l.foldl (fun s k=>mR lt d k s) []
theorem lH (hw:SWO lt) (ht:∀ x y,lt x y=false→lt y x=false→x=y) (d:α) (l:List α):Fl lt (Ao lt d l)∧∀ x,x∈Ao lt d l↔x∈l:=by
 have gen:∀ (l s:List α),Fl lt s→Fl lt (l.foldl (fun s k=>mR lt d k s) s)∧∀ x,x∈l.foldl (fun s k=>mR lt d k s) s↔x∈s∨x∈l:=by
  intro l
  induction l with
  | nil=>intro s hs; exact ⟨hs,fun x=>by simp⟩
  | cons k l ih=>
   intro s hs
   rw [List.foldl_cons]
   obtain ⟨h1,h2⟩:=ih _ (Km hw ht d k s hs)
   refine ⟨h1,fun x=>?_⟩
   rw [h2,Kl,List.mem_cons]
   constructor
   ·rintro ((h | h) | h)
    ·exact .inr (.inl h)
    ·exact .inl h
    ·exact .inr (.inr h)
   ·rintro (h | h | h)
    ·exact .inl (.inr h)
    ·exact .inl (.inl h)
    ·exact .inr h
 obtain ⟨h1,h2⟩:=gen l [] List.Pairwise.nil
 exact ⟨h1,fun x=>by rw [show Ao lt d l=l.foldl (fun s k=>mR lt d k s) [] from rfl,h2]; simp⟩
theorem wN (d:α) (k:α) (l:List α):(mR lt d k l).length≤l.length+1:=by
 unfold mR
 simp only
 split
 ·simp; omega
 ·omega
omit [DecidableEq α] in
theorem Ce (hw:SWO lt) (l:List α):(l.mergeSort fun x y=>!lt y x).Pairwise (fun x y=>lt y x=false)∧∀ x,x∈(l.mergeSort fun x y=>!lt y x)↔x∈l:=by
 refine ⟨?_,fun x=>(List.mergeSort_perm l _).mem_iff⟩
 have h:=List.pairwise_mergeSort (le:=fun x y=>!lt y x) (fun a b c h1 h2=>by
  simp only [Bool.not_eq_true'] at h1 h2 ⊢
  exact hw.ntrans _ _ _ h2 h1) (fun a b=>by
  simp only [Bool.or_eq_true,Bool.not_eq_true']
  cases h1:lt b a with
  | false=>exact .inl rfl
  | true=>
   right
   cases h2:lt a b with
   | false=>rfl
   | true=>
    have:=hw.trans _ _ _ h1 h2
    rw [hw.irrefl] at this
    cases this) l
 exact h.imp fun hab=>by simpa using hab
theorem Tn (hw:SWO lt) (ht:∀ x y,lt x y=false→lt y x=false→x=y) (d:α) (l:List α):wM d (l.mergeSort fun x y=>!lt y x) l.length=Ao lt d l:=by
 obtain ⟨s1,s2⟩:=Ce hw l
 have hlen:(l.mergeSort fun x y=>!lt y x).length=l.length:=List.length_mergeSort _
 obtain ⟨i1,i2⟩:=lH hw ht d l
 refine Al hw (Fm hw ht d _ s1 _ (Nat.le_of_eq hlen.symm)) i1 fun x=>?_
 rw [An d _ _ (Nat.le_of_eq hlen.symm),List.take_of_length_le (Nat.le_of_eq hlen),s2,i2]
end
theorem yO {V X S:Type} {rd:V→Option (V ⊕ X)} (m:Nat) (E:S→Nat→V) (P:S→Nat→Prop) (Q:X→Prop)
  (h:∀ s k,k < m→P s k→∃ s',rd (E s k)=some (.inl (E s' (k+1)))∧P s' (k+1))
  (h0:∀ s,P s m→∃ x,rd (E s m)=some (.inr x)∧Q x) :
  ∀ n s k,k≤m→m < n+k→P s k→∃ x,az rd n (E s k)=some x∧Q x
 | 0,s,k,hk,hn,_=>by omega
 | n+1,s,k,hk,hn,hP=>by
  rw [bD]
  by_cases bM:k < m
  ·obtain ⟨s',e,hP'⟩:=h s k bM hP
   rw [e]
   exact yO m E P Q h h0 n s' (k+1) bM (by omega) hP'
  ·obtain rfl:k=m:=by omega
   obtain ⟨x,e,hQ⟩:=h0 s hP
   rw [e]
   exact ⟨x,rfl,hQ⟩
theorem yP {V X S:Type} {rd:V→Option (V ⊕ X)} (m:Nat) (E:S→Nat→V) (P:S→Nat→Prop) (Q:X→Prop)
  (h:∀ s k,k < m→P s k→(∃ s',rd (E s k)=some (.inl (E s' (k+1)))∧P s' (k+1))∨∃ x,rd (E s k)=some (.inr x)∧Q x)
  (h0:∀ s,P s m→∃ x,rd (E s m)=some (.inr x)∧Q x) :
  ∀ n s k,k≤m→m < n+k→P s k→∃ x,az rd n (E s k)=some x∧Q x
 | 0,s,k,hk,hn,_=>by omega
 | n+1,s,k,hk,hn,hP=>by
  rw [bD]
  by_cases bM:k < m
  ·rcases h s k bM hP with ⟨s',e,hP'⟩ | ⟨x,e,hQ⟩
   ·rw [e]
    exact yP m E P Q h h0 n s' (k+1) bM (by omega) hP'
   ·rw [e]
    exact ⟨x,rfl,hQ⟩
  ·obtain rfl:k=m:=by omega
   obtain ⟨x,e,hQ⟩:=h0 s hP
   rw [e]
   exact ⟨x,rfl,hQ⟩
theorem Fp {α:Type} (l:List α) (p:α→Bool) (d:α):(match (List.range l.length).find? fun j=>!p (l.getD j d) with | some j=>(j:Int) | none=>(l.length:Int))=((l.takeWhile p).length:Int):=by
 obtain ⟨h1,h2⟩:=gj p l
 have hle:(l.takeWhile p).length≤l.length:=(List.takeWhile_sublist _).length_le
 generalize (l.takeWhile p).length=a at *
 have aaP:∀ j,j < a→p (l.getD j d)=true:=fun j hj=>by
  have e:l.getD j d=l[j]:=by simp [show j < l.length by omega]
  rw [e]
  exact h1 _ (List.mem_take_iff_getElem.2 ⟨j,by omega,rfl⟩)
 cases hf:(List.range l.length).find? fun j=>!p (l.getD j d) with
 | none=>
  rw [List.find?_eq_none] at hf
  have:¬ a < l.length:=fun bM=>by
   have e:l.getD a d=l[a]:=by simp [bM]
   have:=hf a (List.mem_range.2 bM)
   rw [e,h2 bM] at this
   simp at this
  show (l.length:Int)=(a:Int)
  omega
 | some j=>
  have hj:=List.mem_range.1 (List.mem_of_find?_eq_some hf)
  have hp:=List.find?_some hf
  have hja:a≤j:=by
   by_cases hc:a≤j
   ·exact hc
   ·have:=aaP j (by omega)
    rw [this] at hp
    simp at hp
  have To:=(List.find?_eq_some_iff_getElem.1 hf).2
  obtain ⟨i,hi,hij,mO⟩:=To
  rw [List.getElem_range] at hij
  subst hij
  show (i:Int)=(a:Int)
  by_cases hc:i=a
  ·rw [hc]
  ·have hai:a < i:=by omega
   have:=mO a hai
   rw [List.getElem_range] at this
   have e:l.getD a d=l[a]:=by simp [show a < l.length by omega]
   rw [e,h2 (by omega)] at this
   simp at this
end Go.Am
