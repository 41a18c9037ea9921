/- The abstract machine: strings.Split,strings.Cut and strconv.Itoa by their contracts. -/
import Derived.Test.YtldcljfjjoidhaaGreatDoorAmKK
import Derived.Lib.SplitLaws
import Derived.Lib.CutLaws
import Derived.Deep.Draws
import Derived.Lib.LaidTab
import Derived.Lib.ItoaNum
import Derived.Sort.Grow
import Derived.Shelf.SlSortCmp.NoneTotal
set_option linter.all false
namespace Go.Am
open Go Go.RowKit
def gl (c:UInt8):List UInt8→List (List UInt8)
 | []=>[[]]
 | b :: s=>if b=c then [] :: gl c s else match gl c s with
  | []=>[[b]]
  | x :: xs=>(b :: x) :: xs
def xw (c:UInt8):List UInt8→List UInt8 × List UInt8 × Bool
 | []=>([],[],false)
 | b :: s=>if b=c then ([],s,true) else (b :: (xw c s).1,(xw c s).2.1,(xw c s).2.2)
theorem ZC (c b:UInt8) (l:List UInt8):[c].isPrefixOf (b :: l)=(c == b):=by simp [List.isPrefixOf]
theorem mq (c b:UInt8) (l:List UInt8):Lib.index (b :: l) [c]=if b=c then 0 else if Lib.index l [c]=-1 then -1 else Lib.index l [c]+1:=by
 rw [Lib.index,ZC]
 by_cases h:b=c
 ·subst h; simp
 ·have:(c == b)=false:=by simp; exact fun e=>h e.symm
  simp [this,h]
theorem rY (c:UInt8) (l:List UInt8):Lib.index l [c]=-1∨∃ i:Nat,Lib.index l [c]=i:=by
 rcases Lib.index_spec l [c] with ⟨h,_⟩ | ⟨i,h,_⟩
 ·exact .inl h
 ·exact .inr ⟨i,h⟩
theorem s5 (c:UInt8):∀ l:List UInt8,Lib.index l [c]=-1↔l.count c=0
 | []=>by simp [Lib.index]
 | b :: l=>by
  rw [mq]
  by_cases h:b=c
  ·subst h; simp
  ·have ih:=s5 c l
   rw [if_neg h,List.count_cons_of_ne h]
   rcases rY c l with h1 | ⟨i,h1⟩
   ·rw [if_pos h1]; simp [ih.1 h1]
   ·have cw:Lib.index l [c]≠-1:=by omega
    rw [if_neg cw]
    constructor
    ·intro h2; omega
    ·intro h2; exact absurd (ih.2 h2) cw
theorem pf (c:UInt8):∀ l:List UInt8,l.count c=0→gl c l=[l]
 | [],_=>rfl
 | b :: l,h=>by
  have hb:b≠c:=fun e=>by subst e; simp at h
  rw [List.count_cons_of_ne hb] at h
  unfold gl
  rw [if_neg hb,pf c l h]
theorem BK (c:UInt8):∀ l:List UInt8,Lib.splitK [c] 0 (l.count c) l=gl c l
 | []=>by simp [Lib.splitK,gl]
 | b :: l=>by
  have ih:=BK c l
  by_cases hb:b=c
  ·subst hb
   rw [List.count_cons_self,Lib.splitK,mq,if_pos rfl]
   simp [gl,ih]
  ·rw [List.count_cons_of_ne hb]
   cases hk:l.count c with
   | zero=>
    have:=pf c l hk
    unfold gl
    rw [if_neg hb,this,Lib.splitK]
   | succ k=>
    have cw:Lib.index l [c]≠-1:=fun e=>by have:=(s5 c l).1 e; omega
    obtain ⟨i,hi⟩:=(rY c l).resolve_left cw
    rw [hk,Lib.splitK,hi] at ih
    rw [Lib.splitK,mq,if_neg hb,if_neg cw,hi]
    have e1:(((i:Int) == -1))=false:=by simp
    have e2:(((i:Int)+1 == -1))=false:=by simp; omega
    rw [e1] at ih
    rw [e2]
    unfold gl
    rw [if_neg hb,← ih]
    have e3:((i:Int)+1).toNat=i+1:=by omega
    simp [e3]
theorem P2 (c:UInt8):∀ l:List UInt8,Lib.cut l [c]=xw c l
 | []=>by simp [Lib.cut,Lib.index,xw]
 | b :: l=>by
  have ih:=P2 c l
  unfold Lib.cut at ih ⊢
  rw [mq]
  unfold xw
  by_cases hb:b=c
  ·rw [if_pos hb]; simp [hb]
  ·rw [if_neg hb,if_neg hb,← ih]
   rcases rY c l with h | ⟨i,h⟩
   ·rw [if_pos h,h]; simp
   ·have cw:Lib.index l [c]≠-1:=by omega
    have h1:(0:Int)≤(i:Int)+1:=by omega
    have h2:(0:Int)≤(i:Int):=by omega
    have e3:((i:Int)+1).toNat=i+1:=by omega
    rw [if_neg cw,h,if_pos h1,if_pos h2,e3]
    simp
theorem Jv (c:UInt8) (s:List UInt8):(Lib.splitB ⟨#[c]⟩ 0 (Lib.countB ⟨⟨s⟩⟩ ⟨#[c]⟩) ⟨⟨s⟩⟩).map (·.data.toList)=gl c s:=by
 rw [Lib.splitB_data]
 show Lib.splitK [c] 0 (Lib.count s [c]) s=_
 rw [Lib.count_one]
 exact BK c s
def zR (n:Int):Option (List UInt8):=bif decide (-9223372036854775808≤n)&&decide (n≤9223372036854775807) then some (Lib.itoa n) else none
def DE:aJ:=⟨p1 (.int .i64),.str,zR⟩
def RY:List UInt8 × List UInt8→Option (List (List UInt8))
 | (s,[c])=>bif decide (s.length < 4294967281) then some (gl c s) else none
 | _=>none
def ZD:List UInt8 × List UInt8→Option (List UInt8 × List UInt8 × Bool)
 | (s,[c])=>bif decide (s.length < 4294967281) then some (xw c s) else none
 | _=>none
def DF:aJ:=⟨p2 .str .str,.list 1 .str,RY⟩
def RZ:aJ:=⟨p2 .str .str,.bg (.cons .str (.cons .str (.cons .bool .nil))),ZD⟩
section
variable {E:Env} {R:ak} {w w':World}
theorem aS.ZE {g:FuncId} {args:List AV} {xs:List (List UInt8)} {t:TypeId} (hp:Plain E.P g) (hm:xs.length≤140737488355328)
  (h:∀ (R:ak) (w:World) (cs:List Value),cW E R w []→aG R w args cs→Calls E.P g ⟨cs⟩ w (fun e w'=>e=.returned (.slice (some ⟨w.heap.size,0,none⟩) xs.length xs.length)∧w'=w.alloc (.cells ((xs.map fun l=>Value.string ⟨⟨l⟩⟩).toArray) t)))
  (oP:aB 0 args=true):aS E g args (fun r'=>r'=(aj.list 1 .str).enc xs):=fun G=>
 ⟨hp,fun R w cs hg hl=>by
  let R0:ak:=⟨R.I,[]⟩
  have m0:Mv R R0 0:=⟨fun _ _ h=>h,fun _ _ h=>absurd h (Nat.not_lt_zero _)⟩
  have K3:cW E R0 w []:=⟨rfl,fun id go ro h1 _=>by simp [nth] at h1,fun i j ri rj b h1=>by simp [R0,nth] at h1,hg.wf,fun g cs pt=>(hg.bY g cs pt).move m0 (b8 _ (E.mJ g cs pt)),hg.lo⟩
  refine callsIn_wide.2 ((h R0 w cs K3 (hl.move m0 oP)).mono fun e w' ⟨he,hw⟩=>?_)
  subst he; subst hw
  let R':ak:=R.all w.heap.size
  have e1:=rv (R:=R) hg.wf (.cells ((xs.map fun l=>Value.string ⟨⟨l⟩⟩).toArray) t)
  have e:Ext R w R' (w.alloc (.cells ((xs.map fun l=>Value.string ⟨⟨l⟩⟩).toArray) t)):=e1.trans (n5 R _ _)
  have old:∀ b,b < w.heap.size→(w.alloc (.cells ((xs.map fun l=>Value.string ⟨⟨l⟩⟩).toArray) t)).heap[b]?=w.heap[b]?:=fun b hb=>heap_alloc_old w _ hb
  have im:∀ b o,b < w.heap.size→R'.I b o→R.I b o:=fun b o hb hi=>hi.resolve_right (by omega)
  refine ⟨_,G,R',⟨rfl,rfl⟩,?_,?_,⟨e,rfl,rfl,rfl,by simp,fun b hb _=>old b hb,fun b hb ho=>ho,fun b o hi hb _=>im b o hb hi⟩⟩
  ·have mT:(w.alloc (.cells ((xs.map fun l=>Value.string ⟨⟨l⟩⟩).toArray) t)).heap[w.heap.size]?=some (.cells ((xs.map fun l=>Value.string ⟨⟨l⟩⟩).toArray) t):=heap_alloc_new w _
   have key:∀ (ys:List (List UInt8)) (o:Nat),(∀ (j:Nat) l,ys[j]?=some l→xs[o+j]?=some l)→fk R' (w.alloc (.cells ((xs.map fun l=>Value.string ⟨⟨l⟩⟩).toArray) t)) w.heap.size o 1 (ys.map (fun l=>AV.str l)):=by
    intro ys
    induction ys with
    | nil=>intro o _; exact .nil
    | cons l ys ih=>
     intro o hj
     refine .cons rfl rfl rfl (.cons (c:=.string ⟨⟨l⟩⟩) ?_ rfl (.inr rfl) (.str l) .nil) (ih (o+1) fun j l' h'=>by
      have:=hj (j+1) l' (by simpa using h')
      rwa [show o+(j+1)=o+1+j by omega] at this)
     have h0:=hj 0 l rfl
     rw [Nat.add_zero] at h0
     simp only [World.cell?,mT]
     simp [h0]
   have hk:=key xs 0 (fun j l h=>by rw [Nat.zero_add]; exact h)
   exact Rel.list (k:=.ka) (sz:=1) (es:=xs.map (fun l=>AV.str l)) hk (by rw [List.length_map]) (Nat.le_refl _) trivial
  ·exact hg.bo e rfl (fun b hb=>old b (hg.bS hb)) (fun b o hb hi=>im b o (hg.bS hb) hi) (fun b o hi=>by
    rcases hi with hi | hi
    ·have:=hg.wf b o hi; simp; omega
    ·subst hi; simp) (fun hd=>hd)⟩
theorem Jw {g gm:FuncId} {m:Int} {t:TypeId} (hp:Plain E.P g) (hg:E.bY gm=some [.int .i64 m])
  (h:∀ (s:ByteArray) (c:UInt8) (w:World),s.size < 4294967281→w.cell? ⟨gm,0,none⟩=some (.int .i64 m)→Calls E.P g #[.string s,.string ⟨#[c]⟩] w fun e w'=>
   e=.returned (.slice (some ⟨w.heap.size,0,none⟩) (Lib.countB s ⟨#[c]⟩+1) (Lib.countB s ⟨#[c]⟩+1))∧w'=w.alloc (.cells ((Lib.splitB ⟨#[c]⟩ 0 (Lib.countB s ⟨#[c]⟩) s).map Value.string).toArray t)):an E g DF:=fun x y hT=>by
 obtain ⟨s,c⟩:=x
 match c,hT with
 | [],hT=>cases hT
 | _ :: _ :: _,hT=>cases hT
 | [c],hT=>
  have hT:(bif decide (s.length < 4294967281) then some (gl c s) else none)=some y:=hT
  obtain ⟨h1,h2⟩:s.length < 4294967281∧gl c s=y:=by
   cases hd:decide (s.length < 4294967281) with
   | true=>rw [hd] at hT; exact ⟨of_decide_eq_true hd,Option.some.inj hT⟩
   | false=>rw [hd] at hT; cases hT
  subst h2
  have hB:=Jv c s
  have mD:=Lib.splitB_all ⟨#[c]⟩ (Nat.le_refl 1) 0 _ ⟨⟨s⟩⟩ rfl
  have hlen:(gl c s).length=Lib.countB ⟨⟨s⟩⟩ ⟨#[c]⟩+1:=by rw [← hB,List.length_map,mD]
  have iA:=Lib.countB_le ⟨#[c]⟩ (Nat.le_refl 1) s.length ⟨⟨s⟩⟩ (by show s.length≤_; exact Nat.le_refl _)
  have iA:Lib.countB ⟨⟨s⟩⟩ ⟨#[c]⟩≤s.length:=iA
  refine aS.ZE (t:=t) hp (by rw [hlen]; omega) (fun R w cs hr hl=>?_) rfl
  have uO:dp R w gm 0 [.int .i64 m]:=(hr.bY gm _ hg).1
  have hm:w.cell? ⟨gm,0,none⟩=some (.int .i64 m):=by
   cases uO with
   | cons a1 _ _ a4 _=>cases a4; exact a1
  cases hl with
  | cons a1 hl=>
  cases hl with
  | cons a2 hl=>
  cases hl
  cases a1; cases a2
  refine (h ⟨⟨s⟩⟩ c w (by show s.length < _; exact h1) hm).mono ?_
  rintro e w' ⟨rfl,rfl⟩
  have e3:(Lib.splitB ⟨#[c]⟩ 0 (Lib.countB ⟨⟨s⟩⟩ ⟨#[c]⟩) ⟨⟨s⟩⟩).map Value.string=(gl c s).map fun l=>Value.string ⟨⟨l⟩⟩:=by
   rw [← hB,List.map_map]; rfl
  rw [hlen,e3]
  exact ⟨rfl,rfl⟩
theorem R4 {g gm:FuncId} {m:Int} (hp:Plain E.P g) (hg:E.bY gm=some [.int .i64 m]) (hE:E.lo=0)
  (h:∀ (s:ByteArray) (c:UInt8) (w:World),s.size < 4294967281→w.cell? ⟨gm,0,none⟩=some (.int .i64 m)→Calls E.P g #[.string s,.string ⟨#[c]⟩] w fun e w'=>
   e=.returned (.tuple #[.string ⟨(Lib.cut s.data.toList [c]).1.toArray⟩,.string ⟨(Lib.cut s.data.toList [c]).2.1.toArray⟩,.bool (Lib.cut s.data.toList [c]).2.2])∧∃ n,w'=w.drewN n):an E g RZ:=fun x y hT=>by
 obtain ⟨s,c⟩:=x
 match c,hT with
 | [],hT=>cases hT
 | _ :: _ :: _,hT=>cases hT
 | [c],hT=>
  have hT:(bif decide (s.length < 4294967281) then some (xw c s) else none)=some y:=hT
  obtain ⟨h1,h2⟩:s.length < 4294967281∧xw c s=y:=by
   cases hd:decide (s.length < 4294967281) with
   | true=>rw [hd] at hT; exact ⟨of_decide_eq_true hd,Option.some.inj hT⟩
   | false=>rw [hd] at hT; cases hT
  subst h2
  refine fun G=>⟨hp,fun R w cs hr hl=>callsIn_wide.2 ?_⟩
  have uO:dp R w gm 0 [.int .i64 m]:=(hr.bY gm _ hg).1
  have hm:w.cell? ⟨gm,0,none⟩=some (.int .i64 m):=by
   cases uO with
   | cons a1 _ _ a4 _=>cases a4; exact a1
  have Us:=hr.wf
  cases hl with
  | cons a1 hl=>
  cases hl with
  | cons a2 hl=>
  cases hl
  cases a1; cases a2
  refine (h ⟨⟨s⟩⟩ c w (by show s.length < _; exact h1) hm).mono ?_
  rintro e w' ⟨rfl,n,rfl⟩
  have hb:Below w.heap.size w (w.drewN n):=⟨rfl,rfl,rfl,Nat.le_refl _,fun _ _=>rfl⟩
  refine ⟨_,G,R,⟨rfl,rfl⟩,?_,Below.IF hb hr hE,Below.BB hb Us⟩
  have e4:Lib.cut (⟨⟨s⟩⟩:ByteArray).data.toList [c]=xw c s:=P2 c s
  rw [e4]
  exact Rel.bg (.cons (.str _) (.cons (.str _) (.cons (.bool _) .nil)))
theorem BL {R:ak} {w:World} {b:Nat}:∀ {zs:List Int} {k:IntKind} {o:Nat},dp R w b o (zs.map fun z=>AV.int k z)→∀ (j:Nat) z,zs[j]?=some z→w.cell? ⟨b,o+j,none⟩=some (.int k z)
 | [],_,_,_,j,z,h=>by simp at h
 | a :: zs,k,o,.cons h1 h2 h3 h4 t,0,z,h=>by
  cases h4
  simp only [List.getElem?_cons_zero,Option.some.injEq] at h
  subst h
  exact h1
 | a :: zs,k,o,.cons h1 h2 h3 h4 t,j+1,z,h=>by
  have:=BL t j z (by simpa using h)
  rwa [show o+(j+1)=o+1+j by omega]
theorem iS.yo {nm:String} {gt:Nat} {k:IntKind} {zs:List Int} (hn:E.P.globalNamed nm=some gt) (hx:E.gx gt=true) (h0:1≤zs.length) (h:iS E R w gt (zs.map fun z=>AV.int k z)):Lib.TabIs E.P w nm k zs:=by
 obtain ⟨h1,h2⟩:=h
 obtain ⟨_,h2⟩:=h2 hx
 rw [List.length_map] at h2
 have hg:=BL h1
 unfold Lib.TabIs World.var?
 rw [hn]
 have T7:=hg 0 zs[0] (by simp [List.getElem?_eq_getElem h0])
 cases hb:w.heap[gt]? with
 | none=>simp [World.cell?,hb] at T7
 | some ob=>
  cases ob with
  | cells cs t fr=>
   have hc:∀ j,w.cell? ⟨gt,j,none⟩=cs[j]?:=fun j=>by simp [World.cell?,hb]
   have e:cs=(zs.map fun z=>Value.int k z).toArray:=by
    apply Array.ext'
    rw [List.toList_toArray]
    apply List.ext_getElem?
    intro j
    rw [Array.getElem?_toList,List.getElem?_map]
    rcases Nat.lt_or_ge j zs.length with hj | hj
    ·have:=hg j zs[j] (by simp [List.getElem?_eq_getElem hj])
     rw [Nat.zero_add,hc] at this
     rw [this,List.getElem?_eq_getElem hj]; rfl
    ·have hz:zs[j]?=none:=List.getElem?_eq_none hj
     rw [hz,Option.map_none]
     rw [hc] at h2
     have hs:cs.size≤zs.length:=by simpa using h2
     exact Array.getElem?_eq_none (by omega)
   show (match w.heap[gt]? with | some (.cells cs _ _)=>some cs | _=>none)=_
   rw [hb,e]
  | _=>simp [World.cell?,hb] at T7
theorem Jx {g gt:FuncId} {nm:String} (hp:Plain E.P g) (hg:E.bY gt=some (Lib.pow10Tab.map fun z=>AV.int .u64 z)) (hx:E.gx gt=true) (hn:E.P.globalNamed nm=some gt) (hE:E.lo=0)
  (h:∀ (n:Int) (w:World),-9223372036854775808≤n→n≤9223372036854775807→Lib.TabIs E.P w nm .u64 Lib.pow10Tab→Calls E.P g #[.int .i64 n] w fun e w'=>
   e=.returned (.string ⟨(Lib.itoa n).toArray⟩)∧∃ k os,w'=Sort.grow (w.drewN k) os):an E g DE:=fun x y hT=>by
 obtain ⟨n,rfl⟩:∃ n:Int,(show DE.ps.T from n)=x:=⟨x,rfl⟩
 have hT:(bif decide (-9223372036854775808≤n)&&decide (n≤9223372036854775807) then some (Lib.itoa n) else none)=some y:=hT
 obtain ⟨h1,h2⟩:=BC.cond_some' hT
 subst h2
 rw [Bool.and_eq_true] at h1
 have a:=of_decide_eq_true h1.1
 have b:=of_decide_eq_true h1.2
 refine fun G=>⟨hp,fun R w cs hr hl=>callsIn_wide.2 ?_⟩
 have zN:=(hr.bY gt _ hg).yo hn hx (by rw [Lib.pow10Tab_length]; decide)
 have Us:=hr.wf
 cases hl with
 | cons a1 hl=>
 cases hl
 cases a1
 refine (h n w a b zN).mono ?_
 rintro e w' ⟨rfl,k,os,rfl⟩
 have hb:Below w.heap.size w (Sort.grow (w.drewN k) os):=⟨rfl,rfl,rfl,by simp [Sort.grow,World.drewN],fun i hi=>by
  show (w.heap++os)[i]?=_
  rw [Array.getElem?_append_left hi]⟩
 exact ⟨_,G,R,⟨rfl,rfl⟩,Rel.str _,Below.IF hb hr hE,Below.BB hb Us⟩
end
end Go.Am
namespace Go.Am
open Go
section
variable {κ ν:Type} [DecidableEq κ]
def getM (k:κ):List (κ × ν)→Option ν
 | []=>none
 | (k',v) :: m=>if k=k' then some v else getM k m
def nI (k:κ) (v:ν):List (κ × ν)→List (κ × ν)
 | []=>[(k,v)]
 | (k',v') :: m=>if k=k' then (k,v) :: m else (k',v') :: nI k v m
theorem v8 (k k':κ) (v:ν):∀ m:List (κ × ν),getM k' (nI k v m)=if k'=k then some v else getM k' m
 | []=>rfl
 | (k1,v1) :: m=>by
  unfold nI
  by_cases h:k=k1
  ·subst h
   rw [if_pos rfl]
   by_cases h2:k'=k
   ·simp [getM,h2]
   ·simp [getM,h2]
  ·rw [if_neg h]
   by_cases h2:k'=k1
   ·subst h2
    have h3:¬ k'=k:=fun e=>h e.symm
    simp [getM,h3]
   ·simp only [getM,if_neg h2]
    exact v8 k k' v m
theorem BP {k:κ} {v:ν}:∀ {m:List (κ × ν)},getM k m=none→nI k v m=m++[(k,v)]
 | [],_=>rfl
 | (k1,v1) :: m,h=>by
  unfold getM at h
  split at h
  ·cases h
  ·rename_i cw
   unfold nI
   rw [if_neg cw,BP h]
   rfl
theorem yu (k:κ) (l:List κ):getM k (l.map fun x=>(x,true))=if k∈l then some true else none:=by
 induction l with
 | nil=>rfl
 | cons a l ih=>
  simp only [List.map_cons,getM,ih,List.mem_cons]
  by_cases h:k=a
  ·simp [h]
  ·simp [h]
structure fH (ek:EK) (nk:κ→AV) (nv:ν→AV) (nM:κ × ν→AV):Prop where
 key:∀ a b,Cd ek (nk a) (nk b)=some (decide (a=b))
 pair:∀ x,nM x=.agg [nk x.1,nv x.2]
 exact:∀ x,(nM x).exact=true
variable {ek:EK} {nk:κ→AV} {nv:ν→AV} {nM:κ × ν→AV} (h:fH ek nk nv nM)
include h
theorem fH.XX:∀ m:List (κ × ν),ab (List.map nM m)=m.map fun x=>(nk x.1,nv x.2)
 | []=>rfl
 | x :: m=>by
  rw [List.map_cons,h.pair,ab,fH.XX m]
  rfl
theorem fH.keys (k:κ):∀ m:List (κ × ν),eo ek (nk k) (ab (List.map nM m))=true
 | []=>rfl
 | x :: m=>by
  have:=fH.keys k m
  rw [List.map_cons,h.pair,ab]
  show ((Cd ek (nk k) (nk x.1)).isSome&&eo ek (nk k) (ab (List.map nM m)))=true
  rw [this,h.key]
  rfl
theorem fH.get (k:κ):∀ m:List (κ × ν),er ek (nk k) (ab (List.map nM m))=(getM k m).map nv
 | []=>rfl
 | x :: m=>by
  have ih:=fH.get k m
  rw [List.map_cons,h.pair,ab]
  show (bif tF ek (nk k) (nk x.1) then some (nv x.2) else er ek (nk k) (ab (List.map nM m)))=(if k=x.1 then some x.2 else getM k m).map nv
  unfold tF
  rw [h.key,ih]
  by_cases e:k=x.1
  ·simp [e]
  ·simp [e]
theorem fH.getD (k:κ) (z:ν) (m:List (κ × ν)):b9 ek (nk k) (nv z) (ab (List.map nM m))=nv ((getM k m).getD z):=by
 unfold b9
 rw [h.get]
 cases getM k m <;> rfl
theorem fH.put (k:κ) (v:ν):∀ m:List (κ × ν),dy ek (nk k) (nv v) (ab (List.map nM m))=ab (List.map nM (nI k v m))
 | []=>by
  show [(nk k,nv v)]=ab [nM (k,v)]
  rw [h.pair]
  rfl
 | x :: m=>by
  have ih:=fH.put k v m
  rw [List.map_cons,h.pair,ab]
  show (bif tF ek (nk k) (nk x.1) then (nk k,nv v) :: ab (List.map nM m) else (nk x.1,nv x.2) :: dy ek (nk k) (nv v) (ab (List.map nM m)))=ab (List.map nM (if k=x.1 then (k,v) :: m else (x.1,x.2) :: nI k v m))
  unfold tF
  rw [h.key,ih]
  by_cases e:k=x.1
  ·simp only [e,decide_true,cond_true,if_true,List.map_cons]
   rw [h.pair (x.1,v),ab]
   rfl
  ·simp only [e,decide_false,cond_false,if_false,List.map_cons]
   rw [h.pair (x.1,x.2),ab]
   rfl
theorem fH.cells:∀ m:List (κ × ν),ai (ab (List.map nM m))=List.map nM m
 | []=>rfl
 | x :: m=>by
  have ih:=fH.cells m
  rw [List.map_cons,h.pair,ab]
  show AV.agg [nk x.1,nv x.2] :: ai (ab (List.map nM m))=_
  rw [ih]
theorem fH.aV (m:List (κ × ν)):Go.Am.aV (ab (List.map nM m))=true:=by
 unfold Go.Am.aV
 rw [h.cells]
 induction m with
 | nil=>rfl
 | cons x m ih=>rw [List.map_cons,fb,ih,h.exact]; rfl
end
theorem E3 (a b:Int × Int):Cd (.st (.cons 0 1 false .int (.cons 1 1 false .int .nil))) (.agg [.int .i64 a.1,.int .i64 a.2]) (.agg [.int .i64 b.1,.int .i64 b.2])=some (decide (a=b)):=by
 obtain ⟨a1,a2⟩:=a
 obtain ⟨b1,b2⟩:=b
 have e:kd (.st (.cons 0 1 false .int (.cons 1 1 false .int .nil))) (.agg [.int .i64 a1,.int .i64 a2]) (.agg [.int .i64 b1,.int .i64 b2])=some ((a1 == b1)&&((a2 == b2)&&true)):=rfl
 unfold Cd
 rw [e]
 by_cases h1:a1=b1 <;> by_cases h2:a2=b2
 ·subst h1; subst h2
  simp [EK.wide,km,kV,mK]
 all_goals simp [h1,h2]
end Go.Am
namespace Go.Am
open Go
theorem we (ek:EK) (k v x:AV):∀ es:List (AV × AV),gG (dy ek k v es) (fK ek k es) x=dy ek k x es
 | []=>rfl
 | (k',v') :: l=>by
  unfold dy fK
  cases h:tF ek k k' with
  | true=>rfl
  | false=>
   simp only [cond_false,gG]
   rw [we ek k v x l]
theorem JI (ek:EK) (k v:AV):∀ es:List (AV × AV),fK ek k es < (dy ek k v es).length
 | []=>Nat.zero_lt_one
 | (k',v') :: l=>by
  unfold dy fK
  cases h:tF ek k k' with
  | true=>exact Nat.zero_lt_succ _
  | false=>
   simp only [cond_false,List.length_cons]
   have:=JI ek k v l
   omega
theorem DJ {V X:Type} (rd:(V→Option X)→V→Option X) (n:Nat) (v:V):lu rd (n+1) v=rd (lu rd n) v:=rfl
def Gx (L:List Nat):List Int:=L.map fun n:Nat=>(n:Int)
theorem JJ {α:Type} (f:α→AV × AV) (m:List α) {i:Nat} (h:i < m.length):dx (m.map f) i=f m[i]:=by
 unfold dx
 rw [aX,List.getElem?_map,List.getElem?_eq_getElem h]
 rfl
end Go.Am
namespace Go.Am
open Go Go.RowKit Go.Proofs Go.Shelf Go.Sort
def DR:AV→Value
 | .bool b=>.bool b
 | .int k n=>.int k n
 | .str l=>.string ⟨⟨l⟩⟩
 | _=>.bool false
theorem Ka {R:ak} {w:World} {a:AV} {c:Value} (ha:fV a=true) (h:Rel R w a c):c=DR a:=by
 cases a <;> first | (cases ha; done) | (cases h; rfl)
theorem Kb {R:ak} {w:World} {a:AV} (ha:fV a=true):Rel R w a (DR a):=by
 cases a <;> first | (cases ha; done) | constructor
theorem yw {R:ak} {w:World}:∀ {l:List AV} {vs:List Value},(∀ a∈l,fV a=true)→aG R w l vs→vs=l.map DR
 | [],_,_,h=>by cases h; rfl
 | a :: l,_,hs,.cons h t=>by
  rw [Ka (hs a (by simp)) h,yw (fun b hb=>hs b (by simp [hb])) t]
  rfl
theorem rZ {R:ak} {w:World}:∀ {l:List AV},(∀ a∈l,fV a=true)→aG R w l (l.map DR)
 | [],_=>.nil
 | a :: l,hs=>.cons (Kb (hs a (by simp))) (rZ fun b hb=>hs b (by simp [hb]))
theorem wu {a:AV} (ha:fV a=true):(DR a).oneCell'=true:=by
 cases a <;> first | (cases ha; done) | rfl
structure ot (P:Program) (bY:Nat→Option (List AV)) (c:FuncId) (p:aj) (k:Nat) (cf:p.T→p.T→Int):Prop where
 flat:p.flat=true
 size:∀ x,(p.enc x).cells.length=k
 DS:∀ x,∀ a∈(p.enc x).cells,fV a=true
 agg:∀ x,∃ cs,p.enc x=.agg cs
 calls:∀ (E:Env),E.P=P→E.bY=bY→E.gx=(fun _=>false)→∀ x y,aS E c [p.enc x,p.enc y] (fun r=>r=.int .i64 (cf x y))
 swo:SWO (ltOf cf)
 X6:∀ x y,(ltOf cf) x y=false→(ltOf cf) y x=false→x=y
def fD (p:aj) (cf:p.T→p.T→Int) (es:List AV):List AV:=(((es.map p.bi).mergeSort fun x y=>!(ltOf cf) y x)).map p.enc
def wv (p:aj) (cf:p.T→p.T→Int) (sz:Nat) (el:TypeId) (c:FuncId):List AV→List GO→Option (Bool × AV × List GO)
 | [.du id f off sz1 len,.fn c' [] []],G=>match nth G id with
  | some (.cO es mH X7)=>if Nat.beq c c'&&Nat.beq off 0&&Nat.beq sz1 sz&&Nat.beq mH sz&&Nat.beq X7 el then
    some (decide (f=es.length)&&decide (len=es.length)&&decide (es.length≤140737488355328)&&allFit p.fits es,.bg [],ay G id (.cO (fD p cf es) sz el)) else none
  | _=>none
 | _,_=>none
theorem xy {W W':World} (h:Below W.heap.size W W') (hd:W.drawn≤W'.drawn):∃ q os,W'=Sort.grow (W.drewN q) os:=by
 refine ⟨W'.drawn - W.drawn,W'.heap.extract W.heap.size W'.heap.size,?_⟩
 have hh:W'.heap=W.heap++W'.heap.extract W.heap.size W'.heap.size:=by
  apply Array.ext_getElem?
  intro i
  by_cases hi:i < W.heap.size
  ·rw [Array.getElem?_append_left hi]
   exact h.block i hi
  ·rw [Array.getElem?_append_right (by omega),Array.getElem?_extract]
   have hs:=h.size
   by_cases hj:i < W'.heap.size
   ·rw [if_pos (by omega)]
    congr 1
    omega
   ·rw [if_neg (by omega),Array.getElem?_eq_none (by omega)]
 obtain ⟨hp,tp,dr,os,out⟩:=W'
 have h1:=h.os
 have h2:=h.tape
 have h3:=h.output
 simp only at hh h1 h2 h3 hd
 unfold Sort.grow World.drewN
 simp only
 rw [← hh,h1,h2,h3]
 congr 1
 omega
def fw (p:aj) (x:p.T):List Value:=((p.enc x).cells).map DR
theorem nL {α:Type} [Inhabited α] {enc:α→List Value} {k:Nat} (hk:∀ x,(enc x).length=k):∀ (l:List α) (t:Nat),t < l.length * k→(l.flatMap enc)[t]?=some ((enc l[t / k]!)[t % k]!)
 | [],t,h=>by simp at h
 | x :: l,t,h=>by
  have xP:0 < k:=by
   rcases Nat.eq_zero_or_pos k with h0 | h0
   ·rw [h0] at h; omega
   ·exact h0
  rw [List.flatMap_cons]
  by_cases ht:t < k
  ·rw [List.getElem?_append_left (by rw [hk]; exact ht),Nat.div_eq_of_lt ht,Nat.mod_eq_of_lt ht]
   have hl:t < (enc x).length:=by rw [hk]; exact ht
   simp [hl]
  ·have ht:k≤t:=Nat.le_of_not_lt ht
   rw [List.getElem?_append_right (by rw [hk]; exact ht),hk]
   have h':t - k < l.length * k:=by
    rw [List.length_cons,Nat.add_mul,Nat.one_mul] at h
    omega
   rw [nL hk l (t - k) h']
   have e1:t / k=(t - k) / k+1:=by
    rw [Nat.div_eq_sub_div xP ht]
   have e2:t % k=(t - k) % k:=Nat.mod_eq_sub_mod ht
   rw [e1,e2]
   simp
theorem yx {α:Type} [Inhabited α] {enc:α→List Value} {k:Nat} (hk:∀ x,(enc x).length=k) (d:Array α):(flatK enc k d).toList=d.toList.flatMap enc:=by
 have hl:(d.toList.flatMap enc).length=d.size * k:=by
  obtain ⟨l⟩:=d
  show (l.flatMap enc).length=l.length * k
  induction l with
  | nil=>simp
  | cons x l ih=>rw [List.flatMap_cons,List.length_append,hk,ih,List.length_cons,Nat.add_mul,Nat.one_mul,Nat.add_comm]
 apply List.ext_getElem?
 intro t
 by_cases ht:t < d.size * k
 ·have h1:=nL hk d.toList t (by simpa using ht)
  rw [h1]
  have hs:t < (flatK enc k d).size:=by rw [size_flatK]; exact ht
  have h2:=get_flatK enc k d t ht
  rw [getElem!_pos (flatK enc k d) t hs] at h2
  have e:∀ i:Nat,d[i]! = d.toList[i]!:=fun i=>by rw [getElem!_def,getElem!_def,Array.getElem?_toList]
  rw [Array.getElem?_toList,Array.getElem?_eq_getElem hs,h2,e]
 ·rw [List.getElem?_eq_none (by rw [Array.length_toList,size_flatK]; omega),List.getElem?_eq_none (by rw [hl]; omega)]
theorem pQ (p:aj):∀ (xs:List p.T),(ar (xs.map p.enc)).map DR=xs.flatMap (fw p)
 | []=>rfl
 | x :: xs=>by
  rw [List.map_cons,ar,List.map_append,pQ p xs,List.flatMap_cons]
  rfl
theorem qT {w:World} {b:Nat} {cur:Array Value} {el:TypeId} (h:w.heap[b]?=some (.cells cur el (0,0))) (f:Array Value→Array Value):mapBlock w b f=w.setRow b (f cur):=by
 unfold mapBlock World.setRow
 congr 1
 apply Array.ext_getElem?
 intro i
 rw [Array.getElem?_modify,Array.getElem?_modify]
 by_cases e:b=i
 ·subst e
  rw [if_pos rfl,if_pos rfl,h]
  rfl
 ·rw [if_neg e,if_neg e]
section
variable {E:Env} {ρ:Ren} {c:FuncId} {p:aj} {k:Nat} {cf:p.T→p.T→Int} [Inhabited p.T]
theorem wx (hC:ot E.P E.bY c p k cf) (x:p.T):(fw p x).length=k:=by
 unfold fw
 rw [List.length_map,hC.size]
theorem Kc (LX:E.gx=fun _=>false) (hC:ot E.P E.bY c p k cf) {R:ak} {w:World} {G:List GO} (hg:cW E R w G) {b:Nat} {cur:Array Value} {el:TypeId} (hb:w.heap[b]?=some (.cells cur el (0,0))) (hI:∀ o,¬ R.I b o) (size:Nat) :
  CmpLays E.P c #[] (fw p) k cf b 0 size w:=by
 intro m os dk _ x y
 have e1:putRowK (fw p) k (Sort.ahead w m) b 0 dk=(Sort.ahead w m).setRow b (putCells id 0 (flatK (fw p) k dk) cur):=qT (w:=Sort.ahead w m) hb _
 have hW:sortWorldK (fw p) k w b 0 m dk os=Sort.grow ((Sort.ahead w m).setRow b (putCells id 0 (flatK (fw p) k dk) cur)) os:=by
  unfold sortWorldK
  rw [e1]
 rw [hW]
 generalize putCells id 0 (flatK (fw p) k dk) cur=cur2
 have eA:Ext R w R (Sort.ahead w m):=⟨fun _ _ h=>h,fun _ _ _=>rfl,fun _ ro h=>⟨ro,h,ca.refl ro⟩,.old fun _ _=>rfl⟩
 have eS:Ext R (Sort.ahead w m) R ((Sort.ahead w m).setRow b cur2):=gX hI cur2
 have Kd:Below ((Sort.ahead w m).setRow b cur2).heap.size ((Sort.ahead w m).setRow b cur2) (Sort.grow ((Sort.ahead w m).setRow b cur2) os):=by
  refine ⟨rfl,rfl,rfl,?_,fun i hi=>?_⟩
  ·show _≤(((Sort.ahead w m).setRow b cur2).heap++os).size
   rw [Array.size_append]; exact Nat.le_add_right _ _
  ·show (((Sort.ahead w m).setRow b cur2).heap++os)[i]?=_
   rw [Array.getElem?_append_left hi]
 have dO:((Sort.ahead w m).setRow b cur2).heap.size=w.heap.size:=by unfold World.setRow; simp [Sort.ahead]
 have eG:Ext R ((Sort.ahead w m).setRow b cur2) R (Sort.grow ((Sort.ahead w m).setRow b cur2) os):=Below.Rw Kd fun b' o hi=>by rw [dO]; exact hg.wf b' o hi
 have eW:=(eA.trans eS).trans eG
 generalize hWd:Sort.grow ((Sort.ahead w m).setRow b cur2) os=W at *
 have hWs:w.heap.size≤W.heap.size:=by rw [← dO]; exact Kd.size
 let E':Env:={ E with lo:=W.drawn }
 let R0:ak:=⟨R.I,[]⟩
 have m0:Mv R R0 0:=⟨fun _ _ h=>h,fun _ _ h=>absurd h (Nat.not_lt_zero _)⟩
 have K3:cW E' R0 W []:=⟨rfl,fun id go ro h1 _=>by simp [nth] at h1,fun i j ri rj b h1=>by simp [R0,nth] at h1,fun b o h=>Nat.lt_of_lt_of_le (hg.wf b o h) hWs,
  fun g cs pt=>((hg.bY g cs pt).mono eW).move m0 (b8 _ (E.mJ g cs pt)),Nat.le_refl _⟩
 have dM:∀ z:p.T,Rel R0 W (p.enc z) (.agg (fw p z).toArray):=fun z=>by
  obtain ⟨cs,nY⟩:=hC.agg z
  have hs:=hC.DS z
  unfold fw
  rw [nY] at hs ⊢
  refine Rel.agg (rZ hs) fun v hv=>?_
  obtain ⟨a,ha,rfl⟩:=List.mem_map.1 hv
  exact wu (hs a ha)
 have hc:=(hC.calls E' rfl rfl LX x y []).2 R0 W [.agg (fw p x).toArray,.agg (fw p y).toArray] K3 (.cons (dM x) (.one (dM y)))
 refine (callsIn_wide.1 hc).mono fun e w' he=>?_
 cases e with
 | panicked c=>exact he.elim
 | outgrown=>exact he.elim
 | returned cv=>
  obtain ⟨r,G',R1,⟨rfl,rfl⟩,hr,LN,st⟩:=he
  have FG:cv=.int .i64 (cf x y):=by cases hr; rfl
  subst FG
  have iy:∀ b,¬ Own R0 (fun _=>0) eu b:=fun b ho=>by
   obtain ⟨id,ro,h1,_⟩:=dS ho
   simp [R0,nth] at h1
  refine ⟨rfl,xy ⟨st.os,st.tape,st.output,st.size,fun i hi=>st.bo i hi (iy i)⟩ LN.lo⟩
theorem BV {p:aj} (hp:p.flat=true):∀ es:List AV,allFit p.fits es=true→es=(es.map p.bi).map p.enc
 | [],_=>rfl
 | a :: es,h=>by
  simp only [allFit,Bool.and_eq_true] at h
  rw [List.map_cons,List.map_cons,← BV hp es h.2,aj.iF hp h.1]
theorem wy (L:SlLaysF0.n6 E.P ρ) (hp:Plain E.P (ρ.f 6)) (hc:Plain E.P c) (aE:∀ w,(isAgg (ρ.t 24)).run E.P w=.ok true w) (zE:∀ w,(Go.sizeOf (ρ.t 24)).run E.P w=.ok k w) (hC:ot E.P E.bY c p k cf) (hE:E.lo=0) (xP:1≤k) {el:TypeId} (LX:E.gx=fun _=>false:=by rfl) :
  ∀ (args:List AV) (G:List GO) (r:AV) (G':List GO),wv p cf k el c args G=some (true,r,G')→cj E (ρ.f 6) args G (fun r' Cj=>r'=r∧Cj=G'):=by
 intro args G r G' h
 unfold wv at h
 split at h
 ·rename_i G1 oid f off sz1 len c'
  split at h
  ·rename_i es mH X7 hid
   split at h
   ·rename_i cB
    simp only [Bool.and_eq_true] at cB
    obtain ⟨⟨⟨⟨q1,q2⟩,q3⟩,q4⟩,q5⟩:=cB
    have q1:=Nat.eq_of_beq_eq_true q1
    have q2:=Nat.eq_of_beq_eq_true q2
    have q3:=Nat.eq_of_beq_eq_true q3
    have q4:=Nat.eq_of_beq_eq_true q4
    have q5:=Nat.eq_of_beq_eq_true q5
    subst q1; subst q2; subst q3; subst q4; subst q5
    injection h with h
    injection h with h1 h
    injection h with h2 h3
    subst h2; subst h3
    simp only [Bool.and_eq_true,decide_eq_true_eq] at h1
    obtain ⟨⟨⟨hf,E8⟩,hbig⟩,tu⟩:=h1
    refine ⟨hp,fun R w cs hg hl=>callsIn_wide.2 ?_⟩
    cases hl with
    | @cons _ cv _ _ r1 hl=>
    cases hl with
    | @cons _ fv _ _ r2 hl=>
    cases hl
    cases r2 with
    | fn x1 x2=>
    cases x1; cases x2
    by_cases he:es=[]
    ·subst he
     obtain ⟨pa,cap,rfl⟩:∃ pa cap,cv=.slice pa 0 cap:=by
      have E8:len=0:=E8
      subst E8
      cases r1 with
      | iq _ _=>exact ⟨_,_,rfl⟩
      | du _ _ _=>exact ⟨_,_,rfl⟩
     refine (AnyF.slices_SortFunc_none (P:=E.P) (ρ:=ρ) L pa cap _ w).mono fun e w' ⟨e1,e2⟩=>?_
     subst e1; subst e2
     have SS:fD p cf []=[]:=by simp [fD]
     have hG:ay G oid (.cO (fD p cf []) mH X7)=G:=by rw [SS]; exact jx hid
     rw [hG]
     exact ⟨.bg [],G,R,⟨rfl,rfl⟩,Rel.bg .nil,hg,Step.refl _ _ _ _⟩
    ·have oE:0 < es.length:=List.length_pos_iff.2 he
     cases r1 with
     | iq _ _=>omega
     | @du _ _ _ _ _ cap b o' ro bL dR gB=>
     subst hf; subst E8
     obtain ⟨b',c',cur,vs,rfl,g1,g2,g3,g4,g5,g6,g7,g8,g9⟩:=lR hg hid bL (fun k=>by subst k; exact dR)
     obtain ⟨rfl,Cf,uI⟩:=dR.2 rfl
     have nZ:o'=0:=by
      rcases uI with uI | uI
      ·rw [uI,Nat.zero_mul]
      ·omega
     subst nZ
     -- the elements by their leaves
     have zb:=BV hC.flat es tu
     generalize Ub:es.map p.bi=xs at zb
     have hlen:xs.length=es.length:=by rw [← Ub,List.length_map]
     have Xs:∀ (ys:List p.T),∀ a∈ar (ys.map p.enc),fV a=true:=fun ys=>by
      induction ys with
      | nil=>intro a ha; simp [ar] at ha
      | cons y ys ih=>
       intro a ha
       rw [List.map_cons,ar] at ha
       rcases List.mem_append.1 ha with ha | ha
       ·exact hC.DS y a ha
       ·exact ih a ha
     have VH:vs=xs.flatMap (fw p):=by
      rw [zb] at g7
      rw [yw (Xs xs) g7,pQ]
     have hd:(xs.toArray).size=es.length:=by simpa using hlen
     have WO:(flatK (fw p) mH xs.toArray).toList=vs:=by rw [yx (wx hC),VH]
     have Lt:(flatK (fw p) mH xs.toArray).size=es.length * mH:=by rw [size_flatK,hd]
     have iA:cur.toList.length=c' * mH:=by rw [show cur.toList.length=cur.size from Array.length_toList,g5]
     have hle:es.length * mH≤c' * mH:=Nat.mul_le_mul_right _ g3
     have hH:HoldsK (fw p) mH w b 0 xs.toArray:=by
      intro j hj
      rw [Lt] at hj
      refine ⟨?_,?_⟩
      ·have hj2:j < (flatK (fw p) mH xs.toArray).size:=by rw [Lt]; exact hj
       rw [getElem!_pos (flatK (fw p) mH xs.toArray) j hj2,Nat.zero_add,cell_of_row w b j cur X7 (0,0) g2]
       have h1:cur[j]?=vs[j]?:=by
        rw [← g9,List.getElem?_take,if_pos hj,← Array.getElem?_toList]
       rw [h1,← WO,Array.getElem?_toList,Array.getElem?_eq_getElem hj2]
       rfl
      ·unfold World.frozen?
       rw [g2]
       simp
     have hCL:=Kc LX hC hg g2 g6 xs.toArray.size
     have key:=AnyQ.slices_SortFunc_total L mH aE zE (fw p) (wx hC) (fun x v hv=>by
      obtain ⟨a,ha,rfl⟩:=List.mem_map.1 hv
      exact wu (hC.DS x a ha)) cf hC.swo c #[] b 0 cap xs.toArray w (lY hc) hCL hH (bc g2) (by rw [hd]; omega) hC.X6
     rw [hd] at key
     refine key.mono fun e w' ⟨e1,n,os,e2⟩=>?_
     subst e1
     -- the world behind
     have e3:putRowK (fw p) mH (Sort.ahead w n) b 0 (xs.mergeSort fun x y=>!(ltOf cf) y x).toArray=(Sort.ahead w n).setRow b (putCells (fun v=>v) 0 (flatK (fw p) mH (xs.mergeSort fun x y=>!(ltOf cf) y x).toArray) cur):=qT (w:=Sort.ahead w n) g2 _
     have e4:w'=Sort.grow ((Sort.ahead w n).setRow b (putCells (fun v=>v) 0 (flatK (fw p) mH (xs.mergeSort fun x y=>!(ltOf cf) y x).toArray) cur)) os:=by
      rw [e2]
      unfold sortWorldK
      rw [e3]
     clear e2 e3 key
     generalize Ud:(xs.mergeSort fun x y=>!(ltOf cf) y x)=ys at e4
     have XH:ys.length=es.length:=by rw [← Ud,List.length_mergeSort,hlen]
     have hso:fD p cf es=ys.map p.enc:=by unfold fD; rw [Ub,Ud]
     rw [hso]
     have hfy:(flatK (fw p) mH ys.toArray).toList=ys.flatMap (fw p):=by rw [yx (wx hC)]
     have WQ:(flatK (fw p) mH ys.toArray).size=es.length * mH:=by rw [size_flatK]; simp [XH]
     have SU:(putCells (fun v=>v) 0 (flatK (fw p) mH ys.toArray) cur).size=cur.size:=by simp [putCells]
     have FO:(putCells (fun v=>v) 0 (flatK (fw p) mH ys.toArray) cur).toList.take (es.length * mH)=ys.flatMap (fw p):=by
      rw [← hfy]
      apply List.ext_getElem?
      intro t
      rw [List.getElem?_take]
      by_cases ht:t < es.length * mH
      ·have h1:t < (flatK (fw p) mH ys.toArray).size:=by rw [WQ]; exact ht
       have h2:t < cur.size:=by rw [g5]; omega
       rw [if_pos ht,Array.getElem?_toList,Array.getElem?_toList,Array.getElem?_eq_getElem h1,Array.getElem?_eq_getElem (by rw [SU]; exact h2)]
       simp only [putCells,Array.getElem_mapIdx,Nat.zero_le,Nat.zero_add,h1,and_self,if_true,Nat.sub_zero]
       rw [getElem!_pos (flatK (fw p) mH ys.toArray) t h1]
      ·rw [if_neg ht,List.getElem?_eq_none (by rw [Array.length_toList,WQ]; omega)]
     generalize putCells (fun v=>v) 0 (flatK (fw p) mH ys.toArray) cur=cur2 at e4 SU FO
     have HU:∀ v∈ys.flatMap (fw p),v.oneCell'=true:=fun v hv=>by
      obtain ⟨y,_,hy⟩:=List.mem_flatMap.1 hv
      obtain ⟨a,ha,rfl⟩:=List.mem_map.1 hy
      exact wu (hC.DS y a ha)
     have oL:de mH (ys.map p.enc):=fun a ha=>by
      obtain ⟨y,_,rfl⟩:=List.mem_map.1 ha
      refine ⟨hC.size y,?_⟩
      obtain ⟨cs,nY⟩:=hC.agg y
      rw [nY]; rfl
     have dM:aG R w (ar (ys.map p.enc)) (ys.flatMap (fw p)):=by
      rw [← pQ]
      exact rZ (Xs ys)
     have cK:ba E R w (fun _=>0) ⟨[],[],G,[],none,0⟩ (⟨#[],[]⟩:Act):=
      ⟨hg,⟨fun k cs h=>by simp [dc] at h,fun k k' cs cs' h=>by simp [dc] at h⟩,fun i hi=>absurd rfl hi,rfl,trivial⟩
     obtain ⟨k1,k2⟩:=cK.CK (es':=ys.map p.enc) hid bL g2 (by rw [List.length_map,XH]) oL SU dM HU FO
     have Kd:Below (w.setRow b cur2).heap.size (w.setRow b cur2) w':=by
      rw [e4]
      refine ⟨rfl,rfl,rfl,?_,fun i hi=>?_⟩
      ·show _≤((w.setRow b cur2).heap++os).size
       rw [Array.size_append]; exact Nat.le_add_right _ _
      ·show ((w.setRow b cur2).heap++os)[i]?=_
       rw [Array.getElem?_append_left hi]
     exact ⟨.bg [],_,R,⟨rfl,rfl⟩,Rel.bg .nil,Below.IF Kd k1.g hE,k2.trans (Below.BB Kd k1.g.wf)⟩
   ·cases h
  ·cases h
 ·cases h
end
end Go.Am
namespace Go.Am
open Go Go.Sort
section
variable {α:Type} [DecidableEq α] {lt:α→α→Bool}
def Ld (lt:α→α→Bool) (l:List α):Prop:=l.Pairwise fun x y=>lt x y=true
omit [DecidableEq α] in
theorem zX (hw:SWO lt):∀ {a b:List α},Ld lt a→Ld lt b→(∀ x,x∈a↔x∈b)→a=b
 | [],[],_,_,_=>rfl
 | [],y :: b,_,_,h=>by have:=(h y).2 (by simp); simp at this
 | x :: a,[],_,_,h=>by have:=(h x).1 (by simp); simp at this
 | x :: a,y :: b,ha,hb,h=>by
  have ha':=List.pairwise_cons.1 ha
  have jy:=List.pairwise_cons.1 hb
  have xz:x=y:=by
   have h1:=(h x).1 (by simp)
   have h2:=(h y).2 (by simp)
   rcases List.mem_cons.1 h1 with h1 | h1
   ·exact h1
   ·rcases List.mem_cons.1 h2 with h2 | h2
    ·exact h2.symm
    ·have l1:=jy.1 x h1
     have l2:=ha'.1 y h2
     have:=hw.trans _ _ _ l1 l2
     rw [hw.irrefl] at this
     cases this
  subst xz
  congr 1
  refine zX hw ha'.2 jy.2 fun z=>?_
  constructor
  ·intro hz
   rcases List.mem_cons.1 ((h z).1 (by simp [hz])) with rfl | h2
   ·have:=ha'.1 z hz
    rw [hw.irrefl] at this
    cases this
   ·exact h2
  ·intro hz
   rcases List.mem_cons.1 ((h z).2 (by simp [hz])) with rfl | h2
   ·have:=jy.1 z hz
    rw [hw.irrefl] at this
    cases this
   ·exact h2
def wz (d:α) (l:List α):Nat→List α
 | 0=>[]
 | m+1=>if 0 < m∧l.getD m d=l.getD (m - 1) d then wz d l m else wz d l m++[l.getD m d]
theorem qU (d:α) (l:List α):∀ m,m≤l.length→(∀ k,0 < k→k < m→l.getD k d≠l.getD (k - 1) d)→wz d l m=l.take m
 | 0,_,_=>by simp [wz]
 | m+1,hm,h=>by
  have e:l.getD m d=l[m]:=by simp [show m < l.length by omega]
  unfold wz
  rw [if_neg (fun c=>h m c.1 (by omega) c.2),qU d l m (by omega) fun k h1 h2=>h k h1 (by omega),e,List.take_succ,List.getElem?_eq_getElem (by omega)]
  rfl
theorem zY (d:α) (l:List α):∀ m,m≤l.length→∀ x,x∈wz d l m↔x∈l.take m
 | 0,_,x=>by simp [wz]
 | m+1,hm,x=>by
  have e:l.getD m d=l[m]:=by simp [show m < l.length by omega]
  have ih:=zY d l m (by omega)
  have et:l.take (m+1)=l.take m++[l[m]]:=by rw [List.take_succ,List.getElem?_eq_getElem (by omega)]; rfl
  unfold wz
  rw [et]
  split
  ·rename_i hc
   rw [ih,List.mem_append,List.mem_singleton]
   constructor
   ·exact .inl
   ·rintro (h | rfl)
    ·exact h
    ·have e2:l.getD (m - 1) d=l[m - 1]:=by simp [show m - 1 < l.length by omega]
     rw [e,e2] at hc
     rw [hc.2,List.mem_take_iff_getElem]
     exact ⟨m - 1,by omega,rfl⟩
  ·rw [List.mem_append,List.mem_append,ih,e]
theorem E9 (hw:SWO lt) (ht:∀ x y,lt x y=false→lt y x=false→x=y) (d:α) (l:List α) (hs:l.Pairwise fun x y=>lt y x=false):∀ m,m≤l.length→Ld lt (wz d l m)
 | 0,_=>List.Pairwise.nil
 | m+1,hm=>by
  have ih:=E9 hw ht d l hs m (by omega)
  have e:l.getD m d=l[m]:=by simp [show m < l.length by omega]
  unfold wz
  split
  ·exact ih
  ·rename_i hc
   refine List.pairwise_append.2 ⟨ih,List.pairwise_singleton _ _,fun x hx y hy=>?_⟩
   rw [List.mem_singleton] at hy
   subst hy
   have qf:=(zY d l m (by omega) x).1 hx
   obtain ⟨k,hk,rfl⟩:=List.mem_take_iff_getElem.1 qf
   have Qm:k < m:=by omega
   rw [e] at hc ⊢
   have h1:lt l[m] l[k]=false:=List.pairwise_iff_getElem.1 hs k m (by omega) (by omega) Qm
   cases hl:lt l[k] l[m] with
   | true=>rfl
   | false=>
    exfalso
    have iZ:=ht _ _ hl h1
    -- the one before is between
    have h0:0 < m:=by omega
    have e2:l.getD (m - 1) d=l[m - 1]:=by simp [show m - 1 < l.length by omega]
    rw [e2] at hc
    apply hc
    refine ⟨h0,?_⟩
    have h2:lt l[m] l[m - 1]=false:=List.pairwise_iff_getElem.1 hs (m - 1) m (by omega) (by omega) (by omega)
    refine ht _ _ h2 ?_
    by_cases hkm:k=m - 1
    ·subst hkm; exact hl
    ·have h3:lt l[m - 1] l[k]=false:=List.pairwise_iff_getElem.1 hs k (m - 1) (by omega) (by omega) (by omega)
     rw [← iZ]
     exact h3
def mF (lt:α→α→Bool) (d:α) (k:α) (l:List α):List α:=
 let at_:=(l.takeWhile fun x=>lt x k).length
 if at_=l.length∨l.getD at_ d≠k then l.take at_++[k]++l.drop at_ else l
omit [DecidableEq α] in
theorem gf (p:α→Bool):∀ l:List α,(∀ x∈l.take (l.takeWhile p).length,p x=true)∧∀ h:(l.takeWhile p).length < l.length,p l[(l.takeWhile p).length]=false
 | []=>by simp
 | a :: l=>by
  obtain ⟨h1,h2⟩:=gf p l
  by_cases ha:p a=true
  ·simp only [List.takeWhile_cons,ha,if_true,List.length_cons,List.take_succ_cons,List.mem_cons,forall_eq_or_imp,true_and,List.getElem_cons_succ]
   exact ⟨h1,fun h=>h2 (by omega)⟩
  ·simp only [List.takeWhile_cons,if_neg ha,List.length_nil,List.take_zero]
   refine ⟨by simp,fun _=>?_⟩
   rw [List.getElem_cons_zero]
   exact Bool.eq_false_iff.2 ha
theorem Ke (d:α) (k:α) (l:List α) (x:α):x∈mF lt d k l↔x=k∨x∈l:=by
 unfold mF
 simp only
 have hle:(l.takeWhile fun x=>lt x k).length≤l.length:=(List.takeWhile_sublist _).length_le
 generalize (l.takeWhile fun x=>lt x k).length=a at *
 have e:x∈l↔x∈l.take a∨x∈l.drop a:=by rw [← List.mem_append,List.take_append_drop]
 split
 ·simp only [List.mem_append,List.mem_singleton]
  rw [e]
  constructor
  ·rintro ((h | h) | h)
   ·exact .inr (.inl h)
   ·exact .inl h
   ·exact .inr (.inr h)
  ·rintro (h | h | h)
   ·exact .inl (.inr h)
   ·exact .inl (.inl h)
   ·exact .inr h
 ·rename_i h
  rw [not_or,Decidable.not_not] at h
  constructor
  ·exact .inr
  ·rintro (rfl | h2)
   ·have hl:a < l.length:=by omega
    have e2:l.getD a d=l[a]:=by simp [hl]
    rw [e2] at h
    rw [← h.2]
    exact List.getElem_mem hl
   ·exact h2
theorem Kf (hw:SWO lt) (ht:∀ x y,lt x y=false→lt y x=false→x=y) (d:α) (k:α) (l:List α) (hl:Ld lt l):Ld lt (mF lt d k l):=by
 unfold mF
 simp only
 obtain ⟨h1,h2⟩:=gf (fun x=>lt x k) l
 have hle:(l.takeWhile fun x=>lt x k).length≤l.length:=(List.takeWhile_sublist _).length_le
 generalize (l.takeWhile fun x=>lt x k).length=a at *
 have hp:=List.pairwise_iff_getElem.1 hl
 split
 ·rename_i hc
  have FK:∀ y∈l.drop a,lt k y=true:=by
   intro y hy
   obtain ⟨j,hj,rfl⟩:=List.getElem_of_mem hy
   rw [List.length_drop] at hj
   rw [List.getElem_drop]
   have tz:a < l.length:=by omega
   have e2:l.getD a d=l[a]:=by simp [tz]
   have hka:lt k l[a]=true:=by
    cases hh:lt k l[a] with
    | true=>rfl
    | false=>
     have:=ht _ _ (h2 tz) hh
     rcases hc with hc | hc
     ·omega
     ·rw [e2] at hc; exact absurd this hc
   by_cases h0:j=0
   ·subst h0; simpa using hka
   ·exact hw.trans _ _ _ hka (hp a (a+j) tz (by omega) (by omega))
  unfold Ld
  rw [List.append_assoc,List.pairwise_append]
  refine ⟨hl.take,?_,fun x hx y hy=>?_⟩
  ·rw [List.singleton_append,List.pairwise_cons]
   exact ⟨FK,hl.drop⟩
  ·rw [List.singleton_append] at hy
   have hxk:=h1 x hx
   rcases List.mem_cons.1 hy with rfl | hy
   ·exact hxk
   ·exact hw.trans _ _ _ hxk (FK y hy)
 ·exact hl
def BW (lt:α→α→Bool) (d:α) (l:List α):List α:=l.foldl (fun s k=>mF lt d k s) []
theorem r7 (hw:SWO lt) (ht:∀ x y,lt x y=false→lt y x=false→x=y) (d:α) (l:List α):Ld lt (BW lt d l)∧∀ x,x∈BW lt d l↔x∈l:=by
 have gen:∀ (l s:List α),Ld lt s→Ld lt (l.foldl (fun s k=>mF lt d k s) s)∧∀ x,x∈l.foldl (fun s k=>mF lt d k s) s↔x∈s∨x∈l:=by
  intro l
  induction l with
  | nil=>intro s hs; exact ⟨hs,fun x=>by simp⟩
  | cons k l ih=>
   intro s hs
   rw [List.foldl_cons]
   obtain ⟨h1,h2⟩:=ih _ (Kf hw ht d k s hs)
   refine ⟨h1,fun x=>?_⟩
   rw [h2,Ke,List.mem_cons]
   constructor
   ·rintro ((h | h) | h)
    ·exact .inr (.inl h)
    ·exact .inl h
    ·exact .inr (.inr h)
   ·rintro (h | h | h)
    ·exact .inl (.inr h)
    ·exact .inl (.inl h)
    ·exact .inr h
 obtain ⟨h1,h2⟩:=gen l [] List.Pairwise.nil
 exact ⟨h1,fun x=>by rw [show BW lt d l=l.foldl (fun s k=>mF lt d k s) [] from rfl,h2]; simp⟩
theorem wA (d:α) (k:α) (l:List α):(mF lt d k l).length≤l.length+1:=by
 unfold mF
 simp only
 split
 ·simp; omega
 ·omega
omit [DecidableEq α] in
theorem BX (hw:SWO lt) (l:List α):(l.mergeSort fun x y=>!lt y x).Pairwise (fun x y=>lt y x=false)∧∀ x,x∈(l.mergeSort fun x y=>!lt y x)↔x∈l:=by
 refine ⟨?_,fun x=>(List.mergeSort_perm l _).mem_iff⟩
 have h:=List.pairwise_mergeSort (le:=fun x y=>!lt y x) (fun a b c h1 h2=>by
  simp only [Bool.not_eq_true'] at h1 h2 ⊢
  exact hw.ntrans _ _ _ h2 h1) (fun a b=>by
  simp only [Bool.or_eq_true,Bool.not_eq_true']
  cases h1:lt b a with
  | false=>exact .inl rfl
  | true=>
   right
   cases h2:lt a b with
   | false=>rfl
   | true=>
    have:=hw.trans _ _ _ h1 h2
    rw [hw.irrefl] at this
    cases this) l
 exact h.imp fun hab=>by simpa using hab
theorem SX (hw:SWO lt) (ht:∀ x y,lt x y=false→lt y x=false→x=y) (d:α) (l:List α):wz d (l.mergeSort fun x y=>!lt y x) l.length=BW lt d l:=by
 obtain ⟨s1,s2⟩:=BX hw l
 have hlen:(l.mergeSort fun x y=>!lt y x).length=l.length:=List.length_mergeSort _
 obtain ⟨i1,i2⟩:=r7 hw ht d l
 refine zX hw (E9 hw ht d _ s1 _ (Nat.le_of_eq hlen.symm)) i1 fun x=>?_
 rw [zY d _ _ (Nat.le_of_eq hlen.symm),List.take_of_length_le (Nat.le_of_eq hlen),s2,i2]
end
theorem yy {V X S:Type} {rd:V→Option (V ⊕ X)} (m:Nat) (E:S→Nat→V) (P:S→Nat→Prop) (Q:X→Prop)
  (h:∀ s k,k < m→P s k→∃ s',rd (E s k)=some (.inl (E s' (k+1)))∧P s' (k+1))
  (h0:∀ s,P s m→∃ x,rd (E s m)=some (.inr x)∧Q x) :
  ∀ n s k,k≤m→m < n+k→P s k→∃ x,az rd n (E s k)=some x∧Q x
 | 0,s,k,hk,hn,_=>by omega
 | n+1,s,k,hk,hn,hP=>by
  rw [bB]
  by_cases bP:k < m
  ·obtain ⟨s',e,hP'⟩:=h s k bP hP
   rw [e]
   exact yy m E P Q h h0 n s' (k+1) bP (by omega) hP'
  ·obtain rfl:k=m:=by omega
   obtain ⟨x,e,hQ⟩:=h0 s hP
   rw [e]
   exact ⟨x,rfl,hQ⟩
theorem yz {V X S:Type} {rd:V→Option (V ⊕ X)} (m:Nat) (E:S→Nat→V) (P:S→Nat→Prop) (Q:X→Prop)
  (h:∀ s k,k < m→P s k→(∃ s',rd (E s k)=some (.inl (E s' (k+1)))∧P s' (k+1))∨∃ x,rd (E s k)=some (.inr x)∧Q x)
  (h0:∀ s,P s m→∃ x,rd (E s m)=some (.inr x)∧Q x) :
  ∀ n s k,k≤m→m < n+k→P s k→∃ x,az rd n (E s k)=some x∧Q x
 | 0,s,k,hk,hn,_=>by omega
 | n+1,s,k,hk,hn,hP=>by
  rw [bB]
  by_cases bP:k < m
  ·rcases h s k bP hP with ⟨s',e,hP'⟩ | ⟨x,e,hQ⟩
   ·rw [e]
    exact yz m E P Q h h0 n s' (k+1) bP (by omega) hP'
   ·rw [e]
    exact ⟨x,rfl,hQ⟩
  ·obtain rfl:k=m:=by omega
   obtain ⟨x,e,hQ⟩:=h0 s hP
   rw [e]
   exact ⟨x,rfl,hQ⟩
theorem Fa {α:Type} (l:List α) (p:α→Bool) (d:α):(match (List.range l.length).find? fun j=>!p (l.getD j d) with | some j=>(j:Int) | none=>(l.length:Int))=((l.takeWhile p).length:Int):=by
 obtain ⟨h1,h2⟩:=gf p l
 have hle:(l.takeWhile p).length≤l.length:=(List.takeWhile_sublist _).length_le
 generalize (l.takeWhile p).length=a at *
 have aas:∀ j,j < a→p (l.getD j d)=true:=fun j hj=>by
  have e:l.getD j d=l[j]:=by simp [show j < l.length by omega]
  rw [e]
  exact h1 _ (List.mem_take_iff_getElem.2 ⟨j,by omega,rfl⟩)
 cases hf:(List.range l.length).find? fun j=>!p (l.getD j d) with
 | none=>
  rw [List.find?_eq_none] at hf
  have:¬ a < l.length:=fun bP=>by
   have e:l.getD a d=l[a]:=by simp [bP]
   have:=hf a (List.mem_range.2 bP)
   rw [e,h2 bP] at this
   simp at this
  show (l.length:Int)=(a:Int)
  omega
 | some j=>
  have hj:=List.mem_range.1 (List.mem_of_find?_eq_some hf)
  have hp:=List.find?_some hf
  have hja:a≤j:=by
   by_cases hc:a≤j
   ·exact hc
   ·have:=aas j (by omega)
    rw [this] at hp
    simp at hp
  have SY:=(List.find?_eq_some_iff_getElem.1 hf).2
  obtain ⟨i,hi,hij,mD⟩:=SY
  rw [List.getElem_range] at hij
  subst hij
  show (i:Int)=(a:Int)
  by_cases hc:i=a
  ·rw [hc]
  ·have hai:a < i:=by omega
   have:=mD a hai
   rw [List.getElem_range] at this
   have e:l.getD a d=l[a]:=by simp [show a < l.length by omega]
   rw [e,h2 (by omega)] at this
   simp at this
end Go.Am
