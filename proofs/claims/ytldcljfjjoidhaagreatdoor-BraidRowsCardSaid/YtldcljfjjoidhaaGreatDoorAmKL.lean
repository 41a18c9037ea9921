/- The abstract machine: strings.Split,strings.Cut and strconv.Itoa by their contracts. -/
import Derived.Test.YtldcljfjjoidhaaGreatDoorAmKK
import Derived.Lib.SplitLaws
import Derived.Lib.CutLaws
import Derived.Deep.Draws
import Derived.Lib.LaidTab
import Derived.Lib.ItoaNum
import Derived.Sort.Grow
import Derived.Shelf.SlSortCmp.NoneTotal
import Derived.Shelf.Sort.Plain
import Derived.Shelf.Slices.In.SortNone
import Derived.Shelf.Spec.SlicesGrow
set_option linter.all false
namespace Go.Am
open Go Go.RowKit
def hU (c:UInt8):List UInt8→List (List UInt8)
 | []=>[[]]
 | b :: s=>if b=c then [] :: hU c s else match hU c s with
  | []=>[[b]]
  | x :: xs=>(b :: x) :: xs
def yV (c:UInt8):List UInt8→List UInt8 × List UInt8 × Bool
 | []=>([],[],false)
 | b :: s=>if b=c then ([],s,true) else (b :: (yV c s).1,(yV c s).2.1,(yV c s).2.2)
theorem aaI (c b:UInt8) (l:List UInt8):[c].isPrefixOf (b :: l)=(c == b):=by simp [List.isPrefixOf]
theorem nu (c b:UInt8) (l:List UInt8):Lib.index (b :: l) [c]=if b=c then 0 else if Lib.index l [c]=-1 then -1 else Lib.index l [c]+1:=by
 rw [Lib.index,aaI]
 by_cases h:b=c
 ·subst h; simp
 ·have:(c == b)=false:=by simp; exact fun e=>h e.symm
  simp [this,h]
theorem tj (c:UInt8) (l:List UInt8):Lib.index l [c]=-1∨∃ i:Nat,Lib.index l [c]=i:=by
 rcases Lib.index_spec l [c] with ⟨h,_⟩ | ⟨i,h,_⟩
 ·exact .inl h
 ·exact .inr ⟨i,h⟩
theorem uo (c:UInt8):∀ l:List UInt8,Lib.index l [c]=-1↔l.count c=0
 | []=>by simp [Lib.index]
 | b :: l=>by
  rw [nu]
  by_cases h:b=c
  ·subst h; simp
  ·have ih:=uo c l
   rw [if_neg h,List.count_cons_of_ne h]
   rcases tj c l with h1 | ⟨i,h1⟩
   ·rw [if_pos h1]; simp [ih.1 h1]
   ·have cm:Lib.index l [c]≠-1:=by omega
    rw [if_neg cm]
    constructor
    ·intro h2; omega
    ·intro h2; exact absurd (ih.2 h2) cm
theorem pZ (c:UInt8):∀ l:List UInt8,l.count c=0→hU c l=[l]
 | [],_=>rfl
 | b :: l,h=>by
  have hb:b≠c:=fun e=>by subst e; simp at h
  rw [List.count_cons_of_ne hb] at h
  unfold hU
  rw [if_neg hb,pZ c l h]
theorem C4 (c:UInt8):∀ l:List UInt8,Lib.splitK [c] 0 (l.count c) l=hU c l
 | []=>by simp [Lib.splitK,hU]
 | b :: l=>by
  have ih:=C4 c l
  by_cases hb:b=c
  ·subst hb
   rw [List.count_cons_self,Lib.splitK,nu,if_pos rfl]
   simp [hU,ih]
  ·rw [List.count_cons_of_ne hb]
   cases hk:l.count c with
   | zero=>
    have:=pZ c l hk
    unfold hU
    rw [if_neg hb,this,Lib.splitK]
   | succ k=>
    have cm:Lib.index l [c]≠-1:=fun e=>by have:=(uo c l).1 e; omega
    obtain ⟨i,hi⟩:=(tj c l).resolve_left cm
    rw [hk,Lib.splitK,hi] at ih
    rw [Lib.splitK,nu,if_neg hb,if_neg cm,hi]
    have e1:(((i:Int) == -1))=false:=by simp
    have e2:(((i:Int)+1 == -1))=false:=by simp; omega
    rw [e1] at ih
    rw [e2]
    unfold hU
    rw [if_neg hb,← ih]
    have e3:((i:Int)+1).toNat=i+1:=by omega
    simp [e3]
theorem Rn (c:UInt8):∀ l:List UInt8,Lib.cut l [c]=yV c l
 | []=>by simp [Lib.cut,Lib.index,yV]
 | b :: l=>by
  have ih:=Rn c l
  unfold Lib.cut at ih ⊢
  rw [nu]
  unfold yV
  by_cases hb:b=c
  ·rw [if_pos hb]; simp [hb]
  ·rw [if_neg hb,if_neg hb,← ih]
   rcases tj c l with h | ⟨i,h⟩
   ·rw [if_pos h,h]; simp
   ·have cm:Lib.index l [c]≠-1:=by omega
    have h1:(0:Int)≤(i:Int)+1:=by omega
    have h2:(0:Int)≤(i:Int):=by omega
    have e3:((i:Int)+1).toNat=i+1:=by omega
    rw [if_neg cm,h,if_pos h1,if_pos h2,e3]
    simp
theorem KL (c:UInt8) (s:List UInt8):(Lib.splitB ⟨#[c]⟩ 0 (Lib.countB ⟨⟨s⟩⟩ ⟨#[c]⟩) ⟨⟨s⟩⟩).map (·.data.toList)=hU c s:=by
 rw [Lib.splitB_data]
 show Lib.splitK [c] 0 (Lib.count s [c]) s=_
 rw [Lib.count_one]
 exact C4 c s
def Bg (n:Int):Option (List UInt8):=bif decide (-9223372036854775808≤n)&&decide (n≤9223372036854775807) then some (Lib.itoa n) else none
def E1:aZ:=⟨p1 (.int .i64),.str,Bg⟩
def TB:List UInt8 × List UInt8→Option (List (List UInt8))
 | (s,[c])=>bif decide (s.length < 4294967281) then some (hU c s) else none
 | _=>none
def aaJ:List UInt8 × List UInt8→Option (List UInt8 × List UInt8 × Bool)
 | (s,[c])=>bif decide (s.length < 4294967281) then some (yV c s) else none
 | _=>none
def E2:aZ:=⟨p2 .str .str,.list 1 .str,TB⟩
def TC:aZ:=⟨p2 .str .str,.bh (.cons .str (.cons .str (.cons .bool .nil))),aaJ⟩
section
variable {E:Env} {R:ai} {w w':World}
theorem aW.aaK {g:FuncId} {args:List AV} {xs:List (List UInt8)} {t:TypeId} (hp:Plain E.P g) (hm:xs.length≤140737488355328)
  (h:∀ (R:ai) (w:World) (cs:List Value),dq E R w []→aM R w args cs→Calls E.P g ⟨cs⟩ w (fun e w'=>e=.returned (.slice (some ⟨w.heap.size,0,none⟩) xs.length xs.length)∧w'=w.alloc (.cells ((xs.map fun l=>Value.string ⟨⟨l⟩⟩).toArray) t)))
  (pN:aH 0 args=true):aW E g args (fun r'=>r'=(aO.list 1 .str).enc xs):=fun G=>
 ⟨hp,fun R w cs hg hl=>by
  let R0:ai:=⟨R.I,[]⟩
  have m0:Mv R R0 0:=⟨fun _ _ h=>h,fun _ _ h=>absurd h (Nat.not_lt_zero _)⟩
  have MH:dq E R0 w []:=⟨rfl,fun id go ro h1 _=>by simp [nth] at h1,fun i j ri rj b h1=>by simp [R0,nth] at h1,hg.wf,fun g cs qf=>(hg.b6 g cs qf).move m0 (cp _ (E.nN g cs qf)),hg.lo⟩
  refine callsIn_wide.2 ((h R0 w cs MH (hl.move m0 pN)).mono fun e w' ⟨he,hw⟩=>?_)
  subst he; subst hw
  let R':ai:=R.all w.heap.size
  have e1:=sN (R:=R) hg.wf (.cells ((xs.map fun l=>Value.string ⟨⟨l⟩⟩).toArray) t)
  have e:Ext R w R' (w.alloc (.cells ((xs.map fun l=>Value.string ⟨⟨l⟩⟩).toArray) t)):=e1.trans (oX R _ _)
  have old:∀ b,b < w.heap.size→(w.alloc (.cells ((xs.map fun l=>Value.string ⟨⟨l⟩⟩).toArray) t)).heap[b]?=w.heap[b]?:=fun b hb=>heap_alloc_old w _ hb
  have im:∀ b o,b < w.heap.size→R'.I b o→R.I b o:=fun b o hb hi=>hi.resolve_right (by omega)
  refine ⟨_,G,R',⟨rfl,rfl⟩,?_,?_,⟨e,rfl,rfl,rfl,by simp,fun b hb _=>old b hb,fun b hb ho=>ho,fun b o hi hb _=>im b o hb hi⟩⟩
  ·have rk:(w.alloc (.cells ((xs.map fun l=>Value.string ⟨⟨l⟩⟩).toArray) t)).heap[w.heap.size]?=some (.cells ((xs.map fun l=>Value.string ⟨⟨l⟩⟩).toArray) t):=heap_alloc_new w _
   have key:∀ (ys:List (List UInt8)) (o:Nat),(∀ (j:Nat) l,ys[j]?=some l→xs[o+j]?=some l)→gk R' (w.alloc (.cells ((xs.map fun l=>Value.string ⟨⟨l⟩⟩).toArray) t)) w.heap.size o 1 (ys.map (fun l=>AV.str l)):=by
    intro ys
    induction ys with
    | nil=>intro o _; exact .nil
    | cons l ys ih=>
     intro o hj
     refine .cons rfl rfl rfl (.cons (c:=.string ⟨⟨l⟩⟩) ?_ rfl (.inr rfl) (.str l) .nil) (ih (o+1) fun j l' h'=>by
      have:=hj (j+1) l' (by simpa using h')
      rwa [show o+(j+1)=o+1+j by omega] at this)
     have h0:=hj 0 l rfl
     rw [Nat.add_zero] at h0
     simp only [World.cell?,rk]
     simp [h0]
   have hk:=key xs 0 (fun j l h=>by rw [Nat.zero_add]; exact h)
   exact Rel.list (k:=.jP) (sz:=1) (es:=xs.map (fun l=>AV.str l)) hk (by rw [List.length_map]) (Nat.le_refl _) trivial
  ·exact hg.cq e rfl (fun b hb=>old b (hg.bS hb)) (fun b o hb hi=>im b o (hg.bS hb) hi) (fun b o hi=>by
    rcases hi with hi | hi
    ·have:=hg.wf b o hi; simp; omega
    ·subst hi; simp) (fun hd=>hd)⟩
theorem KM {g gm:FuncId} {m:Int} {t:TypeId} (hp:Plain E.P g) (hg:E.b6 gm=some [.int .i64 m])
  (h:∀ (s:ByteArray) (c:UInt8) (w:World),s.size < 4294967281→w.cell? ⟨gm,0,none⟩=some (.int .i64 m)→Calls E.P g #[.string s,.string ⟨#[c]⟩] w fun e w'=>
   e=.returned (.slice (some ⟨w.heap.size,0,none⟩) (Lib.countB s ⟨#[c]⟩+1) (Lib.countB s ⟨#[c]⟩+1))∧w'=w.alloc (.cells ((Lib.splitB ⟨#[c]⟩ 0 (Lib.countB s ⟨#[c]⟩) s).map Value.string).toArray t)):ap E g E2:=fun x y hT=>by
 obtain ⟨s,c⟩:=x
 match c,hT with
 | [],hT=>cases hT
 | _ :: _ :: _,hT=>cases hT
 | [c],hT=>
  have hT:(bif decide (s.length < 4294967281) then some (hU c s) else none)=some y:=hT
  obtain ⟨h1,h2⟩:s.length < 4294967281∧hU c s=y:=by
   cases hd:decide (s.length < 4294967281) with
   | true=>rw [hd] at hT; exact ⟨of_decide_eq_true hd,Option.some.inj hT⟩
   | false=>rw [hd] at hT; cases hT
  subst h2
  have hB:=KL c s
  have nH:=Lib.splitB_all ⟨#[c]⟩ (Nat.le_refl 1) 0 _ ⟨⟨s⟩⟩ rfl
  have hlen:(hU c s).length=Lib.countB ⟨⟨s⟩⟩ ⟨#[c]⟩+1:=by rw [← hB,List.length_map,nH]
  have iz:=Lib.countB_le ⟨#[c]⟩ (Nat.le_refl 1) s.length ⟨⟨s⟩⟩ (by show s.length≤_; exact Nat.le_refl _)
  have iz:Lib.countB ⟨⟨s⟩⟩ ⟨#[c]⟩≤s.length:=iz
  refine aW.aaK (t:=t) hp (by rw [hlen]; omega) (fun R w cs hr hl=>?_) rfl
  have zx:dP R w gm 0 [.int .i64 m]:=(hr.b6 gm _ hg).1
  have hm:w.cell? ⟨gm,0,none⟩=some (.int .i64 m):=by
   cases zx with
   | cons a1 _ _ a4 _=>cases a4; exact a1
  cases hl with
  | cons a1 hl=>
  cases hl with
  | cons a2 hl=>
  cases hl
  cases a1; cases a2
  refine (h ⟨⟨s⟩⟩ c w (by show s.length < _; exact h1) hm).mono ?_
  rintro e w' ⟨rfl,rfl⟩
  have e3:(Lib.splitB ⟨#[c]⟩ 0 (Lib.countB ⟨⟨s⟩⟩ ⟨#[c]⟩) ⟨⟨s⟩⟩).map Value.string=(hU c s).map fun l=>Value.string ⟨⟨l⟩⟩:=by
   rw [← hB,List.map_map]; rfl
  rw [hlen,e3]
  exact ⟨rfl,rfl⟩
theorem TD {g gm:FuncId} {m:Int} (hp:Plain E.P g) (hg:E.b6 gm=some [.int .i64 m]) (hE:E.lo=0)
  (h:∀ (s:ByteArray) (c:UInt8) (w:World),s.size < 4294967281→w.cell? ⟨gm,0,none⟩=some (.int .i64 m)→Calls E.P g #[.string s,.string ⟨#[c]⟩] w fun e w'=>
   e=.returned (.tuple #[.string ⟨(Lib.cut s.data.toList [c]).1.toArray⟩,.string ⟨(Lib.cut s.data.toList [c]).2.1.toArray⟩,.bool (Lib.cut s.data.toList [c]).2.2])∧∃ n,w'=w.drewN n):ap E g TC:=fun x y hT=>by
 obtain ⟨s,c⟩:=x
 match c,hT with
 | [],hT=>cases hT
 | _ :: _ :: _,hT=>cases hT
 | [c],hT=>
  have hT:(bif decide (s.length < 4294967281) then some (yV c s) else none)=some y:=hT
  obtain ⟨h1,h2⟩:s.length < 4294967281∧yV c s=y:=by
   cases hd:decide (s.length < 4294967281) with
   | true=>rw [hd] at hT; exact ⟨of_decide_eq_true hd,Option.some.inj hT⟩
   | false=>rw [hd] at hT; cases hT
  subst h2
  refine fun G=>⟨hp,fun R w cs hr hl=>callsIn_wide.2 ?_⟩
  have zx:dP R w gm 0 [.int .i64 m]:=(hr.b6 gm _ hg).1
  have hm:w.cell? ⟨gm,0,none⟩=some (.int .i64 m):=by
   cases zx with
   | cons a1 _ _ a4 _=>cases a4; exact a1
  have VC:=hr.wf
  cases hl with
  | cons a1 hl=>
  cases hl with
  | cons a2 hl=>
  cases hl
  cases a1; cases a2
  refine (h ⟨⟨s⟩⟩ c w (by show s.length < _; exact h1) hm).mono ?_
  rintro e w' ⟨rfl,n,rfl⟩
  have hb:Below w.heap.size w (w.drewN n):=⟨rfl,rfl,rfl,Nat.le_refl _,fun _ _=>rfl⟩
  refine ⟨_,G,R,⟨rfl,rfl⟩,?_,Below.HK hb hr hE,Below.zU hb VC⟩
  have e4:Lib.cut (⟨⟨s⟩⟩:ByteArray).data.toList [c]=yV c s:=Rn c s
  rw [e4]
  exact Rel.bh (.cons (.str _) (.cons (.str _) (.cons (.bool _) .nil)))
theorem C5 {R:ai} {w:World} {b:Nat}:∀ {zs:List Int} {k:IntKind} {o:Nat},dP R w b o (zs.map fun z=>AV.int k z)→∀ (j:Nat) z,zs[j]?=some z→w.cell? ⟨b,o+j,none⟩=some (.int k z)
 | [],_,_,_,j,z,h=>by simp at h
 | a :: zs,k,o,.cons h1 h2 h3 h4 t,0,z,h=>by
  cases h4
  simp only [List.getElem?_cons_zero,Option.some.injEq] at h
  subst h
  exact h1
 | a :: zs,k,o,.cons h1 h2 h3 h4 t,j+1,z,h=>by
  have:=C5 t j z (by simpa using h)
  rwa [show o+(j+1)=o+1+j by omega]
theorem jG.yy {nm:String} {gt:Nat} {k:IntKind} {zs:List Int} (hn:E.P.globalNamed nm=some gt) (hx:E.gx gt=true) (h0:1≤zs.length) (h:jG E R w gt (zs.map fun z=>AV.int k z)):Lib.TabIs E.P w nm k zs:=by
 obtain ⟨h1,h2⟩:=h
 obtain ⟨_,h2⟩:=h2 hx
 rw [List.length_map] at h2
 have hg:=C5 h1
 unfold Lib.TabIs World.var?
 rw [hn]
 have Vj:=hg 0 zs[0] (by simp [List.getElem?_eq_getElem h0])
 cases hb:w.heap[gt]? with
 | none=>simp [World.cell?,hb] at Vj
 | some ob=>
  cases ob with
  | cells cs t fr=>
   have hc:∀ j,w.cell? ⟨gt,j,none⟩=cs[j]?:=fun j=>by simp [World.cell?,hb]
   have e:cs=(zs.map fun z=>Value.int k z).toArray:=by
    apply Array.ext'
    rw [List.toList_toArray]
    apply List.ext_getElem?
    intro j
    rw [Array.getElem?_toList,List.getElem?_map]
    rcases Nat.lt_or_ge j zs.length with hj | hj
    ·have:=hg j zs[j] (by simp [List.getElem?_eq_getElem hj])
     rw [Nat.zero_add,hc] at this
     rw [this,List.getElem?_eq_getElem hj]; rfl
    ·have hz:zs[j]?=none:=List.getElem?_eq_none hj
     rw [hz,Option.map_none]
     rw [hc] at h2
     have hs:cs.size≤zs.length:=by simpa using h2
     exact Array.getElem?_eq_none (by omega)
   show (match w.heap[gt]? with | some (.cells cs _ _)=>some cs | _=>none)=_
   rw [hb,e]
  | _=>simp [World.cell?,hb] at Vj
theorem KN {g gt:FuncId} {nm:String} (hp:Plain E.P g) (hg:E.b6 gt=some (Lib.pow10Tab.map fun z=>AV.int .u64 z)) (hx:E.gx gt=true) (hn:E.P.globalNamed nm=some gt) (hE:E.lo=0)
  (h:∀ (n:Int) (w:World),-9223372036854775808≤n→n≤9223372036854775807→Lib.TabIs E.P w nm .u64 Lib.pow10Tab→Calls E.P g #[.int .i64 n] w fun e w'=>
   e=.returned (.string ⟨(Lib.itoa n).toArray⟩)∧∃ k os,w'=Sort.grow (w.drewN k) os):ap E g E1:=fun x y hT=>by
 obtain ⟨n,rfl⟩:∃ n:Int,(show E1.ps.T from n)=x:=⟨x,rfl⟩
 have hT:(bif decide (-9223372036854775808≤n)&&decide (n≤9223372036854775807) then some (Lib.itoa n) else none)=some y:=hT
 obtain ⟨h1,h2⟩:=CX.cond_some' hT
 subst h2
 rw [Bool.and_eq_true] at h1
 have a:=of_decide_eq_true h1.1
 have b:=of_decide_eq_true h1.2
 refine fun G=>⟨hp,fun R w cs hr hl=>callsIn_wide.2 ?_⟩
 have Bc:=(hr.b6 gt _ hg).yy hn hx (by rw [Lib.pow10Tab_length]; decide)
 have VC:=hr.wf
 cases hl with
 | cons a1 hl=>
 cases hl
 cases a1
 refine (h n w a b Bc).mono ?_
 rintro e w' ⟨rfl,k,os,rfl⟩
 have hb:Below w.heap.size w (Sort.grow (w.drewN k) os):=⟨rfl,rfl,rfl,by simp [Sort.grow,World.drewN],fun i hi=>by
  show (w.heap++os)[i]?=_
  rw [Array.getElem?_append_left hi]⟩
 exact ⟨_,G,R,⟨rfl,rfl⟩,Rel.str _,Below.HK hb hr hE,Below.zU hb VC⟩
end
end Go.Am
namespace Go.Am
open Go
section
variable {κ ν:Type} [DecidableEq κ]
def getM (k:κ):List (κ × ν)→Option ν
 | []=>none
 | (k',v) :: m=>if k=k' then some v else getM k m
def nK (k:κ) (v:ν):List (κ × ν)→List (κ × ν)
 | []=>[(k,v)]
 | (k',v') :: m=>if k=k' then (k,v) :: m else (k',v') :: nK k v m
theorem xF (k k':κ) (v:ν):∀ m:List (κ × ν),getM k' (nK k v m)=if k'=k then some v else getM k' m
 | []=>rfl
 | (k1,v1) :: m=>by
  unfold nK
  by_cases h:k=k1
  ·subst h
   rw [if_pos rfl]
   by_cases h2:k'=k
   ·simp [getM,h2]
   ·simp [getM,h2]
  ·rw [if_neg h]
   by_cases h2:k'=k1
   ·subst h2
    have h3:¬ k'=k:=fun e=>h e.symm
    simp [getM,h3]
   ·simp only [getM,if_neg h2]
    exact xF k k' v m
theorem C8 {k:κ} {v:ν}:∀ {m:List (κ × ν)},getM k m=none→nK k v m=m++[(k,v)]
 | [],_=>rfl
 | (k1,v1) :: m,h=>by
  unfold getM at h
  split at h
  ·cases h
  ·rename_i cm
   unfold nK
   rw [if_neg cm,C8 h]
   rfl
theorem zV {k:κ} {v:ν}:∀ {m:List (κ × ν)},(nK k v m).map Prod.fst=if k∈m.map Prod.fst then m.map Prod.fst else m.map Prod.fst++[k]
 | []=>by simp [nK]
 | (k1,v1) :: m=>by
  unfold nK
  by_cases h:k=k1
  ·simp [h]
  ·rw [if_neg h,List.map_cons,zV (m:=m)]
   by_cases h2:k∈m.map Prod.fst
   ·have:k∈((k1,v1) :: m).map Prod.fst:=by simp only [List.map_cons,List.mem_cons]; exact .inr h2
    rw [if_pos h2,if_pos this]
    rfl
   ·have:¬ k∈((k1,v1) :: m).map Prod.fst:=by
     simp only [List.map_cons,List.mem_cons,not_or]; exact ⟨h,h2⟩
    rw [if_neg h2,if_neg this]
    rfl
theorem zW (k:κ) (l:List κ):getM k (l.map fun x=>(x,true))=if k∈l then some true else none:=by
 induction l with
 | nil=>rfl
 | cons a l ih=>
  simp only [List.map_cons,getM,ih,List.mem_cons]
  by_cases h:k=a
  ·simp [h]
  ·simp [h]
structure hY (ek:EK) (nk:κ→AV) (nv:ν→AV) (nM:κ × ν→AV):Prop where
 key:∀ a b,Dz ek (nk a) (nk b)=some (decide (a=b))
 pair:∀ x,nM x=.agg [nk x.1,nv x.2]
 exact:∀ x,(nM x).exact=true
variable {ek:EK} {nk:κ→AV} {nv:ν→AV} {nM:κ × ν→AV} (h:hY ek nk nv nM)
include h
theorem hY.ent:∀ m:List (κ × ν),ab (List.map nM m)=m.map fun x=>(nk x.1,nv x.2)
 | []=>rfl
 | x :: m=>by
  rw [List.map_cons,h.pair,ab,hY.ent m]
  rfl
theorem hY.keys (k:κ):∀ m:List (κ × ν),dZ ek (nk k) (ab (List.map nM m))=true
 | []=>rfl
 | x :: m=>by
  have:=hY.keys k m
  rw [List.map_cons,h.pair,ab]
  show ((Dz ek (nk k) (nk x.1)).isSome&&dZ ek (nk k) (ab (List.map nM m)))=true
  rw [this,h.key]
  rfl
theorem hY.get (k:κ):∀ m:List (κ × ν),fj ek (nk k) (ab (List.map nM m))=(getM k m).map nv
 | []=>rfl
 | x :: m=>by
  have ih:=hY.get k m
  rw [List.map_cons,h.pair,ab]
  show (bif uX ek (nk k) (nk x.1) then some (nv x.2) else fj ek (nk k) (ab (List.map nM m)))=(if k=x.1 then some x.2 else getM k m).map nv
  unfold uX
  rw [h.key,ih]
  by_cases e:k=x.1
  ·simp [e]
  ·simp [e]
theorem hY.getD (k:κ) (z:ν) (m:List (κ × ν)):cM ek (nk k) (nv z) (ab (List.map nM m))=nv ((getM k m).getD z):=by
 unfold cM
 rw [h.get]
 cases getM k m <;> rfl
theorem hY.put (k:κ) (v:ν):∀ m:List (κ × ν),eN ek (nk k) (nv v) (ab (List.map nM m))=ab (List.map nM (nK k v m))
 | []=>by
  show [(nk k,nv v)]=ab [nM (k,v)]
  rw [h.pair]
  rfl
 | x :: m=>by
  have ih:=hY.put k v m
  rw [List.map_cons,h.pair,ab]
  show (bif uX ek (nk k) (nk x.1) then (nk k,nv v) :: ab (List.map nM m) else (nk x.1,nv x.2) :: eN ek (nk k) (nv v) (ab (List.map nM m)))=ab (List.map nM (if k=x.1 then (k,v) :: m else (x.1,x.2) :: nK k v m))
  unfold uX
  rw [h.key,ih]
  by_cases e:k=x.1
  ·simp only [e,decide_true,cond_true,if_true,List.map_cons]
   rw [h.pair (x.1,v),ab]
   rfl
  ·simp only [e,decide_false,cond_false,if_false,List.map_cons]
   rw [h.pair (x.1,x.2),ab]
   rfl
theorem hY.cells:∀ m:List (κ × ν),an (ab (List.map nM m))=List.map nM m
 | []=>rfl
 | x :: m=>by
  have ih:=hY.cells m
  rw [List.map_cons,h.pair,ab]
  show AV.agg [nk x.1,nv x.2] :: an (ab (List.map nM m))=_
  rw [ih]
theorem hY.bA (m:List (κ × ν)):Go.Am.bA (ab (List.map nM m))=true:=by
 unfold Go.Am.bA
 rw [h.cells]
 induction m with
 | nil=>rfl
 | cons x m ih=>rw [List.map_cons,fW,ih,h.exact]; rfl
end
theorem Pz (a b:Int × Int):Dz (.st (.cons 0 1 false .int (.cons 1 1 false .int .nil))) (.agg [.int .i64 a.1,.int .i64 a.2]) (.agg [.int .i64 b.1,.int .i64 b.2])=some (decide (a=b)):=by
 obtain ⟨a1,a2⟩:=a
 obtain ⟨b1,b2⟩:=b
 have e:k9 (.st (.cons 0 1 false .int (.cons 1 1 false .int .nil))) (.agg [.int .i64 a1,.int .i64 a2]) (.agg [.int .i64 b1,.int .i64 b2])=some ((a1 == b1)&&((a2 == b2)&&true)):=rfl
 unfold Dz
 rw [e]
 by_cases h1:a1=b1 <;> by_cases h2:a2=b2
 ·subst h1; subst h2
  simp [EK.wide,lm,lW,nO]
 all_goals simp [h1,h2]
end Go.Am
namespace Go.Am
open Go
theorem xG (ek:EK) (k v x:AV):∀ es:List (AV × AV),jD (eN ek k v es) (iq ek k es) x=eN ek k x es
 | []=>rfl
 | (k',v') :: l=>by
  unfold eN iq
  cases h:uX ek k k' with
  | true=>rfl
  | false=>
   simp only [cond_false,jD]
   rw [xG ek k v x l]
theorem KZ (ek:EK) (k v:AV):∀ es:List (AV × AV),iq ek k es < (eN ek k v es).length
 | []=>Nat.zero_lt_one
 | (k',v') :: l=>by
  unfold eN iq
  cases h:uX ek k k' with
  | true=>exact Nat.zero_lt_succ _
  | false=>
   simp only [cond_false,List.length_cons]
   have:=KZ ek k v l
   omega
theorem E5 {V X:Type} (rd:(V→Option X)→V→Option X) (n:Nat) (v:V):mo rd (n+1) v=rd (mo rd n) v:=rfl
def HP (L:List Nat):List Int:=L.map fun n:Nat=>(n:Int)
theorem K0 {α:Type} (f:α→AV × AV) (m:List α) {i:Nat} (h:i < m.length):dU (m.map f) i=f m[i]:=by
 unfold dU
 rw [a8,List.getElem?_map,List.getElem?_eq_getElem h]
 rfl
end Go.Am
namespace Go.Am
open Go Go.RowKit Go.Proofs Go.Shelf Go.Sort
def Dd:AV→Value
 | .bool b=>.bool b
 | .int k n=>.int k n
 | .str l=>.string ⟨⟨l⟩⟩
 | _=>.bool false
theorem Ll {R:ai} {w:World} {a:AV} {c:Value} (ha:gi a=true) (h:Rel R w a c):c=Dd a:=by
 cases a <;> first | (cases ha; done) | (cases h; rfl)
theorem Lm {R:ai} {w:World} {a:AV} (ha:gi a=true):Rel R w a (Dd a):=by
 cases a <;> first | (cases ha; done) | constructor
theorem tk {R:ai} {w:World}:∀ {l:List AV} {vs:List Value},(∀ a∈l,gi a=true)→aM R w l vs→vs=l.map Dd
 | [],_,_,h=>by cases h; rfl
 | a :: l,_,hs,.cons h t=>by
  rw [Ll (hs a (by simp)) h,tk (fun b hb=>hs b (by simp [hb])) t]
  rfl
theorem pq {R:ai} {w:World}:∀ {l:List AV},(∀ a∈l,gi a=true)→aM R w l (l.map Dd)
 | [],_=>.nil
 | a :: l,hs=>.cons (Lm (hs a (by simp))) (pq fun b hb=>hs b (by simp [hb]))
theorem xM {a:AV} (ha:gi a=true):(Dd a).oneCell'=true:=by
 cases a <;> first | (cases ha; done) | rfl
structure pt (P:Program) (b6:Nat→Option (List AV)) (c:FuncId) (p:aO) (k:Nat) (cf:p.T→p.T→Int):Prop where
 flat:p.flat=true
 size:∀ x,(p.enc x).cells.length=k
 E9:∀ x,∀ a∈(p.enc x).cells,gi a=true
 agg:∀ x,∃ cs,p.enc x=.agg cs
 calls:∀ (E:Env),E.P=P→E.b6=b6→E.gx=(fun _=>false)→∀ x y,aW E c [p.enc x,p.enc y] (fun r=>r=.int .i64 (cf x y))
 swo:SWO (ltOf cf)
 Zg:∀ x y,(ltOf cf) x y=false→(ltOf cf) y x=false→x=y
def ms (p:aO) (cf:p.T→p.T→Int) (es:List AV):List AV:=(((es.map p.bo).mergeSort fun x y=>!(ltOf cf) y x)).map p.enc
def xN (p:aO) (cf:p.T→p.T→Int) (sz:Nat) (el:TypeId) (c:FuncId):List AV→List GO→Option (Bool × AV × List GO)
 | [.dX id f off XN len,.fn c' [] []],G=>match nth G id with
  | some (.dG es mJ PY)=>if Nat.beq c c'&&Nat.beq off 0&&Nat.beq XN sz&&Nat.beq mJ sz&&Nat.beq PY el then
    some (decide (f=es.length)&&decide (len=es.length)&&decide (es.length≤140737488355328)&&allFit p.fits es,.bh [],aD G id (.dG (ms p cf es) sz el)) else none
  | _=>none
 | _,_=>none
theorem yX {W W':World} (h:Below W.heap.size W W') (hd:W.drawn≤W'.drawn):∃ q os,W'=Sort.grow (W.drewN q) os:=by
 refine ⟨W'.drawn - W.drawn,W'.heap.extract W.heap.size W'.heap.size,?_⟩
 have hh:W'.heap=W.heap++W'.heap.extract W.heap.size W'.heap.size:=by
  apply Array.ext_getElem?
  intro i
  by_cases hi:i < W.heap.size
  ·rw [Array.getElem?_append_left hi]
   exact h.block i hi
  ·rw [Array.getElem?_append_right (by omega),Array.getElem?_extract]
   have hs:=h.size
   by_cases hj:i < W'.heap.size
   ·rw [if_pos (by omega)]
    congr 1
    omega
   ·rw [if_neg (by omega),Array.getElem?_eq_none (by omega)]
 obtain ⟨hp,tp,dr,os,out⟩:=W'
 have h1:=h.os
 have h2:=h.tape
 have h3:=h.output
 simp only at hh h1 h2 h3 hd
 unfold Sort.grow World.drewN
 simp only
 rw [← hh,h1,h2,h3]
 congr 1
 omega
def gw (p:aO) (x:p.T):List Value:=((p.enc x).cells).map Dd
theorem oK {α:Type} [Inhabited α] {enc:α→List Value} {k:Nat} (hk:∀ x,(enc x).length=k):∀ (l:List α) (t:Nat),t < l.length * k→(l.flatMap enc)[t]?=some ((enc l[t / k]!)[t % k]!)
 | [],t,h=>by simp at h
 | x :: l,t,h=>by
  have G6:0 < k:=by
   rcases Nat.eq_zero_or_pos k with h0 | h0
   ·rw [h0] at h; omega
   ·exact h0
  rw [List.flatMap_cons]
  by_cases ht:t < k
  ·rw [List.getElem?_append_left (by rw [hk]; exact ht),Nat.div_eq_of_lt ht,Nat.mod_eq_of_lt ht]
   have hl:t < (enc x).length:=by rw [hk]; exact ht
   simp [hl]
  ·have ht:k≤t:=Nat.le_of_not_lt ht
   rw [List.getElem?_append_right (by rw [hk]; exact ht),hk]
   have h':t - k < l.length * k:=by
    rw [List.length_cons,Nat.add_mul,Nat.one_mul] at h
    omega
   rw [oK hk l (t - k) h']
   have e1:t / k=(t - k) / k+1:=by
    rw [Nat.div_eq_sub_div G6 ht]
   have e2:t % k=(t - k) % k:=Nat.mod_eq_sub_mod ht
   rw [e1,e2]
   simp
theorem zY {α:Type} [Inhabited α] {enc:α→List Value} {k:Nat} (hk:∀ x,(enc x).length=k) (d:Array α):(flatK enc k d).toList=d.toList.flatMap enc:=by
 have hl:(d.toList.flatMap enc).length=d.size * k:=by
  obtain ⟨l⟩:=d
  show (l.flatMap enc).length=l.length * k
  induction l with
  | nil=>simp
  | cons x l ih=>rw [List.flatMap_cons,List.length_append,hk,ih,List.length_cons,Nat.add_mul,Nat.one_mul,Nat.add_comm]
 apply List.ext_getElem?
 intro t
 by_cases ht:t < d.size * k
 ·have h1:=oK hk d.toList t (by simpa using ht)
  rw [h1]
  have hs:t < (flatK enc k d).size:=by rw [size_flatK]; exact ht
  have h2:=get_flatK enc k d t ht
  rw [getElem!_pos (flatK enc k d) t hs] at h2
  have e:∀ i:Nat,d[i]! = d.toList[i]!:=fun i=>by rw [getElem!_def,getElem!_def,Array.getElem?_toList]
  rw [Array.getElem?_toList,Array.getElem?_eq_getElem hs,h2,e]
 ·rw [List.getElem?_eq_none (by rw [Array.length_toList,size_flatK]; omega),List.getElem?_eq_none (by rw [hl]; omega)]
theorem qF (p:aO):∀ (xs:List p.T),(av (xs.map p.enc)).map Dd=xs.flatMap (gw p)
 | []=>rfl
 | x :: xs=>by
  rw [List.map_cons,av,List.map_append,qF p xs,List.flatMap_cons]
  rfl
theorem ny {w:World} {b:Nat} {cur:Array Value} {el:TypeId} (h:w.heap[b]?=some (.cells cur el (0,0))) (f:Array Value→Array Value):mapBlock w b f=w.setRow b (f cur):=by
 unfold mapBlock World.setRow
 congr 1
 apply Array.ext_getElem?
 intro i
 rw [Array.getElem?_modify,Array.getElem?_modify]
 by_cases e:b=i
 ·subst e
  rw [if_pos rfl,if_pos rfl,h]
  rfl
 ·rw [if_neg e,if_neg e]
section
variable {E:Env} {ρ:Ren} {c:FuncId} {p:aO} {k:Nat} {cf:p.T→p.T→Int} [Inhabited p.T]
theorem xO (hC:pt E.P E.b6 c p k cf) (x:p.T):(gw p x).length=k:=by
 unfold gw
 rw [List.length_map,hC.size]
theorem Ln (NB:E.gx=fun _=>false) (hC:pt E.P E.b6 c p k cf) {R:ai} {w:World} {G:List GO} (hg:dq E R w G) {b:Nat} {cur:Array Value} {el:TypeId} (hb:w.heap[b]?=some (.cells cur el (0,0))) (hI:∀ o,¬ R.I b o) (size:Nat) :
  CmpLays E.P c #[] (gw p) k cf b 0 size w:=by
 intro m os dk _ x y
 have e1:putRowK (gw p) k (Sort.ahead w m) b 0 dk=(Sort.ahead w m).setRow b (putCells id 0 (flatK (gw p) k dk) cur):=ny (w:=Sort.ahead w m) hb _
 have hW:sortWorldK (gw p) k w b 0 m dk os=Sort.grow ((Sort.ahead w m).setRow b (putCells id 0 (flatK (gw p) k dk) cur)) os:=by
  unfold sortWorldK
  rw [e1]
 rw [hW]
 generalize putCells id 0 (flatK (gw p) k dk) cur=cur2
 have eA:Ext R w R (Sort.ahead w m):=⟨fun _ _ h=>h,fun _ _ _=>rfl,fun _ ro h=>⟨ro,h,cw.refl ro⟩,.old fun _ _=>rfl⟩
 have eS:Ext R (Sort.ahead w m) R ((Sort.ahead w m).setRow b cur2):=iT hI cur2
 have De:Below ((Sort.ahead w m).setRow b cur2).heap.size ((Sort.ahead w m).setRow b cur2) (Sort.grow ((Sort.ahead w m).setRow b cur2) os):=by
  refine ⟨rfl,rfl,rfl,?_,fun i hi=>?_⟩
  ·show _≤(((Sort.ahead w m).setRow b cur2).heap++os).size
   rw [Array.size_append]; exact Nat.le_add_right _ _
  ·show (((Sort.ahead w m).setRow b cur2).heap++os)[i]?=_
   rw [Array.getElem?_append_left hi]
 have eO:((Sort.ahead w m).setRow b cur2).heap.size=w.heap.size:=by unfold World.setRow; simp [Sort.ahead]
 have eG:Ext R ((Sort.ahead w m).setRow b cur2) R (Sort.grow ((Sort.ahead w m).setRow b cur2) os):=Below.Tb De fun b' o hi=>by rw [eO]; exact hg.wf b' o hi
 have eW:=(eA.trans eS).trans eG
 generalize hWd:Sort.grow ((Sort.ahead w m).setRow b cur2) os=W at *
 have hWs:w.heap.size≤W.heap.size:=by rw [← eO]; exact De.size
 let E':Env:={ E with lo:=W.drawn }
 let R0:ai:=⟨R.I,[]⟩
 have m0:Mv R R0 0:=⟨fun _ _ h=>h,fun _ _ h=>absurd h (Nat.not_lt_zero _)⟩
 have MH:dq E' R0 W []:=⟨rfl,fun id go ro h1 _=>by simp [nth] at h1,fun i j ri rj b h1=>by simp [R0,nth] at h1,fun b o h=>Nat.lt_of_lt_of_le (hg.wf b o h) hWs,
  fun g cs qf=>((hg.b6 g cs qf).mono eW).move m0 (cp _ (E.nN g cs qf)),Nat.le_refl _⟩
 have eh:∀ z:p.T,Rel R0 W (p.enc z) (.agg (gw p z).toArray):=fun z=>by
  obtain ⟨cs,oV⟩:=hC.agg z
  have hs:=hC.E9 z
  unfold gw
  rw [oV] at hs ⊢
  refine Rel.agg (pq hs) fun v hv=>?_
  obtain ⟨a,ha,rfl⟩:=List.mem_map.1 hv
  exact xM (hs a ha)
 have hc:=(hC.calls E' rfl rfl NB x y []).2 R0 W [.agg (gw p x).toArray,.agg (gw p y).toArray] MH (.cons (eh x) (.one (eh y)))
 refine (callsIn_wide.1 hc).mono fun e w' he=>?_
 cases e with
 | panicked c=>exact he.elim
 | outgrown=>exact he.elim
 | returned cv=>
  obtain ⟨r,G',R1,⟨rfl,rfl⟩,hr,Ns,st⟩:=he
  have DA:cv=.int .i64 (cf x y):=by cases hr; rfl
  subst DA
  have jm:∀ b,¬ Own R0 (fun _=>0) fk b:=fun b ho=>by
   obtain ⟨id,ro,h1,_⟩:=eV ho
   simp [R0,nth] at h1
  refine ⟨rfl,yX ⟨st.os,st.tape,st.output,st.size,fun i hi=>st.cq i hi (jm i)⟩ Ns.lo⟩
theorem Df {p:aO} (hp:p.flat=true):∀ es:List AV,allFit p.fits es=true→es=(es.map p.bo).map p.enc
 | [],_=>rfl
 | a :: es,h=>by
  simp only [allFit,Bool.and_eq_true] at h
  rw [List.map_cons,List.map_cons,← Df hp es h.2,aO.jt hp h.1]
theorem xP (L:SlLaysF0.n6 E.P ρ) (hp:Plain E.P (ρ.f 6)) (hc:Plain E.P c) (aE:∀ w,(isAgg (ρ.t 24)).run E.P w=.ok true w) (zE:∀ w,(Go.sizeOf (ρ.t 24)).run E.P w=.ok k w) (hC:pt E.P E.b6 c p k cf) (hE:E.lo=0) (G6:1≤k) {el:TypeId} (NB:E.gx=fun _=>false:=by rfl) :
  ∀ (args:List AV) (G:List GO) (r:AV) (G':List GO),xN p cf k el c args G=some (true,r,G')→cu E (ρ.f 6) args G (fun r' zO=>r'=r∧zO=G'):=by
 intro args G r G' h
 unfold xN at h
 split at h
 ·rename_i G1 oid f off XN len c'
  split at h
  ·rename_i es mJ PY hid
   split at h
   ·rename_i cC
    simp only [Bool.and_eq_true] at cC
    obtain ⟨⟨⟨⟨q1,q2⟩,q3⟩,q4⟩,q5⟩:=cC
    have q1:=Nat.eq_of_beq_eq_true q1
    have q2:=Nat.eq_of_beq_eq_true q2
    have q3:=Nat.eq_of_beq_eq_true q3
    have q4:=Nat.eq_of_beq_eq_true q4
    have q5:=Nat.eq_of_beq_eq_true q5
    subst q1; subst q2; subst q3; subst q4; subst q5
    injection h with h
    injection h with h1 h
    injection h with h2 h3
    subst h2; subst h3
    simp only [Bool.and_eq_true,decide_eq_true_eq] at h1
    obtain ⟨⟨⟨hf,r9⟩,hbig⟩,rq⟩:=h1
    refine ⟨hp,fun R w cs hg hl=>callsIn_wide.2 ?_⟩
    cases hl with
    | @cons _ cv _ _ r1 hl=>
    cases hl with
    | @cons _ fv _ _ r2 hl=>
    cases hl
    cases r2 with
    | fn x1 x2=>
    cases x1; cases x2
    by_cases he:es=[]
    ·subst he
     obtain ⟨pa,cap,rfl⟩:∃ pa cap,cv=.slice pa 0 cap:=by
      have r9:len=0:=r9
      subst r9
      cases r1 with
      | iM _ _=>exact ⟨_,_,rfl⟩
      | dX _ _ _=>exact ⟨_,_,rfl⟩
     refine (AnyF.slices_SortFunc_none (P:=E.P) (ρ:=ρ) L pa cap _ w).mono fun e w' ⟨e1,e2⟩=>?_
     subst e1; subst e2
     have Uc:ms p cf []=[]:=by simp [ms]
     have hG:aD G oid (.dG (ms p cf []) mJ PY)=G:=by rw [Uc]; exact jj hid
     rw [hG]
     exact ⟨.bh [],G,R,⟨rfl,rfl⟩,Rel.bh .nil,hg,Step.refl _ _ _ _⟩
    ·have mR:0 < es.length:=List.length_pos_iff.2 he
     cases r1 with
     | iM _ _=>omega
     | @dX _ _ _ _ _ cap b o' ro bH dE gX=>
     subst hf; subst r9
     obtain ⟨b',c',cur,vs,rfl,g1,g2,g3,g4,g5,g6,g7,g8,g9⟩:=lr hg hid bH (fun k=>by subst k; exact dE)
     obtain ⟨rfl,BE,sB⟩:=dE.2 rfl
     have nL:o'=0:=by
      rcases sB with sB | sB
      ·rw [sB,Nat.zero_mul]
      ·omega
     subst nL
     -- the elements by their leaves
     have uD:=Df hC.flat es rq
     generalize M6:es.map p.bo=xs at uD
     have hlen:xs.length=es.length:=by rw [← M6,List.length_map]
     have R8:∀ (ys:List p.T),∀ a∈av (ys.map p.enc),gi a=true:=fun ys=>by
      induction ys with
      | nil=>intro a ha; simp [av] at ha
      | cons y ys ih=>
       intro a ha
       rw [List.map_cons,av] at ha
       rcases List.mem_append.1 ha with ha | ha
       ·exact hC.E9 y a ha
       ·exact ih a ha
     have SS:vs=xs.flatMap (gw p):=by
      rw [uD] at g7
      rw [tk (R8 xs) g7,qF]
     have hd:(xs.toArray).size=es.length:=by simpa using hlen
     have XO:(flatK (gw p) mJ xs.toArray).toList=vs:=by rw [zY (xO hC),SS]
     have M9:(flatK (gw p) mJ xs.toArray).size=es.length * mJ:=by rw [size_flatK,hd]
     have iz:cur.toList.length=c' * mJ:=by rw [show cur.toList.length=cur.size from Array.length_toList,g5]
     have hle:es.length * mJ≤c' * mJ:=Nat.mul_le_mul_right _ g3
     have hH:HoldsK (gw p) mJ w b 0 xs.toArray:=by
      intro j hj
      rw [M9] at hj
      refine ⟨?_,?_⟩
      ·have VJ:j < (flatK (gw p) mJ xs.toArray).size:=by rw [M9]; exact hj
       rw [getElem!_pos (flatK (gw p) mJ xs.toArray) j VJ,Nat.zero_add,cell_of_row w b j cur PY (0,0) g2]
       have h1:cur[j]?=vs[j]?:=by
        rw [← g9,List.getElem?_take,if_pos hj,← Array.getElem?_toList]
       rw [h1,← XO,Array.getElem?_toList,Array.getElem?_eq_getElem VJ]
       rfl
      ·unfold World.frozen?
       rw [g2]
       simp
     have hCL:=Ln NB hC hg g2 g6 xs.toArray.size
     have key:=AnyQ.slices_SortFunc_total L mJ aE zE (gw p) (xO hC) (fun x v hv=>by
      obtain ⟨a,ha,rfl⟩:=List.mem_map.1 hv
      exact xM (hC.E9 x a ha)) cf hC.swo c #[] b 0 cap xs.toArray w (mX hc) hCL hH (bg g2) (by rw [hd]; omega) hC.Zg
     rw [hd] at key
     refine key.mono fun e w' ⟨e1,n,os,e2⟩=>?_
     subst e1
     -- the world behind
     have e3:putRowK (gw p) mJ (Sort.ahead w n) b 0 (xs.mergeSort fun x y=>!(ltOf cf) y x).toArray=(Sort.ahead w n).setRow b (putCells (fun v=>v) 0 (flatK (gw p) mJ (xs.mergeSort fun x y=>!(ltOf cf) y x).toArray) cur):=ny (w:=Sort.ahead w n) g2 _
     have e4:w'=Sort.grow ((Sort.ahead w n).setRow b (putCells (fun v=>v) 0 (flatK (gw p) mJ (xs.mergeSort fun x y=>!(ltOf cf) y x).toArray) cur)) os:=by
      rw [e2]
      unfold sortWorldK
      rw [e3]
     clear e2 e3 key
     generalize M8:(xs.mergeSort fun x y=>!(ltOf cf) y x)=ys at e4
     have Vx:ys.length=es.length:=by rw [← M8,List.length_mergeSort,hlen]
     have hso:ms p cf es=ys.map p.enc:=by unfold ms; rw [M6,M8]
     rw [hso]
     have hfy:(flatK (gw p) mJ ys.toArray).toList=ys.flatMap (gw p):=by rw [zY (xO hC)]
     have XP:(flatK (gw p) mJ ys.toArray).size=es.length * mJ:=by rw [size_flatK]; simp [Vx]
     have Fa:(putCells (fun v=>v) 0 (flatK (gw p) mJ ys.toArray) cur).size=cur.size:=by simp [putCells]
     have DC:(putCells (fun v=>v) 0 (flatK (gw p) mJ ys.toArray) cur).toList.take (es.length * mJ)=ys.flatMap (gw p):=by
      rw [← hfy]
      apply List.ext_getElem?
      intro t
      rw [List.getElem?_take]
      by_cases ht:t < es.length * mJ
      ·have h1:t < (flatK (gw p) mJ ys.toArray).size:=by rw [XP]; exact ht
       have h2:t < cur.size:=by rw [g5]; omega
       rw [if_pos ht,Array.getElem?_toList,Array.getElem?_toList,Array.getElem?_eq_getElem h1,Array.getElem?_eq_getElem (by rw [Fa]; exact h2)]
       simp only [putCells,Array.getElem_mapIdx,Nat.zero_le,Nat.zero_add,h1,and_self,if_true,Nat.sub_zero]
       rw [getElem!_pos (flatK (gw p) mJ ys.toArray) t h1]
      ·rw [if_neg ht,List.getElem?_eq_none (by rw [Array.length_toList,XP]; omega)]
     generalize putCells (fun v=>v) 0 (flatK (gw p) mJ ys.toArray) cur=cur2 at e4 Fa DC
     have Et:∀ v∈ys.flatMap (gw p),v.oneCell'=true:=fun v hv=>by
      obtain ⟨y,_,hy⟩:=List.mem_flatMap.1 hv
      obtain ⟨a,ha,rfl⟩:=List.mem_map.1 hy
      exact xM (hC.E9 y a ha)
     have oS:dw mJ (ys.map p.enc):=fun a ha=>by
      obtain ⟨y,_,rfl⟩:=List.mem_map.1 ha
      refine ⟨hC.size y,?_⟩
      obtain ⟨cs,oV⟩:=hC.agg y
      rw [oV]; rfl
     have eh:aM R w (av (ys.map p.enc)) (ys.flatMap (gw p)):=by
      rw [← qF]
      exact pq (R8 ys)
     have cH:bi E R w (fun _=>0) ⟨[],[],G,[],none,0⟩ (⟨#[],[]⟩:Act):=
      ⟨hg,⟨fun k cs h=>by simp [dm] at h,fun k k' cs cs' h=>by simp [dm] at h⟩,fun i hi=>absurd rfl hi,rfl,trivial⟩
     obtain ⟨k1,k2⟩:=cH.AD (es':=ys.map p.enc) hid bH g2 (by rw [List.length_map,Vx]) oS Fa eh Et DC
     have De:Below (w.setRow b cur2).heap.size (w.setRow b cur2) w':=by
      rw [e4]
      refine ⟨rfl,rfl,rfl,?_,fun i hi=>?_⟩
      ·show _≤((w.setRow b cur2).heap++os).size
       rw [Array.size_append]; exact Nat.le_add_right _ _
      ·show ((w.setRow b cur2).heap++os)[i]?=_
       rw [Array.getElem?_append_left hi]
     exact ⟨.bh [],_,R,⟨rfl,rfl⟩,Rel.bh .nil,Below.HK De k1.g hE,k2.trans (Below.zU De k1.g.wf)⟩
   ·cases h
  ·cases h
 ·cases h
end
end Go.Am
namespace Go.Am
open Go Go.Sort
section
variable {α:Type} [DecidableEq α] {lt:α→α→Bool}
def vq (lt:α→α→Bool) (l:List α):Prop:=l.Pairwise fun x y=>lt x y=true
omit [DecidableEq α] in
theorem Gn (hw:SWO lt):∀ {a b:List α},vq lt a→vq lt b→(∀ x,x∈a↔x∈b)→a=b
 | [],[],_,_,_=>rfl
 | [],y :: b,_,_,h=>by have:=(h y).2 (by simp); simp at this
 | x :: a,[],_,_,h=>by have:=(h x).1 (by simp); simp at this
 | x :: a,y :: b,ha,hb,h=>by
  have ha':=List.pairwise_cons.1 ha
  have iS:=List.pairwise_cons.1 hb
  have hxy:x=y:=by
   have h1:=(h x).1 (by simp)
   have h2:=(h y).2 (by simp)
   rcases List.mem_cons.1 h1 with h1 | h1
   ·exact h1
   ·rcases List.mem_cons.1 h2 with h2 | h2
    ·exact h2.symm
    ·have l1:=iS.1 x h1
     have l2:=ha'.1 y h2
     have:=hw.trans _ _ _ l1 l2
     rw [hw.irrefl] at this
     cases this
  subst hxy
  congr 1
  refine Gn hw ha'.2 iS.2 fun z=>?_
  constructor
  ·intro hz
   rcases List.mem_cons.1 ((h z).1 (by simp [hz])) with rfl | h2
   ·have:=ha'.1 z hz
    rw [hw.irrefl] at this
    cases this
   ·exact h2
  ·intro hz
   rcases List.mem_cons.1 ((h z).2 (by simp [hz])) with rfl | h2
   ·have:=iS.1 z hz
    rw [hw.irrefl] at this
    cases this
   ·exact h2
def mu (lt:α→α→Bool) (d:α) (k:α) (l:List α):List α:=
 let at_:=(l.takeWhile fun x=>lt x k).length
 if at_=l.length∨l.getD at_ d≠k then l.take at_++[k]++l.drop at_ else l
omit [DecidableEq α] in
theorem fu (p:α→Bool):∀ l:List α,(∀ x∈l.take (l.takeWhile p).length,p x=true)∧∀ h:(l.takeWhile p).length < l.length,p l[(l.takeWhile p).length]=false
 | []=>by simp
 | a :: l=>by
  obtain ⟨h1,h2⟩:=fu p l
  by_cases ha:p a=true
  ·simp only [List.takeWhile_cons,ha,if_true,List.length_cons,List.take_succ_cons,List.mem_cons,forall_eq_or_imp,true_and,List.getElem_cons_succ]
   exact ⟨h1,fun h=>h2 (by omega)⟩
  ·simp only [List.takeWhile_cons,if_neg ha,List.length_nil,List.take_zero]
   refine ⟨by simp,fun _=>?_⟩
   rw [List.getElem_cons_zero]
   exact Bool.eq_false_iff.2 ha
theorem Lo (d:α) (k:α) (l:List α) (x:α):x∈mu lt d k l↔x=k∨x∈l:=by
 unfold mu
 simp only
 have hle:(l.takeWhile fun x=>lt x k).length≤l.length:=(List.takeWhile_sublist _).length_le
 generalize (l.takeWhile fun x=>lt x k).length=a at *
 have e:x∈l↔x∈l.take a∨x∈l.drop a:=by rw [← List.mem_append,List.take_append_drop]
 split
 ·simp only [List.mem_append,List.mem_singleton]
  rw [e]
  constructor
  ·rintro ((h | h) | h)
   ·exact .inr (.inl h)
   ·exact .inl h
   ·exact .inr (.inr h)
  ·rintro (h | h | h)
   ·exact .inl (.inr h)
   ·exact .inl (.inl h)
   ·exact .inr h
 ·rename_i h
  rw [not_or,Decidable.not_not] at h
  constructor
  ·exact .inr
  ·rintro (rfl | h2)
   ·have hl:a < l.length:=by omega
    have e2:l.getD a d=l[a]:=by simp [hl]
    rw [e2] at h
    rw [← h.2]
    exact List.getElem_mem hl
   ·exact h2
theorem Lp (hw:SWO lt) (ht:∀ x y,lt x y=false→lt y x=false→x=y) (d:α) (k:α) (l:List α) (hl:vq lt l):vq lt (mu lt d k l):=by
 unfold mu
 simp only
 obtain ⟨h1,h2⟩:=fu (fun x=>lt x k) l
 have hle:(l.takeWhile fun x=>lt x k).length≤l.length:=(List.takeWhile_sublist _).length_le
 generalize (l.takeWhile fun x=>lt x k).length=a at *
 have hp:=List.pairwise_iff_getElem.1 hl
 split
 ·rename_i hc
  have DW:∀ y∈l.drop a,lt k y=true:=by
   intro y hy
   obtain ⟨j,hj,rfl⟩:=List.getElem_of_mem hy
   rw [List.length_drop] at hj
   rw [List.getElem_drop]
   have uK:a < l.length:=by omega
   have e2:l.getD a d=l[a]:=by simp [uK]
   have hka:lt k l[a]=true:=by
    cases hh:lt k l[a] with
    | true=>rfl
    | false=>
     have:=ht _ _ (h2 uK) hh
     rcases hc with hc | hc
     ·omega
     ·rw [e2] at hc; exact absurd this hc
   by_cases h0:j=0
   ·subst h0; simpa using hka
   ·exact hw.trans _ _ _ hka (hp a (a+j) uK (by omega) (by omega))
  unfold vq
  rw [List.append_assoc,List.pairwise_append]
  refine ⟨hl.take,?_,fun x hx y hy=>?_⟩
  ·rw [List.singleton_append,List.pairwise_cons]
   exact ⟨DW,hl.drop⟩
  ·rw [List.singleton_append] at hy
   have hxk:=h1 x hx
   rcases List.mem_cons.1 hy with rfl | hy
   ·exact hxk
   ·exact hw.trans _ _ _ hxk (DW y hy)
 ·exact hl
def Bl (lt:α→α→Bool) (d:α) (l:List α):List α:=l.foldl (fun s k=>mu lt d k s) []
theorem mw (hw:SWO lt) (ht:∀ x y,lt x y=false→lt y x=false→x=y) (d:α) (l:List α):vq lt (Bl lt d l)∧∀ x,x∈Bl lt d l↔x∈l:=by
 have gen:∀ (l s:List α),vq lt s→vq lt (l.foldl (fun s k=>mu lt d k s) s)∧∀ x,x∈l.foldl (fun s k=>mu lt d k s) s↔x∈s∨x∈l:=by
  intro l
  induction l with
  | nil=>intro s hs; exact ⟨hs,fun x=>by simp⟩
  | cons k l ih=>
   intro s hs
   rw [List.foldl_cons]
   obtain ⟨h1,h2⟩:=ih _ (Lp hw ht d k s hs)
   refine ⟨h1,fun x=>?_⟩
   rw [h2,Lo,List.mem_cons]
   constructor
   ·rintro ((h | h) | h)
    ·exact .inr (.inl h)
    ·exact .inl h
    ·exact .inr (.inr h)
   ·rintro (h | h | h)
    ·exact .inl (.inr h)
    ·exact .inl (.inl h)
    ·exact .inr h
 obtain ⟨h1,h2⟩:=gen l [] List.Pairwise.nil
 exact ⟨h1,fun x=>by rw [show Bl lt d l=l.foldl (fun s k=>mu lt d k s) [] from rfl,h2]; simp⟩
theorem sa (d:α) (k:α) (l:List α):(mu lt d k l).length≤l.length+1:=by
 unfold mu
 simp only
 split
 ·simp; omega
 ·omega
omit [DecidableEq α] in
theorem Lq (hw:SWO lt) (l:List α):(l.mergeSort fun x y=>!lt y x).Pairwise (fun x y=>lt y x=false)∧∀ x,x∈(l.mergeSort fun x y=>!lt y x)↔x∈l:=by
 refine ⟨?_,fun x=>(List.mergeSort_perm l _).mem_iff⟩
 have h:=List.pairwise_mergeSort (le:=fun x y=>!lt y x) (fun a b c h1 h2=>by
  simp only [Bool.not_eq_true'] at h1 h2 ⊢
  exact hw.ntrans _ _ _ h2 h1) (fun a b=>by
  simp only [Bool.or_eq_true,Bool.not_eq_true']
  cases h1:lt b a with
  | false=>exact .inl rfl
  | true=>
   right
   cases h2:lt a b with
   | false=>rfl
   | true=>
    have:=hw.trans _ _ _ h1 h2
    rw [hw.irrefl] at this
    cases this) l
 exact h.imp fun RL=>by simpa using RL
end
theorem zZ {V X S:Type} {rd:V→Option (V ⊕ X)} (m:Nat) (E:S→Nat→V) (P:S→Nat→Prop) (Q:X→Prop)
  (h:∀ s k,k < m→P s k→∃ s',rd (E s k)=some (.inl (E s' (k+1)))∧P s' (k+1))
  (h0:∀ s,P s m→∃ x,rd (E s m)=some (.inr x)∧Q x) :
  ∀ n s k,k≤m→m < n+k→P s k→∃ x,aN rd n (E s k)=some x∧Q x
 | 0,s,k,hk,hn,_=>by omega
 | n+1,s,k,hk,hn,hP=>by
  rw [a6]
  by_cases cg:k < m
  ·obtain ⟨s',e,hP'⟩:=h s k cg hP
   rw [e]
   exact zZ m E P Q h h0 n s' (k+1) cg (by omega) hP'
  ·obtain rfl:k=m:=by omega
   obtain ⟨x,e,hQ⟩:=h0 s hP
   rw [e]
   exact ⟨x,rfl,hQ⟩
theorem Gp {α:Type} (l:List α) (p:α→Bool) (d:α):(match (List.range l.length).find? fun j=>!p (l.getD j d) with | some j=>(j:Int) | none=>(l.length:Int))=((l.takeWhile p).length:Int):=by
 obtain ⟨h1,h2⟩:=fu p l
 have hle:(l.takeWhile p).length≤l.length:=(List.takeWhile_sublist _).length_le
 generalize (l.takeWhile p).length=a at *
 have abn:∀ j,j < a→p (l.getD j d)=true:=fun j hj=>by
  have e:l.getD j d=l[j]:=by simp [show j < l.length by omega]
  rw [e]
  exact h1 _ (List.mem_take_iff_getElem.2 ⟨j,by omega,rfl⟩)
 cases hf:(List.range l.length).find? fun j=>!p (l.getD j d) with
 | none=>
  rw [List.find?_eq_none] at hf
  have:¬ a < l.length:=fun cg=>by
   have e:l.getD a d=l[a]:=by simp [cg]
   have:=hf a (List.mem_range.2 cg)
   rw [e,h2 cg] at this
   simp at this
  show (l.length:Int)=(a:Int)
  omega
 | some j=>
  have hj:=List.mem_range.1 (List.mem_of_find?_eq_some hf)
  have hp:=List.find?_some hf
  have hja:a≤j:=by
   by_cases hc:a≤j
   ·exact hc
   ·have:=abn j (by omega)
    rw [this] at hp
    simp at hp
  have Ud:=(List.find?_eq_some_iff_getElem.1 hf).2
  obtain ⟨i,hi,Iy,nH⟩:=Ud
  rw [List.getElem_range] at Iy
  subst Iy
  show (i:Int)=(a:Int)
  by_cases hc:i=a
  ·rw [hc]
  ·have hai:a < i:=by omega
   have:=nH a hai
   rw [List.getElem_range] at this
   have e:l.getD a d=l[a]:=by simp [show a < l.length by omega]
   rw [e,h2 (by omega)] at this
   simp at this
end Go.Am
namespace Go.Am
open Go Go.RowKit Go.Proofs Go.Shelf Go.Sort
def isInt:AV→Bool
 | .int .i64 _=>true
 | _=>false
def xZ:AV→Int
 | .int _ n=>n
 | _=>0
def kS (n:Int):AV:=.int .i64 n
def qa (es:List AV):List AV:=((es.map xZ).mergeSort fun x y=>decide (x≤y)).map kS
def tw:List AV→Bool
 | []=>true
 | a :: l=>isInt a&&tw l
def Fp (el:TypeId):List AV→List GO→Option (Bool × AV × List GO)
 | [.dX id f off XN len],G=>match nth G id with
  | some (.dG es mJ PY)=>if Nat.beq off 0&&Nat.beq XN 1&&Nat.beq mJ 1&&Nat.beq PY el then
    some (decide (f=es.length)&&decide (len=es.length)&&decide (es.length≤140737488355328)&&tw es,.bh [],aD G id (.dG (qa es) 1 el)) else none
  | _=>none
 | _,_=>none
theorem yd:∀ es:List AV,tw es=true→es=(es.map xZ).map kS
 | [],_=>rfl
 | a :: es,h=>by
  simp only [tw,Bool.and_eq_true] at h
  have ih:=yd es h.2
  have ha:a=kS (xZ a):=by
   have:=h.1
   unfold isInt at this
   split at this
   ·rfl
   ·cases this
  rw [List.map_cons,List.map_cons,← ih,← ha]
theorem nz:∀ zs:List Int,av (zs.map kS)=zs.map kS
 | []=>rfl
 | z :: zs=>by
  show [kS z]++av (zs.map kS)=kS z :: zs.map kS
  rw [nz zs]
  rfl
theorem tx:∀ zs:List Int,(zs.map kS).map Dd=zs.map (Value.int .i64)
 | []=>rfl
 | z :: zs=>by rw [List.map_cons,List.map_cons,tx zs]; rfl
section
variable {E:Env} {ρ:Ren}
theorem LS (L:Lays.n189 E.P ρ) (hp:Plain E.P (ρ.f 189)) (hE:E.lo=0) {el:TypeId} :
  ∀ (args:List AV) (G:List GO) (r:AV) (G':List GO),Fp el args G=some (true,r,G')→cu E (ρ.f 189) args G (fun r' zO=>r'=r∧zO=G'):=by
 intro args G r G' h
 unfold Fp at h
 split at h
 ·rename_i G1 oid f off XN len
  split at h
  ·rename_i es mJ PY hid
   split at h
   ·rename_i cC
    simp only [Bool.and_eq_true] at cC
    obtain ⟨⟨⟨q2,q3⟩,q4⟩,q5⟩:=cC
    have q2:=Nat.eq_of_beq_eq_true q2
    have q3:=Nat.eq_of_beq_eq_true q3
    have q4:=Nat.eq_of_beq_eq_true q4
    have q5:=Nat.eq_of_beq_eq_true q5
    subst q2; subst q3; subst q4; subst q5
    injection h with h
    injection h with h1 h
    injection h with h2 h3
    subst h2; subst h3
    simp only [Bool.and_eq_true,decide_eq_true_eq] at h1
    obtain ⟨⟨⟨hf,r9⟩,hbig⟩,rq⟩:=h1
    refine ⟨hp,fun R w cs hg hl=>callsIn_wide.2 ?_⟩
    cases hl with
    | @cons _ cv _ _ r1 hl=>
    cases hl
    by_cases he:es=[]
    ·subst he
     obtain ⟨pa,cap,rfl⟩:∃ pa cap,cv=.slice pa 0 cap:=by
      have r9:len=0:=r9
      subst r9
      cases r1 with
      | iM _ _=>exact ⟨_,_,rfl⟩
      | dX _ _ _=>exact ⟨_,_,rfl⟩
     refine (Any.slices_Sort_int_none (P:=E.P) (ρ:=ρ) L pa cap w).mono fun e w' ⟨e1,e2⟩=>?_
     subst e1; subst e2
     have Uc:qa []=[]:=by simp [qa]
     have hG:aD G oid (.dG (qa []) 1 PY)=G:=by rw [Uc]; exact jj hid
     rw [hG]
     exact ⟨.bh [],G,R,⟨rfl,rfl⟩,Rel.bh .nil,hg,Step.refl _ _ _ _⟩
    ·have mR:0 < es.length:=List.length_pos_iff.2 he
     cases r1 with
     | iM _ _=>omega
     | @dX _ _ _ _ _ cap b o' ro bH dE gX=>
     subst hf; subst r9
     obtain ⟨b',c',cur,vs,rfl,g1,g2,g3,g4,g5,g6,g7,g8,g9⟩:=lr hg hid bH (fun k=>by subst k; exact dE)
     obtain ⟨rfl,BE,sB⟩:=dE.2 rfl
     have nL:o'=0:=by
      rcases sB with sB | sB
      ·rw [sB,Nat.zero_mul]
      ·omega
     subst nL
     -- the elements by their leaves
     have uD:=yd es rq
     generalize M6:es.map xZ=xs at uD
     have hlen:xs.length=es.length:=by rw [← M6,List.length_map]
     have R8:∀ (ys:List Int),∀ a∈av (ys.map kS),gi a=true:=fun ys a ha=>by
      rw [nz] at ha
      obtain ⟨y,_,rfl⟩:=List.mem_map.1 ha
      rfl
     have SS:vs=xs.map (Value.int .i64):=by
      rw [uD] at g7
      rw [tk (R8 xs) g7,nz,tx]
     have hd:(xs.toArray).size=es.length:=by simpa using hlen
     have iz:cur.toList.length=c':=by rw [show cur.toList.length=cur.size from Array.length_toList,g5,Nat.mul_one]
     have hH:Holds (Value.int .i64) w b 0 xs.toArray:=by
      intro j hj
      rw [hd] at hj
      refine ⟨?_,?_⟩
      ·have VJ:j < xs.length:=by omega
       have hj3:j < xs.toArray.size:=by rw [hd]; exact hj
       rw [getElem!_pos xs.toArray j hj3,Nat.zero_add,cell_of_row w b j cur PY (0,0) g2]
       have h1:cur[j]?=vs[j]?:=by
        rw [← g9,List.getElem?_take,if_pos (by omega),← Array.getElem?_toList]
       rw [h1,SS,List.getElem?_map,List.getElem?_eq_getElem VJ]
       rfl
      ·unfold World.frozen?
       rw [g2]
       simp
     have key:=Any.slices_Sort_int L b 0 cap xs w hH (bg g2) (by omega)
     rw [hlen] at key
     refine key.mono fun e w' ⟨e1,n,os,e2⟩=>?_
     subst e1
     -- the world behind
     have e3:putRow (Value.int .i64) (Sort.ahead w n) b 0 (xs.mergeSort fun x y=>decide (x≤y)).toArray=(Sort.ahead w n).setRow b (putCells (Value.int .i64) 0 (xs.mergeSort fun x y=>decide (x≤y)).toArray cur):=ny (w:=Sort.ahead w n) g2 _
     have e4:w'=Sort.grow ((Sort.ahead w n).setRow b (putCells (Value.int .i64) 0 (xs.mergeSort fun x y=>decide (x≤y)).toArray cur)) os:=by
      rw [e2,e3]
     clear e2 e3 key
     generalize M8:(xs.mergeSort fun x y=>decide (x≤y))=ys at e4
     have Vx:ys.length=es.length:=by rw [← M8,List.length_mergeSort,hlen]
     have hso:qa es=ys.map kS:=by unfold qa; rw [M6,M8]
     rw [hso]
     have Fa:(putCells (Value.int .i64) 0 ys.toArray cur).size=cur.size:=by simp [putCells]
     have DC:(putCells (Value.int .i64) 0 ys.toArray cur).toList.take (es.length * 1)=ys.map (Value.int .i64):=by
      apply List.ext_getElem?
      intro t
      rw [List.getElem?_take,Nat.mul_one]
      by_cases ht:t < es.length
      ·have h1:t < ys.length:=by omega
       have h2:t < cur.size:=by rw [g5]; omega
       have h3:t < ys.toArray.size:=by simpa using h1
       rw [if_pos ht,Array.getElem?_toList,Array.getElem?_eq_getElem (by rw [Fa]; exact h2),List.getElem?_map,List.getElem?_eq_getElem h1]
       simp only [putCells,Array.getElem_mapIdx,Nat.zero_le,Nat.zero_add,h3,and_self,if_true,Nat.sub_zero]
       rw [getElem!_pos ys.toArray t h3]
       rfl
      ·rw [if_neg ht,List.getElem?_eq_none (by rw [List.length_map]; omega)]
     generalize putCells (Value.int .i64) 0 ys.toArray cur=cur2 at e4 Fa DC
     have Et:∀ v∈ys.map (Value.int .i64),v.oneCell'=true:=fun v hv=>by
      obtain ⟨y,_,rfl⟩:=List.mem_map.1 hv
      rfl
     have oS:dw 1 (ys.map kS):=fun a ha=>by
      obtain ⟨y,_,rfl⟩:=List.mem_map.1 ha
      exact ⟨rfl,rfl⟩
     have eh:aM R w (av (ys.map kS)) (ys.map (Value.int .i64)):=by
      rw [← tx]
      have:=pq (R:=R) (w:=w) (R8 ys)
      rw [nz] at this ⊢
      exact this
     have cH:bi E R w (fun _=>0) ⟨[],[],G,[],none,0⟩ (⟨#[],[]⟩:Act):=
      ⟨hg,⟨fun k cs h=>by simp [dm] at h,fun k k' cs cs' h=>by simp [dm] at h⟩,fun i hi=>absurd rfl hi,rfl,trivial⟩
     obtain ⟨k1,k2⟩:=cH.AD (es':=ys.map kS) hid bH g2 (by rw [List.length_map,Vx]) oS Fa eh Et DC
     have De:Below (w.setRow b cur2).heap.size (w.setRow b cur2) w':=by
      rw [e4]
      refine ⟨rfl,rfl,rfl,?_,fun i hi=>?_⟩
      ·show _≤((w.setRow b cur2).heap++os).size
       rw [Array.size_append]; exact Nat.le_add_right _ _
      ·show ((w.setRow b cur2).heap++os)[i]?=_
       rw [Array.getElem?_append_left hi]
     exact ⟨.bh [],_,R,⟨rfl,rfl⟩,Rel.bh .nil,Below.HK De k1.g hE,k2.trans (Below.zU De k1.g.wf)⟩
   ·cases h
  ·cases h
 ·cases h
end
end Go.Am
namespace Go.Am
open Go Go.RowKit Go.Proofs Go.Shelf Go.Lib
def LU (sz nT:Nat) (el:TypeId):List AV→List GO→Option (Bool × AV × List GO)
 | [.list .nil _ [],.int .i64 n],G=>some (decide (0≤n∧n * (nT:Int)≤140737488355328∧n≤4611686018427387904),.dX G.length 0 0 sz 0,G++[.dG [] sz el])
 | _,_=>none
section
variable {E:Env} {ρ:Ren}
theorem LV (L:Lays8.n4 E.P ρ) (hp:Plain E.P (ρ.f 4)) (i0:TypeInfo) (z:Value) (hi0:E.P.info? (ρ.t 25)=some i0) (ZJ:i0.zero=some z) (Uc:0 < i0.size) (hzs:z.cells.size=i0.size) :
  ∀ (args:List AV) (G:List GO) (r:AV) (G':List GO),LU i0.size i0.bytes (ρ.t 25) args G=some (true,r,G')→cu E (ρ.f 4) args G (fun r' zO=>r'=r∧zO=G'):=by
 intro args G r G' h
 unfold LU at h
 split at h
 ·rename_i G1 sz0 n
  injection h with h
  injection h with h1 h
  injection h with h2 h3
  subst h2; subst h3
  have h1:=of_decide_eq_true h1
  obtain ⟨Au,Sx,aeZ⟩:=h1
  refine ⟨hp,fun R w cs hg hl=>callsIn_wide.2 ?_⟩
  cases hl with
  | @cons _ cv _ _ r1 hl=>
  cases hl with
  | @cons _ nv _ _ r2 hl=>
  cases hl
  cases r2
  have DA:∃ c0,cv=.slice none 0 c0∧c0=0:=by
   cases r1 with
   | jE=>exact ⟨_,rfl,rfl⟩
   | list _ _ _ hk=>exact hk.elim
  obtain ⟨c0,rfl,rfl⟩:=DA
  obtain ⟨m,rfl⟩:∃ m:Nat,n=(m:Int):=⟨n.toNat,by omega⟩
  have cH:bi E R w (fun _=>0) ⟨[],[],G,[],none,0⟩ (⟨#[],[]⟩:Act):=
   ⟨hg,⟨fun k cs h=>by simp [dm] at h,fun k k' cs cs' h=>by simp [dm] at h⟩,fun i hi=>absurd rfl hi,rfl,trivial⟩
  by_cases hm:m=0
  ·subst hm
   refine (Any8.slices_Grow_room (P:=E.P) (ρ:=ρ) L none 0 0 0 w (Nat.le_refl _) (by omega) (by omega) (by omega)).mono fun e w' ⟨e1,e2⟩=>?_
   have e2:=e2.symm
   subst e1; subst e2
   obtain ⟨k1,k2⟩:=cH.FQ (i0.size+65536) (ρ.t 25)
   have hn:nth (gY R).obj G.length=some .bz:=by rw [← hg.len]; exact eR _ _
   have ev:Sy G.length (i0.size+65536)=.dX G.length 0 0 i0.size 0:=by
    unfold Sy
    rw [Nat.ble_eq_true_of_le (Nat.le_add_left _ _),Nat.add_sub_cancel]
    rfl
   have eo:Jf (i0.size+65536) (ρ.t 25)=.dG [] i0.size (ρ.t 25):=by
    unfold Jf
    rw [Nat.ble_eq_true_of_le (Nat.le_add_left _ _),Nat.add_sub_cancel]
    rfl
   have hv:Rel (gY R) w (.dX G.length 0 0 i0.size 0) (.slice none 0 0):=by
    rw [← ev]; exact FP hn
   have yY:=k1.g
   have eG:((⟨[],[],G,[],none,0⟩:St).dO (Jf (i0.size+65536) (ρ.t 25))).G=G++[.dG [] i0.size (ρ.t 25)]:=by
    show G++[Jf (i0.size+65536) (ρ.t 25)]=_
    rw [eo]
   rw [eG] at yY
   exact ⟨_,_,gY R,⟨rfl,rfl⟩,hv,yY,k2⟩
  ·have Uu:(0+m) * i0.bytes≤140737488355328:=by
    rw [Nat.zero_add]
    have:((m * i0.bytes:Nat):Int)≤140737488355328:=by rw [Int.natCast_mul]; exact Sx
    omega
   have key:=Any8.slices_Grow_grow (P:=E.P) (ρ:=ρ) L i0 z hi0 ZJ Uc none 0 0 m [] w (Nat.le_refl _) (by omega) Uu (by omega) (by simp) (fun _=>rfl) (fun a h=>by cases h)
   refine key.mono fun e w' ⟨e1,e2⟩=>?_
   have sA:=grownCap_ge w (0+m) 0 (ρ.t 25)
   have Wi:=grownCap_le_maxLen w (0+m) 0 (ρ.t 25) (by unfold maxLen; omega)
   generalize grownCap w (0+m) 0 (ρ.t 25)=cap at *
   subst e1; subst e2
   obtain ⟨d1,d2⟩:=cH.drew
   have eO:(([]:List Value).toArray++Builtin.zeroCells z.cells (0+m - 0)++Builtin.zeroCells z.cells (cap - (0+m))).size=cap * i0.size:=by
    simp only [Array.size_append,List.size_toArray,size_zeroCells,hzs,List.length_nil,Nat.zero_add,Nat.sub_zero,← Nat.add_mul]
    congr 1
    omega
   have r1:=d1.D6 (cur:=([]:List Value).toArray++Builtin.zeroCells z.cells (0+m - 0)++Builtin.zeroCells z.cells (cap - (0+m))) (vs:=[]) (es:=[]) (elem:=ρ.t 25) (sz:=i0.size) (cap:=cap) (Nat.zero_le _) Wi eO (fun e he=>by cases he) .nil (fun v hv=>by cases hv) (by simp)
   have st:=d2.trans (cN d1 (.cells (([]:List Value).toArray++Builtin.zeroCells z.cells (0+m - 0)++Builtin.zeroCells z.cells (cap - (0+m))) (ρ.t 25)) (.tok 0 w.drew.heap.size cap) (by exact fun _ h=>h))
   have hv:Rel (R.add (.tok 0 w.heap.size cap)) (w.drew.alloc (.cells (([]:List Value).toArray++Builtin.zeroCells z.cells (0+m - 0)++Builtin.zeroCells z.cells (cap - (0+m))) (ρ.t 25))) (.dX G.length 0 0 i0.size 0) (.slice (some ⟨w.heap.size,0,none⟩) 0 cap):=
    Rel.dX (gn cH _) ⟨Nat.le_refl _,fun _=>⟨rfl,Nat.zero_add _,.inl (Nat.zero_mul _).symm⟩⟩ (Nat.zero_le _)
   exact ⟨_,_,_,⟨rfl,rfl⟩,hv,r1.g,st⟩
 ·cases h
end
end Go.Am
