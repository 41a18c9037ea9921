/- The abstract machine: strings.Split,strings.Cut and strconv.Itoa by their contracts. -/
import Derived.Test.YtldcljfjjoidhaaGreatDoorAmKK
import Derived.Lib.SplitLaws
import Derived.Lib.CutLaws
import Derived.Deep.Draws
import Derived.Lib.LaidTab
import Derived.Lib.ItoaNum
import Derived.Sort.Grow
import Derived.Shelf.SlSortCmp.NoneTotal
import Derived.Shelf.Sort.Plain
import Derived.Shelf.Slices.In.SortNone
import Derived.Shelf.Spec.SlicesGrow
set_option linter.all false
namespace Go.Am
open Go Go.RowKit
def fR (c:UInt8):List UInt8→List (List UInt8)
 | []=>[[]]
 | b :: s=>if b=c then [] :: fR c s else match fR c s with
  | []=>[[b]]
  | x :: xs=>(b :: x) :: xs
def we (c:UInt8):List UInt8→List UInt8 × List UInt8 × Bool
 | []=>([],[],false)
 | b :: s=>if b=c then ([],s,true) else (b :: (we c s).1,(we c s).2.1,(we c s).2.2)
theorem Wr (c b:UInt8) (l:List UInt8):[c].isPrefixOf (b :: l)=(c == b):=by simp [List.isPrefixOf]
theorem lI (c b:UInt8) (l:List UInt8):Lib.index (b :: l) [c]=if b=c then 0 else if Lib.index l [c]=-1 then -1 else Lib.index l [c]+1:=by
 rw [Lib.index,Wr]
 by_cases h:b=c
 ·subst h; simp
 ·have:(c == b)=false:=by simp; exact fun e=>h e.symm
  simp [this,h]
theorem qZ (c:UInt8) (l:List UInt8):Lib.index l [c]=-1∨∃ i:Nat,Lib.index l [c]=i:=by
 rcases Lib.index_spec l [c] with ⟨h,_⟩ | ⟨i,h,_⟩
 ·exact .inl h
 ·exact .inr ⟨i,h⟩
theorem rZ (c:UInt8):∀ l:List UInt8,Lib.index l [c]=-1↔l.count c=0
 | []=>by simp [Lib.index]
 | b :: l=>by
  rw [lI]
  by_cases h:b=c
  ·subst h; simp
  ·have ih:=rZ c l
   rw [if_neg h,List.count_cons_of_ne h]
   rcases qZ c l with h1 | ⟨i,h1⟩
   ·rw [if_pos h1]; simp [ih.1 h1]
   ·have cj:Lib.index l [c]≠-1:=by omega
    rw [if_neg cj]
    constructor
    ·intro h2; omega
    ·intro h2; exact absurd (ih.2 h2) cj
theorem oo (c:UInt8):∀ l:List UInt8,l.count c=0→fR c l=[l]
 | [],_=>rfl
 | b :: l,h=>by
  have hb:b≠c:=fun e=>by subst e; simp at h
  rw [List.count_cons_of_ne hb] at h
  unfold fR
  rw [if_neg hb,oo c l h]
theorem AT (c:UInt8):∀ l:List UInt8,Lib.splitK [c] 0 (l.count c) l=fR c l
 | []=>by simp [Lib.splitK,fR]
 | b :: l=>by
  have ih:=AT c l
  by_cases hb:b=c
  ·subst hb
   rw [List.count_cons_self,Lib.splitK,lI,if_pos rfl]
   simp [fR,ih]
  ·rw [List.count_cons_of_ne hb]
   cases hk:l.count c with
   | zero=>
    have:=oo c l hk
    unfold fR
    rw [if_neg hb,this,Lib.splitK]
   | succ k=>
    have cj:Lib.index l [c]≠-1:=fun e=>by have:=(rZ c l).1 e; omega
    obtain ⟨i,hi⟩:=(qZ c l).resolve_left cj
    rw [hk,Lib.splitK,hi] at ih
    rw [Lib.splitK,lI,if_neg hb,if_neg cj,hi]
    have e1:(((i:Int) == -1))=false:=by simp
    have e2:(((i:Int)+1 == -1))=false:=by simp; omega
    rw [e1] at ih
    rw [e2]
    unfold fR
    rw [if_neg hb,← ih]
    have e3:((i:Int)+1).toNat=i+1:=by omega
    simp [e3]
theorem NE (c:UInt8):∀ l:List UInt8,Lib.cut l [c]=we c l
 | []=>by simp [Lib.cut,Lib.index,we]
 | b :: l=>by
  have ih:=NE c l
  unfold Lib.cut at ih ⊢
  rw [lI]
  unfold we
  by_cases hb:b=c
  ·rw [if_pos hb]; simp [hb]
  ·rw [if_neg hb,if_neg hb,← ih]
   rcases qZ c l with h | ⟨i,h⟩
   ·rw [if_pos h,h]; simp
   ·have cj:Lib.index l [c]≠-1:=by omega
    have h1:(0:Int)≤(i:Int)+1:=by omega
    have h2:(0:Int)≤(i:Int):=by omega
    have e3:((i:Int)+1).toNat=i+1:=by omega
    rw [if_neg cj,h,if_pos h1,if_pos h2,e3]
    simp
theorem HH (c:UInt8) (s:List UInt8):(Lib.splitB ⟨#[c]⟩ 0 (Lib.countB ⟨⟨s⟩⟩ ⟨#[c]⟩) ⟨⟨s⟩⟩).map (·.data.toList)=fR c s:=by
 rw [Lib.splitB_data]
 show Lib.splitK [c] 0 (Lib.count s [c]) s=_
 rw [Lib.count_one]
 exact AT c s
def yL (n:Int):Option (List UInt8):=bif decide (-9223372036854775808≤n)&&decide (n≤9223372036854775807) then some (Lib.itoa n) else none
def CF:aK:=⟨p1 (.int .i64),.str,yL⟩
def Pz:List UInt8 × List UInt8→Option (List (List UInt8))
 | (s,[c])=>bif decide (s.length < 4294967281) then some (fR c s) else none
 | _=>none
def Ws:List UInt8 × List UInt8→Option (List UInt8 × List UInt8 × Bool)
 | (s,[c])=>bif decide (s.length < 4294967281) then some (we c s) else none
 | _=>none
def CG:aK:=⟨p2 .str .str,.list 1 .str,Pz⟩
def PA:aK:=⟨p2 .str .str,.aX (.cons .str (.cons .str (.cons .bool .nil))),Ws⟩
section
variable {E:Env} {R:ai} {w w':World}
theorem aM.Wt {g:FuncId} {args:List AV} {xs:List (List UInt8)} {t:TypeId} (hp:Plain E.P g) (hm:xs.length≤140737488355328)
  (h:∀ (R:ai) (w:World) (cs:List Value),cI E R w []→aD R w args cs→Calls E.P g ⟨cs⟩ w (fun e w'=>e=.returned (.slice (some ⟨w.heap.size,0,none⟩) xs.length xs.length)∧w'=w.alloc (.cells ((xs.map fun l=>Value.string ⟨⟨l⟩⟩).toArray) t)))
  (nX:aA 0 args=true):aM E g args (fun r'=>r'=(an.list 1 .str).enc xs):=fun G=>
 ⟨hp,fun R w cs hg hl=>by
  let R0:ai:=⟨R.I,[]⟩
  have m0:Mv R R0 0:=⟨fun _ _ h=>h,fun _ _ h=>absurd h (Nat.not_lt_zero _)⟩
  have Je:cI E R0 w []:=⟨rfl,fun id go ro h1 _=>by simp [nth] at h1,fun i j ri rj b h1=>by simp [R0,nth] at h1,hg.wf,fun g cs ox=>(hg.bN g cs ox).move m0 (bS _ (E.me g cs ox)),hg.lo⟩
  refine callsIn_wide.2 ((h R0 w cs Je (hl.move m0 nX)).mono fun e w' ⟨he,hw⟩=>?_)
  subst he; subst hw
  let R':ai:=R.all w.heap.size
  have e1:=qA (R:=R) hg.wf (.cells ((xs.map fun l=>Value.string ⟨⟨l⟩⟩).toArray) t)
  have e:Ext R w R' (w.alloc (.cells ((xs.map fun l=>Value.string ⟨⟨l⟩⟩).toArray) t)):=e1.trans (nr R _ _)
  have old:∀ b,b < w.heap.size→(w.alloc (.cells ((xs.map fun l=>Value.string ⟨⟨l⟩⟩).toArray) t)).heap[b]?=w.heap[b]?:=fun b hb=>heap_alloc_old w _ hb
  have im:∀ b o,b < w.heap.size→R'.I b o→R.I b o:=fun b o hb hi=>hi.resolve_right (by omega)
  refine ⟨_,G,R',⟨rfl,rfl⟩,?_,?_,⟨e,rfl,rfl,rfl,by simp,fun b hb _=>old b hb,fun b hb ho=>ho,fun b o hi hb _=>im b o hb hi⟩⟩
  ·have ms:(w.alloc (.cells ((xs.map fun l=>Value.string ⟨⟨l⟩⟩).toArray) t)).heap[w.heap.size]?=some (.cells ((xs.map fun l=>Value.string ⟨⟨l⟩⟩).toArray) t):=heap_alloc_new w _
   have key:∀ (ys:List (List UInt8)) (o:Nat),(∀ (j:Nat) l,ys[j]?=some l→xs[o+j]?=some l)→e7 R' (w.alloc (.cells ((xs.map fun l=>Value.string ⟨⟨l⟩⟩).toArray) t)) w.heap.size o 1 (ys.map (fun l=>AV.str l)):=by
    intro ys
    induction ys with
    | nil=>intro o _; exact .nil
    | cons l ys ih=>
     intro o hj
     refine .cons rfl rfl rfl (.cons (c:=.string ⟨⟨l⟩⟩) ?_ rfl (.inr rfl) (.str l) .nil) (ih (o+1) fun j l' h'=>by
      have:=hj (j+1) l' (by simpa using h')
      rwa [show o+(j+1)=o+1+j by omega] at this)
     have h0:=hj 0 l rfl
     rw [Nat.add_zero] at h0
     simp only [World.cell?,ms]
     simp [h0]
   have hk:=key xs 0 (fun j l h=>by rw [Nat.zero_add]; exact h)
   exact Rel.list (k:=.dP) (sz:=1) (es:=xs.map (fun l=>AV.str l)) hk (by rw [List.length_map]) (Nat.le_refl _) trivial
  ·exact hg.bq e rfl (fun b hb=>old b (hg.bI hb)) (fun b o hb hi=>im b o (hg.bI hb) hi) (fun b o hi=>by
    rcases hi with hi | hi
    ·have:=hg.wf b o hi; simp; omega
    ·subst hi; simp) (fun hd=>hd)⟩
theorem HI {g gm:FuncId} {m:Int} {t:TypeId} (hp:Plain E.P g) (hg:E.bN gm=some [.int .i64 m])
  (h:∀ (s:ByteArray) (c:UInt8) (w:World),s.size < 4294967281→w.cell? ⟨gm,0,none⟩=some (.int .i64 m)→Calls E.P g #[.string s,.string ⟨#[c]⟩] w fun e w'=>
   e=.returned (.slice (some ⟨w.heap.size,0,none⟩) (Lib.countB s ⟨#[c]⟩+1) (Lib.countB s ⟨#[c]⟩+1))∧w'=w.alloc (.cells ((Lib.splitB ⟨#[c]⟩ 0 (Lib.countB s ⟨#[c]⟩) s).map Value.string).toArray t)):ao E g CG:=fun x y hT=>by
 obtain ⟨s,c⟩:=x
 match c,hT with
 | [],hT=>cases hT
 | _ :: _ :: _,hT=>cases hT
 | [c],hT=>
  have hT:(bif decide (s.length < 4294967281) then some (fR c s) else none)=some y:=hT
  obtain ⟨h1,h2⟩:s.length < 4294967281∧fR c s=y:=by
   cases hd:decide (s.length < 4294967281) with
   | true=>rw [hd] at hT; exact ⟨of_decide_eq_true hd,Option.some.inj hT⟩
   | false=>rw [hd] at hT; cases hT
  subst h2
  have hB:=HH c s
  have nR:=Lib.splitB_all ⟨#[c]⟩ (Nat.le_refl 1) 0 _ ⟨⟨s⟩⟩ rfl
  have hlen:(fR c s).length=Lib.countB ⟨⟨s⟩⟩ ⟨#[c]⟩+1:=by rw [← hB,List.length_map,nR]
  have iw:=Lib.countB_le ⟨#[c]⟩ (Nat.le_refl 1) s.length ⟨⟨s⟩⟩ (by show s.length≤_; exact Nat.le_refl _)
  have iw:Lib.countB ⟨⟨s⟩⟩ ⟨#[c]⟩≤s.length:=iw
  refine aM.Wt (t:=t) hp (by rw [hlen]; omega) (fun R w cs hr hl=>?_) rfl
  have wI:cW R w gm 0 [.int .i64 m]:=(hr.bN gm _ hg).1
  have hm:w.cell? ⟨gm,0,none⟩=some (.int .i64 m):=by
   cases wI with
   | cons a1 _ _ a4 _=>cases a4; exact a1
  cases hl with
  | cons a1 hl=>
  cases hl with
  | cons a2 hl=>
  cases hl
  cases a1; cases a2
  refine (h ⟨⟨s⟩⟩ c w (by show s.length < _; exact h1) hm).mono ?_
  rintro e w' ⟨rfl,rfl⟩
  have e3:(Lib.splitB ⟨#[c]⟩ 0 (Lib.countB ⟨⟨s⟩⟩ ⟨#[c]⟩) ⟨⟨s⟩⟩).map Value.string=(fR c s).map fun l=>Value.string ⟨⟨l⟩⟩:=by
   rw [← hB,List.map_map]; rfl
  rw [hlen,e3]
  exact ⟨rfl,rfl⟩
theorem PB {g gm:FuncId} {m:Int} (hp:Plain E.P g) (hg:E.bN gm=some [.int .i64 m]) (hE:E.lo=0)
  (h:∀ (s:ByteArray) (c:UInt8) (w:World),s.size < 4294967281→w.cell? ⟨gm,0,none⟩=some (.int .i64 m)→Calls E.P g #[.string s,.string ⟨#[c]⟩] w fun e w'=>
   e=.returned (.tuple #[.string ⟨(Lib.cut s.data.toList [c]).1.toArray⟩,.string ⟨(Lib.cut s.data.toList [c]).2.1.toArray⟩,.bool (Lib.cut s.data.toList [c]).2.2])∧∃ n,w'=w.drewN n):ao E g PA:=fun x y hT=>by
 obtain ⟨s,c⟩:=x
 match c,hT with
 | [],hT=>cases hT
 | _ :: _ :: _,hT=>cases hT
 | [c],hT=>
  have hT:(bif decide (s.length < 4294967281) then some (we c s) else none)=some y:=hT
  obtain ⟨h1,h2⟩:s.length < 4294967281∧we c s=y:=by
   cases hd:decide (s.length < 4294967281) with
   | true=>rw [hd] at hT; exact ⟨of_decide_eq_true hd,Option.some.inj hT⟩
   | false=>rw [hd] at hT; cases hT
  subst h2
  refine fun G=>⟨hp,fun R w cs hr hl=>callsIn_wide.2 ?_⟩
  have wI:cW R w gm 0 [.int .i64 m]:=(hr.bN gm _ hg).1
  have hm:w.cell? ⟨gm,0,none⟩=some (.int .i64 m):=by
   cases wI with
   | cons a1 _ _ a4 _=>cases a4; exact a1
  have Ry:=hr.wf
  cases hl with
  | cons a1 hl=>
  cases hl with
  | cons a2 hl=>
  cases hl
  cases a1; cases a2
  refine (h ⟨⟨s⟩⟩ c w (by show s.length < _; exact h1) hm).mono ?_
  rintro e w' ⟨rfl,n,rfl⟩
  have hb:Below w.heap.size w (w.drewN n):=⟨rfl,rfl,rfl,Nat.le_refl _,fun _ _=>rfl⟩
  refine ⟨_,G,R,⟨rfl,rfl⟩,?_,Below.E0 hb hr hE,Below.xh hb Ry⟩
  have e4:Lib.cut (⟨⟨s⟩⟩:ByteArray).data.toList [c]=we c s:=NE c s
  rw [e4]
  exact Rel.aX (.cons (.str _) (.cons (.str _) (.cons (.bool _) .nil)))
theorem AU {R:ai} {w:World} {b:Nat}:∀ {zs:List Int} {k:IntKind} {o:Nat},cW R w b o (zs.map fun z=>AV.int k z)→∀ (j:Nat) z,zs[j]?=some z→w.cell? ⟨b,o+j,none⟩=some (.int k z)
 | [],_,_,_,j,z,h=>by simp at h
 | a :: zs,k,o,.cons h1 h2 h3 h4 t,0,z,h=>by
  cases h4
  simp only [List.getElem?_cons_zero,Option.some.injEq] at h
  subst h
  exact h1
 | a :: zs,k,o,.cons h1 h2 h3 h4 t,j+1,z,h=>by
  have:=AU t j z (by simpa using h)
  rwa [show o+(j+1)=o+1+j by omega]
theorem iD.xd {nm:String} {gt:Nat} {k:IntKind} {zs:List Int} (hn:E.P.globalNamed nm=some gt) (hx:E.gx gt=true) (h0:1≤zs.length) (h:iD E R w gt (zs.map fun z=>AV.int k z)):Lib.TabIs E.P w nm k zs:=by
 obtain ⟨h1,h2⟩:=h
 obtain ⟨_,h2⟩:=h2 hx
 rw [List.length_map] at h2
 have hg:=AU h1
 unfold Lib.TabIs World.var?
 rw [hn]
 have Rf:=hg 0 zs[0] (by simp [List.getElem?_eq_getElem h0])
 cases hb:w.heap[gt]? with
 | none=>simp [World.cell?,hb] at Rf
 | some ob=>
  cases ob with
  | cells cs t fr=>
   have hc:∀ j,w.cell? ⟨gt,j,none⟩=cs[j]?:=fun j=>by simp [World.cell?,hb]
   have e:cs=(zs.map fun z=>Value.int k z).toArray:=by
    apply Array.ext'
    rw [List.toList_toArray]
    apply List.ext_getElem?
    intro j
    rw [Array.getElem?_toList,List.getElem?_map]
    rcases Nat.lt_or_ge j zs.length with hj | hj
    ·have:=hg j zs[j] (by simp [List.getElem?_eq_getElem hj])
     rw [Nat.zero_add,hc] at this
     rw [this,List.getElem?_eq_getElem hj]; rfl
    ·have hz:zs[j]?=none:=List.getElem?_eq_none hj
     rw [hz,Option.map_none]
     rw [hc] at h2
     have hs:cs.size≤zs.length:=by simpa using h2
     exact Array.getElem?_eq_none (by omega)
   show (match w.heap[gt]? with | some (.cells cs _ _)=>some cs | _=>none)=_
   rw [hb,e]
  | _=>simp [World.cell?,hb] at Rf
theorem HJ {g gt:FuncId} {nm:String} (hp:Plain E.P g) (hg:E.bN gt=some (Lib.pow10Tab.map fun z=>AV.int .u64 z)) (hx:E.gx gt=true) (hn:E.P.globalNamed nm=some gt) (hE:E.lo=0)
  (h:∀ (n:Int) (w:World),-9223372036854775808≤n→n≤9223372036854775807→Lib.TabIs E.P w nm .u64 Lib.pow10Tab→Calls E.P g #[.int .i64 n] w fun e w'=>
   e=.returned (.string ⟨(Lib.itoa n).toArray⟩)∧∃ k os,w'=Sort.grow (w.drewN k) os):ao E g CF:=fun x y hT=>by
 obtain ⟨n,rfl⟩:∃ n:Int,(show CF.ps.T from n)=x:=⟨x,rfl⟩
 have hT:(bif decide (-9223372036854775808≤n)&&decide (n≤9223372036854775807) then some (Lib.itoa n) else none)=some y:=hT
 obtain ⟨h1,h2⟩:=AL.cond_some' hT
 subst h2
 rw [Bool.and_eq_true] at h1
 have a:=of_decide_eq_true h1.1
 have b:=of_decide_eq_true h1.2
 refine fun G=>⟨hp,fun R w cs hr hl=>callsIn_wide.2 ?_⟩
 have yH:=(hr.bN gt _ hg).xd hn hx (by rw [Lib.pow10Tab_length]; decide)
 have Ry:=hr.wf
 cases hl with
 | cons a1 hl=>
 cases hl
 cases a1
 refine (h n w a b yH).mono ?_
 rintro e w' ⟨rfl,k,os,rfl⟩
 have hb:Below w.heap.size w (Sort.grow (w.drewN k) os):=⟨rfl,rfl,rfl,by simp [Sort.grow,World.drewN],fun i hi=>by
  show (w.heap++os)[i]?=_
  rw [Array.getElem?_append_left hi]⟩
 exact ⟨_,G,R,⟨rfl,rfl⟩,Rel.str _,Below.E0 hb hr hE,Below.xh hb Ry⟩
end
end Go.Am
namespace Go.Am
open Go
section
variable {κ ν:Type} [DecidableEq κ]
def getM (k:κ):List (κ × ν)→Option ν
 | []=>none
 | (k',v) :: m=>if k=k' then some v else getM k m
def oU (k:κ) (v:ν):List (κ × ν)→List (κ × ν)
 | []=>[(k,v)]
 | (k',v') :: m=>if k=k' then (k,v) :: m else (k',v') :: oU k v m
theorem AX (k k':κ) (v:ν):∀ m:List (κ × ν),getM k' (oU k v m)=if k'=k then some v else getM k' m
 | []=>rfl
 | (k1,v1) :: m=>by
  unfold oU
  by_cases h:k=k1
  ·subst h
   rw [if_pos rfl]
   by_cases h2:k'=k
   ·simp [getM,h2]
   ·simp [getM,h2]
  ·rw [if_neg h]
   by_cases h2:k'=k1
   ·subst h2
    have h3:¬ k'=k:=fun e=>h e.symm
    simp [getM,h3]
   ·simp only [getM,if_neg h2]
    exact AX k k' v m
theorem AY {k:κ} {v:ν}:∀ {m:List (κ × ν)},getM k m=none→oU k v m=m++[(k,v)]
 | [],_=>rfl
 | (k1,v1) :: m,h=>by
  unfold getM at h
  split at h
  ·cases h
  ·rename_i cj
   unfold oU
   rw [if_neg cj,AY h]
   rfl
theorem xi (k:κ) (l:List κ):getM k (l.map fun x=>(x,true))=if k∈l then some true else none:=by
 induction l with
 | nil=>rfl
 | cons a l ih=>
  simp only [List.map_cons,getM,ih,List.mem_cons]
  by_cases h:k=a
  ·simp [h]
  ·simp [h]
structure fT (ek:EK) (nk:κ→AV) (nv:ν→AV) (nM:κ × ν→AV):Prop where
 key:∀ a b,Bb ek (nk a) (nk b)=some (decide (a=b))
 pair:∀ x,nM x=.agg [nk x.1,nv x.2]
 exact:∀ x,(nM x).exact=true
variable {ek:EK} {nk:κ→AV} {nv:ν→AV} {nM:κ × ν→AV} (h:fT ek nk nv nM)
include h
theorem fT.UY:∀ m:List (κ × ν),ab (List.map nM m)=m.map fun x=>(nk x.1,nv x.2)
 | []=>rfl
 | x :: m=>by
  rw [List.map_cons,h.pair,ab,fT.UY m]
  rfl
theorem fT.keys (k:κ):∀ m:List (κ × ν),eH ek (nk k) (ab (List.map nM m))=true
 | []=>rfl
 | x :: m=>by
  have:=fT.keys k m
  rw [List.map_cons,h.pair,ab]
  show ((Bb ek (nk k) (nk x.1)).isSome&&eH ek (nk k) (ab (List.map nM m)))=true
  rw [this,h.key]
  rfl
theorem fT.get (k:κ):∀ m:List (κ × ν),dV ek (nk k) (ab (List.map nM m))=(getM k m).map nv
 | []=>rfl
 | x :: m=>by
  have ih:=fT.get k m
  rw [List.map_cons,h.pair,ab]
  show (bif sI ek (nk k) (nk x.1) then some (nv x.2) else dV ek (nk k) (ab (List.map nM m)))=(if k=x.1 then some x.2 else getM k m).map nv
  unfold sI
  rw [h.key,ih]
  by_cases e:k=x.1
  ·simp [e]
  ·simp [e]
theorem fT.getD (k:κ) (z:ν) (m:List (κ × ν)):b9 ek (nk k) (nv z) (ab (List.map nM m))=nv ((getM k m).getD z):=by
 unfold b9
 rw [h.get]
 cases getM k m <;> rfl
theorem fT.put (k:κ) (v:ν):∀ m:List (κ × ν),dD ek (nk k) (nv v) (ab (List.map nM m))=ab (List.map nM (oU k v m))
 | []=>by
  show [(nk k,nv v)]=ab [nM (k,v)]
  rw [h.pair]
  rfl
 | x :: m=>by
  have ih:=fT.put k v m
  rw [List.map_cons,h.pair,ab]
  show (bif sI ek (nk k) (nk x.1) then (nk k,nv v) :: ab (List.map nM m) else (nk x.1,nv x.2) :: dD ek (nk k) (nv v) (ab (List.map nM m)))=ab (List.map nM (if k=x.1 then (k,v) :: m else (x.1,x.2) :: oU k v m))
  unfold sI
  rw [h.key,ih]
  by_cases e:k=x.1
  ·simp only [e,decide_true,cond_true,if_true,List.map_cons]
   rw [h.pair (x.1,v),ab]
   rfl
  ·simp only [e,decide_false,cond_false,if_false,List.map_cons]
   rw [h.pair (x.1,x.2),ab]
   rfl
theorem fT.cells:∀ m:List (κ × ν),aj (ab (List.map nM m))=List.map nM m
 | []=>rfl
 | x :: m=>by
  have ih:=fT.cells m
  rw [List.map_cons,h.pair,ab]
  show AV.agg [nk x.1,nv x.2] :: aj (ab (List.map nM m))=_
  rw [ih]
theorem fT.bt (m:List (κ × ν)):Go.Am.bt (ab (List.map nM m))=true:=by
 unfold Go.Am.bt
 rw [h.cells]
 induction m with
 | nil=>rfl
 | cons x m ih=>rw [List.map_cons,eQ,ih,h.exact]; rfl
end
theorem LV (a b:Int × Int):Bb (.st (.cons 0 1 false .int (.cons 1 1 false .int .nil))) (.agg [.int .i64 a.1,.int .i64 a.2]) (.agg [.int .i64 b.1,.int .i64 b.2])=some (decide (a=b)):=by
 obtain ⟨a1,a2⟩:=a
 obtain ⟨b1,b2⟩:=b
 have e:jM (.st (.cons 0 1 false .int (.cons 1 1 false .int .nil))) (.agg [.int .i64 a1,.int .i64 a2]) (.agg [.int .i64 b1,.int .i64 b2])=some ((a1 == b1)&&((a2 == b2)&&true)):=rfl
 unfold Bb
 rw [e]
 by_cases h1:a1=b1 <;> by_cases h2:a2=b2
 ·subst h1; subst h2
  simp [EK.wide,jR,kw,mf]
 all_goals simp [h1,h2]
end Go.Am
namespace Go.Am
open Go
theorem vh (ek:EK) (k v x:AV):∀ es:List (AV × AV),gl (dD ek k v es) (fu ek k es) x=dD ek k x es
 | []=>rfl
 | (k',v') :: l=>by
  unfold dD fu
  cases h:sI ek k k' with
  | true=>rfl
  | false=>
   simp only [cond_false,gl]
   rw [vh ek k v x l]
theorem HR (ek:EK) (k v:AV):∀ es:List (AV × AV),fu ek k es < (dD ek k v es).length
 | []=>Nat.zero_lt_one
 | (k',v') :: l=>by
  unfold dD fu
  cases h:sI ek k k' with
  | true=>exact Nat.zero_lt_succ _
  | false=>
   simp only [cond_false,List.length_cons]
   have:=HR ek k v l
   omega
theorem CI {V X:Type} (rd:(V→Option X)→V→Option X) (n:Nat) (v:V):kN rd (n+1) v=rd (kN rd n) v:=rfl
def E5 (L:List Nat):List Int:=L.map fun n:Nat=>(n:Int)
theorem HS {α:Type} (f:α→AV × AV) (m:List α) {i:Nat} (h:i < m.length):cZ (m.map f) i=f m[i]:=by
 unfold cZ
 rw [aR,List.getElem?_map,List.getElem?_eq_getElem h]
 rfl
end Go.Am
namespace Go.Am
open Go Go.RowKit Go.Proofs Go.Shelf Go.Sort
def A3:AV→Value
 | .bool b=>.bool b
 | .int k n=>.int k n
 | .str l=>.string ⟨⟨l⟩⟩
 | _=>.bool false
theorem Iq {R:ai} {w:World} {a:AV} {c:Value} (ha:eY a=true) (h:Rel R w a c):c=A3 a:=by
 cases a <;> first | (cases ha; done) | (cases h; rfl)
theorem Ir {R:ai} {w:World} {a:AV} (ha:eY a=true):Rel R w a (A3 a):=by
 cases a <;> first | (cases ha; done) | constructor
theorem q7 {R:ai} {w:World}:∀ {l:List AV} {vs:List Value},(∀ a∈l,eY a=true)→aD R w l vs→vs=l.map A3
 | [],_,_,h=>by cases h; rfl
 | a :: l,_,hs,.cons h t=>by
  rw [Iq (hs a (by simp)) h,q7 (fun b hb=>hs b (by simp [hb])) t]
  rfl
theorem nG {R:ai} {w:World}:∀ {l:List AV},(∀ a∈l,eY a=true)→aD R w l (l.map A3)
 | [],_=>.nil
 | a :: l,hs=>.cons (Ir (hs a (by simp))) (nG fun b hb=>hs b (by simp [hb]))
theorem vo {a:AV} (ha:eY a=true):(A3 a).oneCell'=true:=by
 cases a <;> first | (cases ha; done) | rfl
structure nH (P:Program) (bN:Nat→Option (List AV)) (c:FuncId) (p:an) (k:Nat) (cf:p.T→p.T→Int):Prop where
 flat:p.flat=true
 size:∀ x,(p.enc x).cells.length=k
 CO:∀ x,∀ a∈(p.enc x).cells,eY a=true
 agg:∀ x,∃ cs,p.enc x=.agg cs
 calls:∀ (E:Env),E.P=P→E.bN=bN→E.gx=(fun _=>false)→∀ x y,aM E c [p.enc x,p.enc y] (fun r=>r=.int .i64 (cf x y))
 swo:SWO (ltOf cf)
 U1:∀ x y,(ltOf cf) x y=false→(ltOf cf) y x=false→x=y
def xj (p:an) (cf:p.T→p.T→Int) (es:List AV):List AV:=(((es.map p.bf).mergeSort fun x y=>!(ltOf cf) y x)).map p.enc
def vp (p:an) (cf:p.T→p.T→Int) (sz:Nat) (el:TypeId) (c:FuncId):List AV→List GO→Option (Bool × AV × List GO)
 | [.dC id f off T6 len,.fn c' [] []],G=>match nth G id with
  | some (.dm es kV Mx)=>if Nat.beq c c'&&Nat.beq off 0&&Nat.beq T6 sz&&Nat.beq kV sz&&Nat.beq Mx el then
    some (decide (f=es.length)&&decide (len=es.length)&&decide (es.length≤140737488355328)&&allFit p.fits es,.aX [],aw G id (.dm (xj p cf es) sz el)) else none
  | _=>none
 | _,_=>none
theorem wg {W W':World} (h:Below W.heap.size W W') (hd:W.drawn≤W'.drawn):∃ q os,W'=Sort.grow (W.drewN q) os:=by
 refine ⟨W'.drawn - W.drawn,W'.heap.extract W.heap.size W'.heap.size,?_⟩
 have hh:W'.heap=W.heap++W'.heap.extract W.heap.size W'.heap.size:=by
  apply Array.ext_getElem?
  intro i
  by_cases hi:i < W.heap.size
  ·rw [Array.getElem?_append_left hi]
   exact h.block i hi
  ·rw [Array.getElem?_append_right (by omega),Array.getElem?_extract]
   have hs:=h.size
   by_cases hj:i < W'.heap.size
   ·rw [if_pos (by omega)]
    congr 1
    omega
   ·rw [if_neg (by omega),Array.getElem?_eq_none (by omega)]
 obtain ⟨hp,tp,dr,os,out⟩:=W'
 have h1:=h.os
 have h2:=h.tape
 have h3:=h.output
 simp only at hh h1 h2 h3 hd
 unfold Sort.grow World.drewN
 simp only
 rw [← hh,h1,h2,h3]
 congr 1
 omega
def fg (p:an) (x:p.T):List Value:=((p.enc x).cells).map A3
theorem qi {α:Type} [Inhabited α] {enc:α→List Value} {k:Nat} (hk:∀ x,(enc x).length=k):∀ (l:List α) (t:Nat),t < l.length * k→(l.flatMap enc)[t]?=some ((enc l[t / k]!)[t % k]!)
 | [],t,h=>by simp at h
 | x :: l,t,h=>by
  have Bd:0 < k:=by
   rcases Nat.eq_zero_or_pos k with h0 | h0
   ·rw [h0] at h; omega
   ·exact h0
  rw [List.flatMap_cons]
  by_cases ht:t < k
  ·rw [List.getElem?_append_left (by rw [hk]; exact ht),Nat.div_eq_of_lt ht,Nat.mod_eq_of_lt ht]
   have hl:t < (enc x).length:=by rw [hk]; exact ht
   simp [hl]
  ·have ht:k≤t:=Nat.le_of_not_lt ht
   rw [List.getElem?_append_right (by rw [hk]; exact ht),hk]
   have h':t - k < l.length * k:=by
    rw [List.length_cons,Nat.add_mul,Nat.one_mul] at h
    omega
   rw [qi hk l (t - k) h']
   have e1:t / k=(t - k) / k+1:=by
    rw [Nat.div_eq_sub_div Bd ht]
   have e2:t % k=(t - k) % k:=Nat.mod_eq_sub_mod ht
   rw [e1,e2]
   simp
theorem xl {α:Type} [Inhabited α] {enc:α→List Value} {k:Nat} (hk:∀ x,(enc x).length=k) (d:Array α):(flatK enc k d).toList=d.toList.flatMap enc:=by
 have hl:(d.toList.flatMap enc).length=d.size * k:=by
  obtain ⟨l⟩:=d
  show (l.flatMap enc).length=l.length * k
  induction l with
  | nil=>simp
  | cons x l ih=>rw [List.flatMap_cons,List.length_append,hk,ih,List.length_cons,Nat.add_mul,Nat.one_mul,Nat.add_comm]
 apply List.ext_getElem?
 intro t
 by_cases ht:t < d.size * k
 ·have h1:=qi hk d.toList t (by simpa using ht)
  rw [h1]
  have hs:t < (flatK enc k d).size:=by rw [size_flatK]; exact ht
  have h2:=get_flatK enc k d t ht
  rw [getElem!_pos (flatK enc k d) t hs] at h2
  have e:∀ i:Nat,d[i]! = d.toList[i]!:=fun i=>by rw [getElem!_def,getElem!_def,Array.getElem?_toList]
  rw [Array.getElem?_toList,Array.getElem?_eq_getElem hs,h2,e]
 ·rw [List.getElem?_eq_none (by rw [Array.length_toList,size_flatK]; omega),List.getElem?_eq_none (by rw [hl]; omega)]
theorem oV (p:an):∀ (xs:List p.T),(ar (xs.map p.enc)).map A3=xs.flatMap (fg p)
 | []=>rfl
 | x :: xs=>by
  rw [List.map_cons,ar,List.map_append,oV p xs,List.flatMap_cons]
  rfl
theorem lK {w:World} {b:Nat} {cur:Array Value} {el:TypeId} (h:w.heap[b]?=some (.cells cur el (0,0))) (f:Array Value→Array Value):mapBlock w b f=w.setRow b (f cur):=by
 unfold mapBlock World.setRow
 congr 1
 apply Array.ext_getElem?
 intro i
 rw [Array.getElem?_modify,Array.getElem?_modify]
 by_cases e:b=i
 ·subst e
  rw [if_pos rfl,if_pos rfl,h]
  rfl
 ·rw [if_neg e,if_neg e]
section
variable {E:Env} {ρ:Ren} {c:FuncId} {p:an} {k:Nat} {cf:p.T→p.T→Int} [Inhabited p.T]
theorem vq (hC:nH E.P E.bN c p k cf) (x:p.T):(fg p x).length=k:=by
 unfold fg
 rw [List.length_map,hC.size]
theorem Is (J8:E.gx=fun _=>false) (hC:nH E.P E.bN c p k cf) {R:ai} {w:World} {G:List GO} (hg:cI E R w G) {b:Nat} {cur:Array Value} {el:TypeId} (hb:w.heap[b]?=some (.cells cur el (0,0))) (hI:∀ o,¬ R.I b o) (size:Nat) :
  CmpLays E.P c #[] (fg p) k cf b 0 size w:=by
 intro m os dk _ x y
 have e1:putRowK (fg p) k (Sort.ahead w m) b 0 dk=(Sort.ahead w m).setRow b (putCells id 0 (flatK (fg p) k dk) cur):=lK (w:=Sort.ahead w m) hb _
 have hW:sortWorldK (fg p) k w b 0 m dk os=Sort.grow ((Sort.ahead w m).setRow b (putCells id 0 (flatK (fg p) k dk) cur)) os:=by
  unfold sortWorldK
  rw [e1]
 rw [hW]
 generalize putCells id 0 (flatK (fg p) k dk) cur=cur2
 have eA:Ext R w R (Sort.ahead w m):=⟨fun _ _ h=>h,fun _ _ _=>rfl,fun _ ro h=>⟨ro,h,bW.refl ro⟩,.old fun _ _=>rfl⟩
 have eS:Ext R (Sort.ahead w m) R ((Sort.ahead w m).setRow b cur2):=gG hI cur2
 have A4:Below ((Sort.ahead w m).setRow b cur2).heap.size ((Sort.ahead w m).setRow b cur2) (Sort.grow ((Sort.ahead w m).setRow b cur2) os):=by
  refine ⟨rfl,rfl,rfl,?_,fun i hi=>?_⟩
  ·show _≤(((Sort.ahead w m).setRow b cur2).heap++os).size
   rw [Array.size_append]; exact Nat.le_add_right _ _
  ·show (((Sort.ahead w m).setRow b cur2).heap++os)[i]?=_
   rw [Array.getElem?_append_left hi]
 have dG:((Sort.ahead w m).setRow b cur2).heap.size=w.heap.size:=by unfold World.setRow; simp [Sort.ahead]
 have eG:Ext R ((Sort.ahead w m).setRow b cur2) R (Sort.grow ((Sort.ahead w m).setRow b cur2) os):=Below.Pf A4 fun b' o hi=>by rw [dG]; exact hg.wf b' o hi
 have eW:=(eA.trans eS).trans eG
 generalize hWd:Sort.grow ((Sort.ahead w m).setRow b cur2) os=W at *
 have hWs:w.heap.size≤W.heap.size:=by rw [← dG]; exact A4.size
 let E':Env:={ E with lo:=W.drawn }
 let R0:ai:=⟨R.I,[]⟩
 have m0:Mv R R0 0:=⟨fun _ _ h=>h,fun _ _ h=>absurd h (Nat.not_lt_zero _)⟩
 have Je:cI E' R0 W []:=⟨rfl,fun id go ro h1 _=>by simp [nth] at h1,fun i j ri rj b h1=>by simp [R0,nth] at h1,fun b o h=>Nat.lt_of_lt_of_le (hg.wf b o h) hWs,
  fun g cs ox=>((hg.bN g cs ox).mono eW).move m0 (bS _ (E.me g cs ox)),Nat.le_refl _⟩
 have di:∀ z:p.T,Rel R0 W (p.enc z) (.agg (fg p z).toArray):=fun z=>by
  obtain ⟨cs,np⟩:=hC.agg z
  have hs:=hC.CO z
  unfold fg
  rw [np] at hs ⊢
  refine Rel.agg (nG hs) fun v hv=>?_
  obtain ⟨a,ha,rfl⟩:=List.mem_map.1 hv
  exact vo (hs a ha)
 have hc:=(hC.calls E' rfl rfl J8 x y []).2 R0 W [.agg (fg p x).toArray,.agg (fg p y).toArray] Je (.cons (di x) (.one (di y)))
 refine (callsIn_wide.1 hc).mono fun e w' he=>?_
 cases e with
 | panicked c=>exact he.elim
 | outgrown=>exact he.elim
 | returned cv=>
  obtain ⟨r,G',R1,⟨rfl,rfl⟩,hr,JZ,st⟩:=he
  have Bt:cv=.int .i64 (cf x y):=by cases hr; rfl
  subst Bt
  have gY:∀ b,¬ Own R0 (fun _=>0) dW b:=fun b ho=>by
   obtain ⟨id,ro,h1,_⟩:=dJ ho
   simp [R0,nth] at h1
  refine ⟨rfl,wg ⟨st.os,st.tape,st.output,st.size,fun i hi=>st.bq i hi (gY i)⟩ JZ.lo⟩
theorem A5 {p:an} (hp:p.flat=true):∀ es:List AV,allFit p.fits es=true→es=(es.map p.bf).map p.enc
 | [],_=>rfl
 | a :: es,h=>by
  simp only [allFit,Bool.and_eq_true] at h
  rw [List.map_cons,List.map_cons,← A5 hp es h.2,an.ia hp h.1]
theorem vr (L:SlLaysF0.n6 E.P ρ) (hp:Plain E.P (ρ.f 6)) (hc:Plain E.P c) (aE:∀ w,(isAgg (ρ.t 24)).run E.P w=.ok true w) (zE:∀ w,(Go.sizeOf (ρ.t 24)).run E.P w=.ok k w) (hC:nH E.P E.bN c p k cf) (hE:E.lo=0) (Bd:1≤k) {el:TypeId} (J8:E.gx=fun _=>false:=by rfl) :
  ∀ (args:List AV) (G:List GO) (r:AV) (G':List GO),vp p cf k el c args G=some (true,r,G')→bU E (ρ.f 6) args G (fun r' wY=>r'=r∧wY=G'):=by
 intro args G r G' h
 unfold vp at h
 split at h
 ·rename_i G1 Xt f off T6 len c'
  split at h
  ·rename_i es kV Mx hid
   split at h
   ·rename_i b6
    simp only [Bool.and_eq_true] at b6
    obtain ⟨⟨⟨⟨q1,q2⟩,q3⟩,q4⟩,q5⟩:=b6
    have q1:=Nat.eq_of_beq_eq_true q1
    have q2:=Nat.eq_of_beq_eq_true q2
    have q3:=Nat.eq_of_beq_eq_true q3
    have q4:=Nat.eq_of_beq_eq_true q4
    have q5:=Nat.eq_of_beq_eq_true q5
    subst q1; subst q2; subst q3; subst q4; subst q5
    injection h with h
    injection h with h1 h
    injection h with h2 h3
    subst h2; subst h3
    simp only [Bool.and_eq_true,decide_eq_true_eq] at h1
    obtain ⟨⟨⟨hf,qj⟩,hbig⟩,pE⟩:=h1
    refine ⟨hp,fun R w cs hg hl=>callsIn_wide.2 ?_⟩
    cases hl with
    | @cons _ cv _ _ r1 hl=>
    cases hl with
    | @cons _ fv _ _ r2 hl=>
    cases hl
    cases r2 with
    | fn x1 x2=>
    cases x1; cases x2
    by_cases he:es=[]
    ·subst he
     obtain ⟨pa,cap,rfl⟩:∃ pa cap,cv=.slice pa 0 cap:=by
      have qj:len=0:=qj
      subst qj
      cases r1 with
      | gA _ _=>exact ⟨_,_,rfl⟩
      | dC _ _ _=>exact ⟨_,_,rfl⟩
     refine (AnyF.slices_SortFunc_none (P:=E.P) (ρ:=ρ) L pa cap _ w).mono fun e w' ⟨e1,e2⟩=>?_
     subst e1; subst e2
     have T7:xj p cf []=[]:=by simp [xj]
     have hG:aw G Xt (.dm (xj p cf []) kV Mx)=G:=by rw [T7]; exact gV hid
     rw [hG]
     exact ⟨.aX [],G,R,⟨rfl,rfl⟩,Rel.aX .nil,hg,Step.refl _ _ _ _⟩
    ·have mw:0 < es.length:=List.length_pos_iff.2 he
     cases r1 with
     | gA _ _=>omega
     | @dC _ _ _ _ _ cap b o' ro bA dE fN=>
     subst hf; subst qj
     obtain ⟨b',c',cur,vs,rfl,g1,g2,g3,g4,g5,g6,g7,g8,g9⟩:=jU hg hid bA (fun k=>by subst k; exact dE)
     obtain ⟨rfl,zD,ql⟩:=dE.2 rfl
     have mb:o'=0:=by
      rcases ql with ql | ql
      ·rw [ql,Nat.zero_mul]
      ·omega
     subst mb
     -- the elements by their leaves
     have sk:=A5 hC.flat es pE
     generalize JC:es.map p.bf=xs at sk
     have hlen:xs.length=es.length:=by rw [← JC,List.length_map]
     have Od:∀ (ys:List p.T),∀ a∈ar (ys.map p.enc),eY a=true:=fun ys=>by
      induction ys with
      | nil=>intro a ha; simp [ar] at ha
      | cons y ys ih=>
       intro a ha
       rw [List.map_cons,ar] at ha
       rcases List.mem_append.1 ha with ha | ha
       ·exact hC.CO y a ha
       ·exact ih a ha
     have OY:vs=xs.flatMap (fg p):=by
      rw [sk] at g7
      rw [q7 (Od xs) g7,oV]
     have hd:(xs.toArray).size=es.length:=by simpa using hlen
     have T8:(flatK (fg p) kV xs.toArray).toList=vs:=by rw [xl (vq hC),OY]
     have JG:(flatK (fg p) kV xs.toArray).size=es.length * kV:=by rw [size_flatK,hd]
     have iw:cur.toList.length=c' * kV:=by rw [show cur.toList.length=cur.size from Array.length_toList,g5]
     have hle:es.length * kV≤c' * kV:=Nat.mul_le_mul_right _ g3
     have hH:HoldsK (fg p) kV w b 0 xs.toArray:=by
      intro j hj
      rw [JG] at hj
      refine ⟨?_,?_⟩
      ·have U2:j < (flatK (fg p) kV xs.toArray).size:=by rw [JG]; exact hj
       rw [getElem!_pos (flatK (fg p) kV xs.toArray) j U2,Nat.zero_add,cell_of_row w b j cur Mx (0,0) g2]
       have h1:cur[j]?=vs[j]?:=by
        rw [← g9,List.getElem?_take,if_pos hj,← Array.getElem?_toList]
       rw [h1,← T8,Array.getElem?_toList,Array.getElem?_eq_getElem U2]
       rfl
      ·unfold World.frozen?
       rw [g2]
       simp
     have hCL:=Is J8 hC hg g2 g6 xs.toArray.size
     have key:=AnyQ.slices_SortFunc_total L kV aE zE (fg p) (vq hC) (fun x v hv=>by
      obtain ⟨a,ha,rfl⟩:=List.mem_map.1 hv
      exact vo (hC.CO x a ha)) cf hC.swo c #[] b 0 cap xs.toArray w (lq hc) hCL hH (aV g2) (by rw [hd]; omega) hC.U1
     rw [hd] at key
     refine key.mono fun e w' ⟨e1,n,os,e2⟩=>?_
     subst e1
     -- the world behind
     have e3:putRowK (fg p) kV (Sort.ahead w n) b 0 (xs.mergeSort fun x y=>!(ltOf cf) y x).toArray=(Sort.ahead w n).setRow b (putCells (fun v=>v) 0 (flatK (fg p) kV (xs.mergeSort fun x y=>!(ltOf cf) y x).toArray) cur):=lK (w:=Sort.ahead w n) g2 _
     have e4:w'=Sort.grow ((Sort.ahead w n).setRow b (putCells (fun v=>v) 0 (flatK (fg p) kV (xs.mergeSort fun x y=>!(ltOf cf) y x).toArray) cur)) os:=by
      rw [e2]
      unfold sortWorldK
      rw [e3]
     clear e2 e3 key
     generalize JF:(xs.mergeSort fun x y=>!(ltOf cf) y x)=ys at e4
     have Rt:ys.length=es.length:=by rw [← JF,List.length_mergeSort,hlen]
     have Xu:xj p cf es=ys.map p.enc:=by unfold xj; rw [JC,JF]
     rw [Xu]
     have hfy:(flatK (fg p) kV ys.toArray).toList=ys.flatMap (fg p):=by rw [xl (vq hC)]
     have T9:(flatK (fg p) kV ys.toArray).size=es.length * kV:=by rw [size_flatK]; simp [Rt]
     have CP:(putCells (fun v=>v) 0 (flatK (fg p) kV ys.toArray) cur).size=cur.size:=by simp [putCells]
     have zi:(putCells (fun v=>v) 0 (flatK (fg p) kV ys.toArray) cur).toList.take (es.length * kV)=ys.flatMap (fg p):=by
      rw [← hfy]
      apply List.ext_getElem?
      intro t
      rw [List.getElem?_take]
      by_cases ht:t < es.length * kV
      ·have h1:t < (flatK (fg p) kV ys.toArray).size:=by rw [T9]; exact ht
       have h2:t < cur.size:=by rw [g5]; omega
       rw [if_pos ht,Array.getElem?_toList,Array.getElem?_toList,Array.getElem?_eq_getElem h1,Array.getElem?_eq_getElem (by rw [CP]; exact h2)]
       simp only [putCells,Array.getElem_mapIdx,Nat.zero_le,Nat.zero_add,h1,and_self,if_true,Nat.sub_zero]
       rw [getElem!_pos (flatK (fg p) kV ys.toArray) t h1]
      ·rw [if_neg ht,List.getElem?_eq_none (by rw [Array.length_toList,T9]; omega)]
     generalize putCells (fun v=>v) 0 (flatK (fg p) kV ys.toArray) cur=cur2 at e4 CP zi
     have B8:∀ v∈ys.flatMap (fg p),v.oneCell'=true:=fun v hv=>by
      obtain ⟨y,_,hy⟩:=List.mem_flatMap.1 hv
      obtain ⟨a,ha,rfl⟩:=List.mem_map.1 hy
      exact vo (hC.CO y a ha)
     have nj:cK kV (ys.map p.enc):=fun a ha=>by
      obtain ⟨y,_,rfl⟩:=List.mem_map.1 ha
      refine ⟨hC.size y,?_⟩
      obtain ⟨cs,np⟩:=hC.agg y
      rw [np]; rfl
     have di:aD R w (ar (ys.map p.enc)) (ys.flatMap (fg p)):=by
      rw [← oV]
      exact nG (Od ys)
     have cb:aY E R w (fun _=>0) ⟨[],[],G,[],none,0⟩ (⟨#[],[]⟩:Act):=
      ⟨hg,⟨fun k cs h=>by simp [cG] at h,fun k k' cs cs' h=>by simp [cG] at h⟩,fun i hi=>absurd rfl hi,rfl,trivial⟩
     obtain ⟨k1,k2⟩:=cb.xR (es':=ys.map p.enc) hid bA g2 (by rw [List.length_map,Rt]) nj CP di B8 zi
     have A4:Below (w.setRow b cur2).heap.size (w.setRow b cur2) w':=by
      rw [e4]
      refine ⟨rfl,rfl,rfl,?_,fun i hi=>?_⟩
      ·show _≤((w.setRow b cur2).heap++os).size
       rw [Array.size_append]; exact Nat.le_add_right _ _
      ·show ((w.setRow b cur2).heap++os)[i]?=_
       rw [Array.getElem?_append_left hi]
     exact ⟨.aX [],_,R,⟨rfl,rfl⟩,Rel.aX .nil,Below.E0 A4 k1.g hE,k2.trans (Below.xh A4 k1.g.wf)⟩
   ·cases h
  ·cases h
 ·cases h
end
end Go.Am
namespace Go.Am
open Go Go.Sort
section
variable {α:Type} [DecidableEq α] {lt:α→α→Bool}
end
end Go.Am
namespace Go.Am
open Go Go.RowKit Go.Proofs Go.Shelf Go.Sort
def isInt:AV→Bool
 | .int .i64 _=>true
 | _=>false
def ze:AV→Int
 | .int _ n=>n
 | _=>0
def jJ (n:Int):AV:=.int .i64 n
def xA (es:List AV):List AV:=((es.map ze).mergeSort fun x y=>decide (x≤y)).map jJ
def zf:List AV→Bool
 | []=>true
 | a :: l=>isInt a&&zf l
def CY (el:TypeId):List AV→List GO→Option (Bool × AV × List GO)
 | [.dC id f off T6 len],G=>match nth G id with
  | some (.dm es kV Mx)=>if Nat.beq off 0&&Nat.beq T6 1&&Nat.beq kV 1&&Nat.beq Mx el then
    some (decide (f=es.length)&&decide (len=es.length)&&decide (es.length≤140737488355328)&&zf es,.aX [],aw G id (.dm (xA es) 1 el)) else none
  | _=>none
 | _,_=>none
theorem vG:∀ es:List AV,zf es=true→es=(es.map ze).map jJ
 | [],_=>rfl
 | a :: es,h=>by
  simp only [zf,Bool.and_eq_true] at h
  have ih:=vG es h.2
  have ha:a=jJ (ze a):=by
   have:=h.1
   unfold isInt at this
   split at this
   ·rfl
   ·cases this
  rw [List.map_cons,List.map_cons,← ih,← ha]
theorem lR:∀ zs:List Int,ar (zs.map jJ)=zs.map jJ
 | []=>rfl
 | z :: zs=>by
  show [jJ z]++ar (zs.map jJ)=jJ z :: zs.map jJ
  rw [lR zs]
  rfl
theorem rk:∀ zs:List Int,(zs.map jJ).map A3=zs.map (Value.int .i64)
 | []=>rfl
 | z :: zs=>by rw [List.map_cons,List.map_cons,rk zs]; rfl
section
variable {E:Env} {ρ:Ren}
theorem IV (L:Lays.n189 E.P ρ) (hp:Plain E.P (ρ.f 189)) (hE:E.lo=0) {el:TypeId} :
  ∀ (args:List AV) (G:List GO) (r:AV) (G':List GO),CY el args G=some (true,r,G')→bU E (ρ.f 189) args G (fun r' wY=>r'=r∧wY=G'):=by
 intro args G r G' h
 unfold CY at h
 split at h
 ·rename_i G1 Xt f off T6 len
  split at h
  ·rename_i es kV Mx hid
   split at h
   ·rename_i b6
    simp only [Bool.and_eq_true] at b6
    obtain ⟨⟨⟨q2,q3⟩,q4⟩,q5⟩:=b6
    have q2:=Nat.eq_of_beq_eq_true q2
    have q3:=Nat.eq_of_beq_eq_true q3
    have q4:=Nat.eq_of_beq_eq_true q4
    have q5:=Nat.eq_of_beq_eq_true q5
    subst q2; subst q3; subst q4; subst q5
    injection h with h
    injection h with h1 h
    injection h with h2 h3
    subst h2; subst h3
    simp only [Bool.and_eq_true,decide_eq_true_eq] at h1
    obtain ⟨⟨⟨hf,qj⟩,hbig⟩,pE⟩:=h1
    refine ⟨hp,fun R w cs hg hl=>callsIn_wide.2 ?_⟩
    cases hl with
    | @cons _ cv _ _ r1 hl=>
    cases hl
    by_cases he:es=[]
    ·subst he
     obtain ⟨pa,cap,rfl⟩:∃ pa cap,cv=.slice pa 0 cap:=by
      have qj:len=0:=qj
      subst qj
      cases r1 with
      | gA _ _=>exact ⟨_,_,rfl⟩
      | dC _ _ _=>exact ⟨_,_,rfl⟩
     refine (Any.slices_Sort_int_none (P:=E.P) (ρ:=ρ) L pa cap w).mono fun e w' ⟨e1,e2⟩=>?_
     subst e1; subst e2
     have T7:xA []=[]:=by simp [xA]
     have hG:aw G Xt (.dm (xA []) 1 Mx)=G:=by rw [T7]; exact gV hid
     rw [hG]
     exact ⟨.aX [],G,R,⟨rfl,rfl⟩,Rel.aX .nil,hg,Step.refl _ _ _ _⟩
    ·have mw:0 < es.length:=List.length_pos_iff.2 he
     cases r1 with
     | gA _ _=>omega
     | @dC _ _ _ _ _ cap b o' ro bA dE fN=>
     subst hf; subst qj
     obtain ⟨b',c',cur,vs,rfl,g1,g2,g3,g4,g5,g6,g7,g8,g9⟩:=jU hg hid bA (fun k=>by subst k; exact dE)
     obtain ⟨rfl,zD,ql⟩:=dE.2 rfl
     have mb:o'=0:=by
      rcases ql with ql | ql
      ·rw [ql,Nat.zero_mul]
      ·omega
     subst mb
     -- the elements by their leaves
     have sk:=vG es pE
     generalize JC:es.map ze=xs at sk
     have hlen:xs.length=es.length:=by rw [← JC,List.length_map]
     have Od:∀ (ys:List Int),∀ a∈ar (ys.map jJ),eY a=true:=fun ys a ha=>by
      rw [lR] at ha
      obtain ⟨y,_,rfl⟩:=List.mem_map.1 ha
      rfl
     have OY:vs=xs.map (Value.int .i64):=by
      rw [sk] at g7
      rw [q7 (Od xs) g7,lR,rk]
     have hd:(xs.toArray).size=es.length:=by simpa using hlen
     have iw:cur.toList.length=c':=by rw [show cur.toList.length=cur.size from Array.length_toList,g5,Nat.mul_one]
     have hH:Holds (Value.int .i64) w b 0 xs.toArray:=by
      intro j hj
      rw [hd] at hj
      refine ⟨?_,?_⟩
      ·have U2:j < xs.length:=by omega
       have hj3:j < xs.toArray.size:=by rw [hd]; exact hj
       rw [getElem!_pos xs.toArray j hj3,Nat.zero_add,cell_of_row w b j cur Mx (0,0) g2]
       have h1:cur[j]?=vs[j]?:=by
        rw [← g9,List.getElem?_take,if_pos (by omega),← Array.getElem?_toList]
       rw [h1,OY,List.getElem?_map,List.getElem?_eq_getElem U2]
       rfl
      ·unfold World.frozen?
       rw [g2]
       simp
     have key:=Any.slices_Sort_int L b 0 cap xs w hH (aV g2) (by omega)
     rw [hlen] at key
     refine key.mono fun e w' ⟨e1,n,os,e2⟩=>?_
     subst e1
     -- the world behind
     have e3:putRow (Value.int .i64) (Sort.ahead w n) b 0 (xs.mergeSort fun x y=>decide (x≤y)).toArray=(Sort.ahead w n).setRow b (putCells (Value.int .i64) 0 (xs.mergeSort fun x y=>decide (x≤y)).toArray cur):=lK (w:=Sort.ahead w n) g2 _
     have e4:w'=Sort.grow ((Sort.ahead w n).setRow b (putCells (Value.int .i64) 0 (xs.mergeSort fun x y=>decide (x≤y)).toArray cur)) os:=by
      rw [e2,e3]
     clear e2 e3 key
     generalize JF:(xs.mergeSort fun x y=>decide (x≤y))=ys at e4
     have Rt:ys.length=es.length:=by rw [← JF,List.length_mergeSort,hlen]
     have Xu:xA es=ys.map jJ:=by unfold xA; rw [JC,JF]
     rw [Xu]
     have CP:(putCells (Value.int .i64) 0 ys.toArray cur).size=cur.size:=by simp [putCells]
     have zi:(putCells (Value.int .i64) 0 ys.toArray cur).toList.take (es.length * 1)=ys.map (Value.int .i64):=by
      apply List.ext_getElem?
      intro t
      rw [List.getElem?_take,Nat.mul_one]
      by_cases ht:t < es.length
      ·have h1:t < ys.length:=by omega
       have h2:t < cur.size:=by rw [g5]; omega
       have h3:t < ys.toArray.size:=by simpa using h1
       rw [if_pos ht,Array.getElem?_toList,Array.getElem?_eq_getElem (by rw [CP]; exact h2),List.getElem?_map,List.getElem?_eq_getElem h1]
       simp only [putCells,Array.getElem_mapIdx,Nat.zero_le,Nat.zero_add,h3,and_self,if_true,Nat.sub_zero]
       rw [getElem!_pos ys.toArray t h3]
       rfl
      ·rw [if_neg ht,List.getElem?_eq_none (by rw [List.length_map]; omega)]
     generalize putCells (Value.int .i64) 0 ys.toArray cur=cur2 at e4 CP zi
     have B8:∀ v∈ys.map (Value.int .i64),v.oneCell'=true:=fun v hv=>by
      obtain ⟨y,_,rfl⟩:=List.mem_map.1 hv
      rfl
     have nj:cK 1 (ys.map jJ):=fun a ha=>by
      obtain ⟨y,_,rfl⟩:=List.mem_map.1 ha
      exact ⟨rfl,rfl⟩
     have di:aD R w (ar (ys.map jJ)) (ys.map (Value.int .i64)):=by
      rw [← rk]
      have:=nG (R:=R) (w:=w) (Od ys)
      rw [lR] at this ⊢
      exact this
     have cb:aY E R w (fun _=>0) ⟨[],[],G,[],none,0⟩ (⟨#[],[]⟩:Act):=
      ⟨hg,⟨fun k cs h=>by simp [cG] at h,fun k k' cs cs' h=>by simp [cG] at h⟩,fun i hi=>absurd rfl hi,rfl,trivial⟩
     obtain ⟨k1,k2⟩:=cb.xR (es':=ys.map jJ) hid bA g2 (by rw [List.length_map,Rt]) nj CP di B8 zi
     have A4:Below (w.setRow b cur2).heap.size (w.setRow b cur2) w':=by
      rw [e4]
      refine ⟨rfl,rfl,rfl,?_,fun i hi=>?_⟩
      ·show _≤((w.setRow b cur2).heap++os).size
       rw [Array.size_append]; exact Nat.le_add_right _ _
      ·show ((w.setRow b cur2).heap++os)[i]?=_
       rw [Array.getElem?_append_left hi]
     exact ⟨.aX [],_,R,⟨rfl,rfl⟩,Rel.aX .nil,Below.E0 A4 k1.g hE,k2.trans (Below.xh A4 k1.g.wf)⟩
   ·cases h
  ·cases h
 ·cases h
end
end Go.Am
namespace Go.Am
open Go Go.RowKit Go.Proofs Go.Shelf Go.Lib
def IW (sz mm:Nat) (el:TypeId):List AV→List GO→Option (Bool × AV × List GO)
 | [.list .nil _ [],.int .i64 n],G=>some (decide (0≤n∧n * (mm:Int)≤140737488355328∧n≤4611686018427387904),.dC G.length 0 0 sz 0,G++[.dm [] sz el])
 | _,_=>none
section
variable {E:Env} {ρ:Ren}
theorem IX (L:Lays8.n4 E.P ρ) (hp:Plain E.P (ρ.f 4)) (i0:TypeInfo) (z:Value) (hi0:E.P.info? (ρ.t 25)=some i0) (Vs:i0.zero=some z) (T7:0 < i0.size) (hzs:z.cells.size=i0.size) :
  ∀ (args:List AV) (G:List GO) (r:AV) (G':List GO),IW i0.size i0.bytes (ρ.t 25) args G=some (true,r,G')→bU E (ρ.f 4) args G (fun r' wY=>r'=r∧wY=G'):=by
 intro args G r G' h
 unfold IW at h
 split at h
 ·rename_i G1 Yh n
  injection h with h
  injection h with h1 h
  injection h with h2 h3
  subst h2; subst h3
  have h1:=of_decide_eq_true h1
  obtain ⟨xJ,OD,abO⟩:=h1
  refine ⟨hp,fun R w cs hg hl=>callsIn_wide.2 ?_⟩
  cases hl with
  | @cons _ cv _ _ r1 hl=>
  cases hl with
  | @cons _ nv _ _ r2 hl=>
  cases hl
  cases r2
  have Bt:∃ c0,cv=.slice none 0 c0∧c0=0:=by
   cases r1 with
   | iB=>exact ⟨_,rfl,rfl⟩
   | list _ _ _ hk=>exact hk.elim
  obtain ⟨c0,rfl,rfl⟩:=Bt
  obtain ⟨m,rfl⟩:∃ m:Nat,n=(m:Int):=⟨n.toNat,by omega⟩
  have cb:aY E R w (fun _=>0) ⟨[],[],G,[],none,0⟩ (⟨#[],[]⟩:Act):=
   ⟨hg,⟨fun k cs h=>by simp [cG] at h,fun k k' cs cs' h=>by simp [cG] at h⟩,fun i hi=>absurd rfl hi,rfl,trivial⟩
  by_cases hm:m=0
  ·subst hm
   refine (Any8.slices_Grow_room (P:=E.P) (ρ:=ρ) L none 0 0 0 w (Nat.le_refl _) (by omega) (by omega) (by omega)).mono fun e w' ⟨e1,e2⟩=>?_
   have e2:=e2.symm
   subst e1; subst e2
   obtain ⟨k1,k2⟩:=cb.Dm (i0.size+65536) (ρ.t 25)
   have hn:nth (fO R).obj G.length=some .bl:=by rw [← hg.len]; exact dH _ _
   have ev:OE G.length (i0.size+65536)=.dC G.length 0 0 i0.size 0:=by
    unfold OE
    rw [Nat.ble_eq_true_of_le (Nat.le_add_left _ _),Nat.add_sub_cancel]
    rfl
   have eo:F5 (i0.size+65536) (ρ.t 25)=.dm [] i0.size (ρ.t 25):=by
    unfold F5
    rw [Nat.ble_eq_true_of_le (Nat.le_add_left _ _),Nat.add_sub_cancel]
    rfl
   have hv:Rel (fO R) w (.dC G.length 0 0 i0.size 0) (.slice none 0 0):=by
    rw [← ev]; exact Dl hn
   have Y2:=k1.g
   have eG:((⟨[],[],G,[],none,0⟩:St).cV (F5 (i0.size+65536) (ρ.t 25))).G=G++[.dm [] i0.size (ρ.t 25)]:=by
    show G++[F5 (i0.size+65536) (ρ.t 25)]=_
    rw [eo]
   rw [eG] at Y2
   exact ⟨_,_,fO R,⟨rfl,rfl⟩,hv,Y2,k2⟩
  ·have QX:(0+m) * i0.bytes≤140737488355328:=by
    rw [Nat.zero_add]
    have:((m * i0.bytes:Nat):Int)≤140737488355328:=by rw [Int.natCast_mul]; exact OD
    omega
   have key:=Any8.slices_Grow_grow (P:=E.P) (ρ:=ρ) L i0 z hi0 Vs T7 none 0 0 m [] w (Nat.le_refl _) (by omega) QX (by omega) (by simp) (fun _=>rfl) (fun a h=>by cases h)
   refine key.mono fun e w' ⟨e1,e2⟩=>?_
   have pd:=grownCap_ge w (0+m) 0 (ρ.t 25)
   have Si:=grownCap_le_maxLen w (0+m) 0 (ρ.t 25) (by unfold maxLen; omega)
   generalize grownCap w (0+m) 0 (ρ.t 25)=cap at *
   subst e1; subst e2
   obtain ⟨d1,d2⟩:=cb.drew
   have dG:(([]:List Value).toArray++Builtin.zeroCells z.cells (0+m - 0)++Builtin.zeroCells z.cells (cap - (0+m))).size=cap * i0.size:=by
    simp only [Array.size_append,List.size_toArray,size_zeroCells,hzs,List.length_nil,Nat.zero_add,Nat.sub_zero,← Nat.add_mul]
    congr 1
    omega
   have r1:=d1.BL (cur:=([]:List Value).toArray++Builtin.zeroCells z.cells (0+m - 0)++Builtin.zeroCells z.cells (cap - (0+m))) (vs:=[]) (es:=[]) (elem:=ρ.t 25) (sz:=i0.size) (cap:=cap) (Nat.zero_le _) Si dG (fun e he=>by cases he) .nil (fun v hv=>by cases hv) (by simp)
   have st:=d2.trans (cp d1 (.cells (([]:List Value).toArray++Builtin.zeroCells z.cells (0+m - 0)++Builtin.zeroCells z.cells (cap - (0+m))) (ρ.t 25)) (.tok 0 w.drew.heap.size cap) (by exact fun _ h=>h))
   have hv:Rel (R.add (.tok 0 w.heap.size cap)) (w.drew.alloc (.cells (([]:List Value).toArray++Builtin.zeroCells z.cells (0+m - 0)++Builtin.zeroCells z.cells (cap - (0+m))) (ρ.t 25))) (.dC G.length 0 0 i0.size 0) (.slice (some ⟨w.heap.size,0,none⟩) 0 cap):=
    Rel.dC (fa cb _) ⟨Nat.le_refl _,fun _=>⟨rfl,Nat.zero_add _,.inl (Nat.zero_mul _).symm⟩⟩ (Nat.zero_le _)
   exact ⟨_,_,_,⟨rfl,rfl⟩,hv,r1.g,st⟩
 ·cases h
end
end Go.Am
