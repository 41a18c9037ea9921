/- The abstract machine: strings.Split,strings.Cut and strconv.Itoa by their contracts. -/
import Derived.Test.YtldcljfjjoidhaaGreatDoorAmKK
import Derived.Lib.SplitLaws
import Derived.Lib.CutLaws
import Derived.Deep.Draws
import Derived.Lib.LaidTab
import Derived.Lib.ItoaNum
import Derived.Sort.Grow
import Derived.Shelf.SlSortCmp.NoneTotal
import Derived.Shelf.Sort.Plain
import Derived.Shelf.Slices.In.SortNone
import Derived.Shelf.Spec.SlicesGrow
set_option linter.all false
open Array renaming getElem?_toList→aau, getElem?_append_left→abj, getElem?_eq_getElem→abo, length_toList→abA, size_append→abG, getElem?_eq_none→abS, getElem?_modify→abU, getElem_mapIdx→abY, ext_getElem?→ab1
open Bool renaming and_eq_true→abt
open Go.Builtin renaming zeroCells→aaY
open Go.Lib renaming index→abu, splitK→abC, countB→abD, cut→abO
open Go.Sort renaming ahead→aao, grow→aby
open Go.Value renaming string→abp, int→abr
open Go.World renaming cell?→abR
open List renaming map_cons→aad, getElem?_eq_getElem→aaO, length_map→abi, mem_cons→abn, map→abq, getElem?_eq_none→abw, mem_map→abz, getElem?_take→abB, ext_getElem?→abE, getElem?_map→abF, takeWhile_sublist→abH, length_cons→abI, count_cons_of_ne→abJ, pairwise_cons→abM, flatMap_cons→abN, mem_append→abQ, length_mergeSort→abV, singleton_append→abW, length_pos_iff→abZ, takeWhile_cons→ab0
open Nat renaming eq_of_beq_eq_true→aaB, zero_add→abv, le_refl→abx, beq→abK, le_add_right→abP, zero_le→abT, ble_eq_true_of_le→abX, zero_mul→ab2, sub_zero→ab3
open Option.some renaming inj→ack
open Prod renaming fst→abL
namespace Go.Am
open Go Go.RowKit
def jk (c:UInt8):List UInt8→List (List UInt8)
 |[]=>[[]]
 |b :: s=>if b=c then [] :: jk c s else match jk c s with
  |[]=>[[b]]
  |x :: xs=>(b :: x) :: xs
def BY (c:UInt8):List UInt8→List UInt8 × List UInt8 × Bool
 |[]=>([],[],false)
 |b :: s=>if b=c then ([],s,true) else (b :: (BY c s).1,(BY c s).2.1,(BY c s).2.2)
theorem ahp (c b:UInt8) (l:List UInt8):[c].isPrefixOf (b :: l)=(c == b):=by simp [List.isPrefixOf]
theorem pJ (c b:UInt8) (l:List UInt8):abu (b :: l) [c]=if b=c then 0 else if abu l [c]=-1 then -1 else abu l [c]+1:=by
 rw [abu,ahp];by_cases h:b=c
 ·subst h; simp
 ·have:(c == b)=false:=by simp; exact fun e=>h e.symm
  simp [this,h]
theorem vO (c:UInt8) (l:List UInt8):abu l [c]=-1∨∃ i:Nat,abu l [c]=i:=by
 rcases Lib.index_spec l [c] with ⟨h,_⟩|⟨i,h,_⟩
 ·exact .inl h
 ·exact .inr ⟨i,h⟩
theorem xo (c:UInt8):∀ l:List UInt8,abu l [c]=-1↔l.count c=0
 |[]=>by simp [abu]
 |b :: l=>by
  rw [pJ];by_cases h:b=c
  ·subst h; simp
  ·have ih:=xo c l;rw [if_neg h,abJ h];rcases vO c l with h1|⟨i,h1⟩
   ·rw [if_pos h1]; simp [ih.1 h1]
   ·have cK:abu l [c]≠-1:=by omega
    rw [if_neg cK];constructor
    ·intro h2; omega
    ·intro h2; exact absurd (ih.2 h2) cK
theorem sN (c:UInt8):∀ l:List UInt8,l.count c=0→jk c l=[l]
 |[],_=>rfl
 |b :: l,h=>by
  have hb:b≠c:=fun e=>by subst e; simp at h
  rw [abJ hb] at h;unfold jk;rw [if_neg hb,sN c l h]
theorem Gh (c:UInt8):∀ l:List UInt8,abC [c] 0 (l.count c) l=jk c l
 |[]=>by simp [abC,jk]
 |b :: l=>by
  have ih:=Gh c l;by_cases hb:b=c
  ·subst hb;rw [List.count_cons_self,abC,pJ,if_pos rfl];simp [jk,ih]
  ·rw [abJ hb];cases hk:l.count c with
   |zero=>
    have:=sN c l hk;unfold jk;rw [if_neg hb,this,abC]
   |succ k=>
    have cK:abu l [c]≠-1:=fun e=>by have:=(xo c l).1 e; omega
    obtain ⟨i,hi⟩:=(vO c l).resolve_left cK;rw [hk,abC,hi] at ih;rw [abC,pJ,if_neg hb,if_neg cK,hi];have e1:(((i:Int) == -1))=false:=by simp
    have e2:(((i:Int)+1 == -1))=false:=by simp; omega
    rw [e1] at ih;rw [e2];unfold jk;rw [if_neg hb,← ih];have e3:((i:Int)+1).toNat=i+1:=by omega
    simp [e3]
theorem Xc (c:UInt8):∀ l:List UInt8,abO l [c]=BY c l
 |[]=>by simp [abO,abu,BY]
 |b :: l=>by
  have ih:=Xc c l;unfold abO at ih ⊢;rw [pJ];unfold BY;by_cases hb:b=c
  ·rw [if_pos hb]; simp [hb]
  ·rw [if_neg hb,if_neg hb,← ih];rcases vO c l with h|⟨i,h⟩
   ·rw [if_pos h,h]; simp
   ·have cK:abu l [c]≠-1:=by omega
    have h1:(0:Int)≤(i:Int)+1:=by omega
    have h2:(0:Int)≤(i:Int):=by omega
    have e3:((i:Int)+1).toNat=i+1:=by omega
    rw [if_neg cK,h,if_pos h1,if_pos h2,e3];simp
theorem OR (c:UInt8) (s:List UInt8):(Lib.splitB ⟨#[c]⟩ 0 (abD ⟨⟨s⟩⟩ ⟨#[c]⟩) ⟨⟨s⟩⟩).map (·.data.toList)=jk c s:=by
 rw [Lib.splitB_data];show abC [c] 0 (Lib.count s [c]) s=_;rw [Lib.count_one];exact Gh c s
def Em (n:Int):Option (List UInt8):=bif decide (-9223372036854775808≤n)&&decide (n≤9223372036854775807) then some (Lib.itoa n) else none
def IM:aR:=⟨p1 (.int .i64),.str,Em⟩
def Zd:List UInt8 × List UInt8→Option (List (List UInt8))
 |(s,[c])=>bif decide (s.length < 4294967281) then some (jk c s) else none
 |_=>none
def ahq:List UInt8 × List UInt8→Option (List UInt8 × List UInt8 × Bool)
 |(s,[c])=>bif decide (s.length < 4294967281) then some (BY c s) else none
 |_=>none
def IN:aR:=⟨p2 .str .str,.list 1 .str,Zd⟩
def Ze:aR:=⟨p2 .str .str,.bu (.cons .str (.cons .str (.cons .bool .nil))),ahq⟩
section
variable {E:Env} {R:ak} {w w':World}
theorem a6.ahr {g:FuncId} {args:List AV} {xs:List (List UInt8)} {t:TypeId} (hp:Plain E.P g) (hm:xs.length≤140737488355328)
  (h:∀ (R:ak) (w:World) (cs:List Value),eI E R w []→aP R w args cs→Calls E.P g ⟨cs⟩ w (fun e w'=>e=.returned (.slice (some ⟨w.heap.size,0,none⟩) xs.length xs.length)∧w'=w.alloc (.cells ((xs.map fun l=>abp ⟨⟨l⟩⟩).toArray) t)))
  (wO:aI 0 args=true):a6 E g args (fun r'=>r'=(aO.list 1 .str).enc xs):=fun G=>
 ⟨hp,fun R w cs hg hl=>by
  let R0:ak:=⟨R.I,[]⟩
  have m0:Mv R R0 0:=⟨fun _ _ h=>h,fun _ _ h=>absurd h (Nat.not_lt_zero _)⟩;have Ro:eI E R0 w []:=⟨rfl,fun id go ro h1 _=>by simp [nth] at h1,fun i j ri rj b h1=>by simp [R0,nth] at h1,hg.wf,fun g cs sU=>(hg.cw g cs sU).move m0 (cN _ (E.qh g cs sU)),hg.lo⟩;refine callsIn_wide.2 ((h R0 w cs Ro (hl.move m0 wO)).mono fun e w' ⟨he,hw⟩=>?_);subst he; subst hw
  let R':ak:=R.all w.heap.size
  have e1:=vq (R:=R) hg.wf (.cells ((xs.map fun l=>abp ⟨⟨l⟩⟩).toArray) t);have e:Ext R w R' (w.alloc (.cells ((xs.map fun l=>abp ⟨⟨l⟩⟩).toArray) t)):=e1.trans (rL R _ _);have old:∀ b,b < w.heap.size→(w.alloc (.cells ((xs.map fun l=>abp ⟨⟨l⟩⟩).toArray) t)).heap[b]?=w.heap[b]?:=fun b hb=>heap_alloc_old w _ hb
  have im:∀ b o,b < w.heap.size→R'.I b o→R.I b o:=fun b o hb hi=>hi.resolve_right (by omega)
  refine ⟨_,G,R',⟨rfl,rfl⟩,?_,?_,⟨e,rfl,rfl,rfl,by simp,fun b hb _=>old b hb,fun b hb ho=>ho,fun b o hi hb _=>im b o hb hi⟩⟩
  ·have qw:(w.alloc (.cells ((xs.map fun l=>abp ⟨⟨l⟩⟩).toArray) t)).heap[w.heap.size]?=some (.cells ((xs.map fun l=>abp ⟨⟨l⟩⟩).toArray) t):=heap_alloc_new w _;have key:∀ (ys:List (List UInt8)) (o:Nat),(∀ (j:Nat) l,ys[j]?=some l→xs[o+j]?=some l)→iu R' (w.alloc (.cells ((xs.map fun l=>abp ⟨⟨l⟩⟩).toArray) t)) w.heap.size o 1 (ys.map (fun l=>AV.str l)):=by
    intro ys
    induction ys with
    |nil=>intro o _; exact .nil
    |cons l ys ih=>
     intro o hj;refine .cons rfl rfl rfl (.cons (c:=.string ⟨⟨l⟩⟩) ?_ rfl (.inr rfl) (.str l) .nil) (ih (o+1) fun j l' h'=>by
      have:=hj (j+1) l' (by simpa using h');rwa [show o+(j+1)=o+1+j by omega] at this)
     have h0:=hj 0 l rfl;rw [Nat.add_zero] at h0;simp only [abR,qw];simp [h0]
   have hk:=key xs 0 (fun j l h=>by rw [abv]; exact h);exact Rel.list (k:=.lM) (sz:=1) (es:=xs.map (fun l=>AV.str l)) hk (by rw [abi]) (abx _) trivial
  ·exact hg.bJ e rfl (fun b hb=>old b (hg.cj hb)) (fun b o hb hi=>im b o (hg.cj hb) hi) (fun b o hi=>by
    rcases hi with hi|hi
    ·have:=hg.wf b o hi; simp; omega
    ·subst hi; simp) (fun hd=>hd)⟩
theorem OS {g gm:FuncId} {m:Int} {t:TypeId} (hp:Plain E.P g) (hg:E.cw gm=some [.int .i64 m])
  (h:∀ (s:ByteArray) (c:UInt8) (w:World),s.size < 4294967281→w.cell? ⟨gm,0,none⟩=some (.int .i64 m)→Calls E.P g #[.string s,.string ⟨#[c]⟩] w fun e w'=>
   e=.returned (.slice (some ⟨w.heap.size,0,none⟩) (abD s ⟨#[c]⟩+1) (abD s ⟨#[c]⟩+1))∧w'=w.alloc (.cells ((Lib.splitB ⟨#[c]⟩ 0 (abD s ⟨#[c]⟩) s).map abp).toArray t)):aj E g IN:=fun x y hT=>by
 obtain ⟨s,c⟩:=x
 match c,hT with
 |[],hT=>cases hT
 |_ :: _ :: _,hT=>cases hT
 |[c],hT=>
  have hT:(bif decide (s.length < 4294967281) then some (jk c s) else none)=some y:=hT;obtain ⟨h1,h2⟩:s.length < 4294967281∧jk c s=y:=by
   cases hd:decide (s.length < 4294967281) with
   |true=>rw [hd] at hT; exact ⟨of_decide_eq_true hd,ack hT⟩
   |false=>rw [hd] at hT; cases hT
  subst h2;have hB:=OR c s;have qc:=Lib.splitB_all ⟨#[c]⟩ (abx 1) 0 _ ⟨⟨s⟩⟩ rfl;have hlen:(jk c s).length=abD ⟨⟨s⟩⟩ ⟨#[c]⟩+1:=by rw [← hB,abi,qc]
  have jN:=Lib.countB_le ⟨#[c]⟩ (abx 1) s.length ⟨⟨s⟩⟩ (by show s.length≤_; exact abx _);have jN:abD ⟨⟨s⟩⟩ ⟨#[c]⟩≤s.length:=jN;refine a6.ahr (t:=t) hp (by rw [hlen]; omega) (fun R w cs hr hl=>?_) rfl;have Cw:fk R w gm 0 [.int .i64 m]:=(hr.cw gm _ hg).1;have hm:w.cell? ⟨gm,0,none⟩=some (.int .i64 m):=by
   cases Cw with
   |cons a1 _ _ a4 _=>cases a4; exact a1
  cases hl with
  |cons a1 hl=>
  cases hl with
  |cons a2 hl=>
  cases hl;cases a1; cases a2;refine (h ⟨⟨s⟩⟩ c w (by show s.length < _; exact h1) hm).mono ?_;rintro e w' ⟨rfl,rfl⟩;have e3:(Lib.splitB ⟨#[c]⟩ 0 (abD ⟨⟨s⟩⟩ ⟨#[c]⟩) ⟨⟨s⟩⟩).map abp=(jk c s).map fun l=>abp ⟨⟨l⟩⟩:=by
   rw [← hB,List.map_map]; rfl
  rw [hlen,e3];exact ⟨rfl,rfl⟩
theorem Zf {g gm:FuncId} {m:Int} (hp:Plain E.P g) (hg:E.cw gm=some [.int .i64 m]) (hE:E.lo=0)
  (h:∀ (s:ByteArray) (c:UInt8) (w:World),s.size < 4294967281→w.cell? ⟨gm,0,none⟩=some (.int .i64 m)→Calls E.P g #[.string s,.string ⟨#[c]⟩] w fun e w'=>
   e=.returned (.tuple #[.string ⟨(abO s.data.toList [c]).1.toArray⟩,.string ⟨(abO s.data.toList [c]).2.1.toArray⟩,.bool (abO s.data.toList [c]).2.2])∧∃ n,w'=w.drewN n):aj E g Ze:=fun x y hT=>by
 obtain ⟨s,c⟩:=x
 match c,hT with
 |[],hT=>cases hT
 |_ :: _ :: _,hT=>cases hT
 |[c],hT=>
  have hT:(bif decide (s.length < 4294967281) then some (BY c s) else none)=some y:=hT;obtain ⟨h1,h2⟩:s.length < 4294967281∧BY c s=y:=by
   cases hd:decide (s.length < 4294967281) with
   |true=>rw [hd] at hT; exact ⟨of_decide_eq_true hd,ack hT⟩
   |false=>rw [hd] at hT; cases hT
  subst h2;refine fun G=>⟨hp,fun R w cs hr hl=>callsIn_wide.2 ?_⟩
  have Cw:fk R w gm 0 [.int .i64 m]:=(hr.cw gm _ hg).1;have hm:w.cell? ⟨gm,0,none⟩=some (.int .i64 m):=by
   cases Cw with
   |cons a1 _ _ a4 _=>cases a4; exact a1
  have hwf:=hr.wf;cases hl with
  |cons a1 hl=>
  cases hl with
  |cons a2 hl=>
  cases hl;cases a1; cases a2;refine (h ⟨⟨s⟩⟩ c w (by show s.length < _; exact h1) hm).mono ?_;rintro e w' ⟨rfl,n,rfl⟩;have hb:Below w.heap.size w (w.drewN n):=⟨rfl,rfl,rfl,abx _,fun _ _=>rfl⟩;refine ⟨_,G,R,⟨rfl,rfl⟩,?_,Below.LL hb hr hE,Below.CT hb hwf⟩;have e4:abO (⟨⟨s⟩⟩:ByteArray).data.toList [c]=BY c s:=Xc c s;rw [e4];exact Rel.bu (.cons (.str _) (.cons (.str _) (.cons (.bool _) .nil)))
theorem Gi {R:ak} {w:World} {b:Nat}:∀ {zs:List Int} {k:IntKind} {o:Nat},fk R w b o (zs.map fun z=>AV.int k z)→∀ (j:Nat) z,zs[j]?=some z→w.cell? ⟨b,o+j,none⟩=some (.int k z)
 |[],_,_,_,j,z,h=>by simp at h
 |a :: zs,k,o,.cons h1 h2 h3 h4 t,0,z,h=>by
  cases h4;simp only [List.getElem?_cons_zero,Option.some.injEq] at h;subst h;exact h1
 |a :: zs,k,o,.cons h1 h2 h3 h4 t,j+1,z,h=>by
  have:=Gi t j z (by simpa using h);rwa [show o+(j+1)=o+1+j by omega]
theorem lg.Bx {nm:String} {gt:Nat} {k:IntKind} {zs:List Int} (hn:E.P.globalNamed nm=some gt) (hx:E.gx gt=true) (h0:1≤zs.length) (h:lg E R w gt (zs.map fun z=>AV.int k z)):Lib.TabIs E.P w nm k zs:=by
 obtain ⟨h1,h2⟩:=h;obtain ⟨_,h2⟩:=h2 hx;rw [abi] at h2;have hg:=Gi h1;unfold Lib.TabIs World.var?;rw [hn];have h00:=hg 0 zs[0] (by simp [aaO h0]);cases hb:w.heap[gt]? with
 |none=>simp [abR,hb] at h00
 |some ob=>
  cases ob with
  |cells cs t fr=>
   have hc:∀ j,w.cell? ⟨gt,j,none⟩=cs[j]?:=fun j=>by simp [abR,hb]
   have e:cs=(zs.map fun z=>abr k z).toArray:=by
    apply Array.ext';rw [List.toList_toArray];apply abE;intro j;rw [aau,abF];rcases Nat.lt_or_ge j zs.length with hj|hj
    ·have:=hg j zs[j] (by simp [aaO hj]);rw [abv,hc] at this;rw [this,aaO hj]; rfl
    ·have hz:zs[j]?=none:=abw hj;rw [hz,Option.map_none];rw [hc] at h2;have hs:cs.size≤zs.length:=by simpa using h2
     exact abS (by omega)
   show (match w.heap[gt]? with | some (.cells cs _ _)=>some cs | _=>none)=_;rw [hb,e]
  |_=>simp [abR,hb] at h00
theorem OT {g gt:FuncId} {nm:String} (hp:Plain E.P g) (hg:E.cw gt=some (Lib.pow10Tab.map fun z=>AV.int .u64 z)) (hx:E.gx gt=true) (hn:E.P.globalNamed nm=some gt) (hE:E.lo=0)
  (h:∀ (n:Int) (w:World),-9223372036854775808≤n→n≤9223372036854775807→Lib.TabIs E.P w nm .u64 Lib.pow10Tab→Calls E.P g #[.int .i64 n] w fun e w'=>
   e=.returned (.string ⟨(Lib.itoa n).toArray⟩)∧∃ k os,w'=aby (w.drewN k) os):aj E g IM:=fun x y hT=>by
 obtain ⟨n,rfl⟩:∃ n:Int,(show IM.ps.T from n)=x:=⟨x,rfl⟩;have hT:(bif decide (-9223372036854775808≤n)&&decide (n≤9223372036854775807) then some (Lib.itoa n) else none)=some y:=hT;obtain ⟨h1,h2⟩:=Ga.cond_some' hT;subst h2;rw [abt] at h1;have a:=of_decide_eq_true h1.1;have b:=of_decide_eq_true h1.2;refine fun G=>⟨hp,fun R w cs hr hl=>callsIn_wide.2 ?_⟩
 have Ei:=(hr.cw gt _ hg).Bx hn hx (by rw [Lib.pow10Tab_length]; decide);have hwf:=hr.wf;cases hl with
 |cons a1 hl=>
 cases hl;cases a1;refine (h n w a b Ei).mono ?_;rintro e w' ⟨rfl,k,os,rfl⟩;have hb:Below w.heap.size w (aby (w.drewN k) os):=⟨rfl,rfl,rfl,by simp [aby,World.drewN],fun i hi=>by
  show (w.heap++os)[i]?=_;rw [abj hi]⟩
 exact ⟨_,G,R,⟨rfl,rfl⟩,Rel.str _,Below.LL hb hr hE,Below.CT hb hwf⟩
end
end Go.Am
namespace Go.Am
open Go
section
variable {κ ν:Type} [DecidableEq κ]
def getM (k:κ):List (κ × ν)→Option ν
 |[]=>none
 |(k',v) :: m=>if k=k' then some v else getM k m
def qe (k:κ) (v:ν):List (κ × ν)→List (κ × ν)
 |[]=>[(k,v)]
 |(k',v') :: m=>if k=k' then (k,v) :: m else (k',v') :: qe k v m
theorem AK (k k':κ) (v:ν):∀ m:List (κ × ν),getM k' (qe k v m)=if k'=k then some v else getM k' m
 |[]=>rfl
 |(k1,v1) :: m=>by
  unfold qe;by_cases h:k=k1
  ·subst h;rw [if_pos rfl];by_cases h2:k'=k
   ·simp [getM,h2]
   ·simp [getM,h2]
  ·rw [if_neg h];by_cases h2:k'=k1
   ·subst h2;have h3:¬ k'=k:=fun e=>h e.symm
    simp [getM,h3]
   ·simp only [getM,if_neg h2];exact AK k k' v m
theorem Gm {k:κ} {v:ν}:∀ {m:List (κ × ν)},getM k m=none→qe k v m=m++[(k,v)]
 |[],_=>rfl
 |(k1,v1) :: m,h=>by
  unfold getM at h;split at h
  ·cases h
  ·rename_i cK;unfold qe;rw [if_neg cK,Gm h];rfl
theorem CU {k:κ} {v:ν}:∀ {m:List (κ × ν)},(qe k v m).map abL=if k∈m.map abL then m.map abL else m.map abL++[k]
 |[]=>by simp [qe]
 |(k1,v1) :: m=>by
  unfold qe;by_cases h:k=k1
  ·simp [h]
  ·rw [if_neg h,aad,CU (m:=m)];by_cases h2:k∈m.map abL
   ·have:k∈((k1,v1) :: m).map abL:=by simp only [aad,abn]; exact .inr h2
    rw [if_pos h2,if_pos this];rfl
   ·have:¬ k∈((k1,v1) :: m).map abL:=by
     simp only [aad,abn,not_or]; exact ⟨h,h2⟩
    rw [if_neg h2,if_neg this];rfl
theorem CV (k:κ) (l:List κ):getM k (l.map fun x=>(x,true))=if k∈l then some true else none:=by
 induction l with
 |nil=>rfl
 |cons a l ih=>
  simp only [aad,getM,ih,abn];by_cases h:k=a
  ·simp [h]
  ·simp [h]
structure jl (ek:EK) (nk:κ→AV) (nv:ν→AV) (nM:κ × ν→AV):Prop where
 key:∀ a b,Ha ek (nk a) (nk b)=some (decide (a=b))
 pair:∀ x,nM x=.agg [nk x.1,nv x.2]
 exact:∀ x,(nM x).exact=true
variable {ek:EK} {nk:κ→AV} {nv:ν→AV} {nM:κ × ν→AV} (h:jl ek nk nv nM)
include h
theorem jl.ent:∀ m:List (κ × ν),ar (abq nM m)=m.map fun x=>(nk x.1,nv x.2)
 |[]=>rfl
 |x :: m=>by
  rw [aad,h.pair,ar,jl.ent m];rfl
theorem jl.keys (k:κ):∀ m:List (κ × ν),fI ek (nk k) (ar (abq nM m))=true
 |[]=>rfl
 |x :: m=>by
  have:=jl.keys k m;rw [aad,h.pair,ar];show ((Ha ek (nk k) (nk x.1)).isSome&&fI ek (nk k) (ar (abq nM m)))=true;rw [this,h.key];rfl
theorem jl.get (k:κ):∀ m:List (κ × ν),ma ek (nk k) (ar (abq nM m))=(getM k m).map nv
 |[]=>rfl
 |x :: m=>by
  have ih:=jl.get k m;rw [aad,h.pair,ar];show (bif yW ek (nk k) (nk x.1) then some (nv x.2) else ma ek (nk k) (ar (abq nM m)))=(if k=x.1 then some x.2 else getM k m).map nv;unfold yW;rw [h.key,ih];by_cases e:k=x.1
  ·simp [e]
  ·simp [e]
theorem jl.getD (k:κ) (z:ν) (m:List (κ × ν)):dV ek (nk k) (nv z) (ar (abq nM m))=nv ((getM k m).getD z):=by
 unfold dV;rw [h.get];cases getM k m <;> rfl
theorem jl.put (k:κ) (v:ν):∀ m:List (κ × ν),fJ ek (nk k) (nv v) (ar (abq nM m))=ar (abq nM (qe k v m))
 |[]=>by
  show [(nk k,nv v)]=ar [nM (k,v)];rw [h.pair];rfl
 |x :: m=>by
  have ih:=jl.put k v m;rw [aad,h.pair,ar];show (bif yW ek (nk k) (nk x.1) then (nk k,nv v) :: ar (abq nM m) else (nk x.1,nv x.2) :: fJ ek (nk k) (nv v) (ar (abq nM m)))=ar (abq nM (if k=x.1 then (k,v) :: m else (x.1,x.2) :: qe k v m));unfold yW;rw [h.key,ih];by_cases e:k=x.1
  ·simp only [e,decide_true,cond_true,if_true,aad];rw [h.pair (x.1,v),ar];rfl
  ·simp only [e,decide_false,cond_false,if_false,aad];rw [h.pair (x.1,x.2),ar];rfl
theorem jl.cells:∀ m:List (κ × ν),ah (ar (abq nM m))=abq nM m
 |[]=>rfl
 |x :: m=>by
  have ih:=jl.cells m;rw [aad,h.pair,ar];show AV.agg [nk x.1,nv x.2] :: ah (ar (abq nM m))=_;rw [ih]
theorem jl.dP (m:List (κ × ν)):Go.Am.dP (ar (abq nM m))=true:=by
 unfold Go.Am.dP;rw [h.cells]
 induction m with
 |nil=>rfl
 |cons x m ih=>rw [aad,ib,ih,h.exact]; rfl
end
theorem Ux (a b:Int × Int):Ha (.st (.cons 0 1 false .int (.cons 1 1 false .int .nil))) (.agg [.int .i64 a.1,.int .i64 a.2]) (.agg [.int .i64 b.1,.int .i64 b.2])=some (decide (a=b)):=by
 obtain ⟨a1,a2⟩:=a;obtain ⟨b1,b2⟩:=b;have e:mO (.st (.cons 0 1 false .int (.cons 1 1 false .int .nil))) (.agg [.int .i64 a1,.int .i64 a2]) (.agg [.int .i64 b1,.int .i64 b2])=some ((a1 == b1)&&((a2 == b2)&&true)):=rfl;unfold Ha;rw [e];by_cases h1:a1=b1 <;> by_cases h2:a2=b2
 ·subst h1; subst h2;simp [EK.wide,na,nZ,qi]
 all_goals simp [h1,h2]
end Go.Am
namespace Go.Am
open Go
theorem AL (ek:EK) (k v x:AV):∀ es:List (AV × AV),k9 (fJ ek k v es) (jE ek k es) x=fJ ek k x es
 |[]=>rfl
 |(k',v') :: l=>by
  unfold fJ jE;cases h:yW ek k k' with
  |true=>rfl
  |false=>
   simp only [cond_false,k9];rw [AL ek k v x l]
theorem O3 (ek:EK) (k v:AV):∀ es:List (AV × AV),jE ek k es < (fJ ek k v es).length
 |[]=>Nat.zero_lt_one
 |(k',v') :: l=>by
  unfold fJ jE;cases h:yW ek k k' with
  |true=>exact Nat.zero_lt_succ _
  |false=>
   simp only [cond_false,abI];have:=O3 ek k v l;omega
theorem IS {V X:Type} (rd:(V→Option X)→V→Option X) (n:Nat) (v:V):oA rd (n+1) v=rd (oA rd n) v:=rfl
def LQ (L:List Nat):List Int:=L.map fun n:Nat=>(n:Int)
theorem O4 {α:Type} (f:α→AV × AV) (m:List α) {i:Nat} (h:i < m.length):fu (m.map f) i=f m[i]:=by
 unfold fu;rw [bj,abF,aaO h];rfl
end Go.Am
namespace Go.Am
open Go Go.RowKit Go.Proofs Go.Shelf Go.Sort
def Gs:AV→Value
 |.bool b=>.bool b
 |.int k n=>.int k n
 |.str l=>.string ⟨⟨l⟩⟩
 |_=>.bool false
theorem Pu {R:ak} {w:World} {a:AV} {c:Value} (ha:il a=true) (h:Rel R w a c):c=Gs a:=by
 cases a <;> first | (cases ha; done) | (cases h; rfl)
theorem Pv {R:ak} {w:World} {a:AV} (ha:il a=true):Rel R w a (Gs a):=by
 cases a <;> first | (cases ha; done) | constructor
theorem vR {R:ak} {w:World}:∀ {l:List AV} {vs:List Value},(∀ a∈l,il a=true)→aP R w l vs→vs=l.map Gs
 |[],_,_,h=>by cases h; rfl
 |a :: l,_,hs,.cons h t=>by
  rw [Pu (hs a (by simp)) h,vR (fun b hb=>hs b (by simp [hb])) t];rfl
theorem rY {R:ak} {w:World}:∀ {l:List AV},(∀ a∈l,il a=true)→aP R w l (l.map Gs)
 |[],_=>.nil
 |a :: l,hs=>.cons (Pv (hs a (by simp))) (rY fun b hb=>hs b (by simp [hb]))
theorem AT {a:AV} (ha:il a=true):(Gs a).oneCell'=true:=by
 cases a <;> first | (cases ha; done) | rfl
structure rZ (P:Program) (cw:Nat→Option (List AV)) (c:FuncId) (p:aO) (k:Nat) (cf:p.T→p.T→Int):Prop where
 flat:p.flat=true
 size:∀ x,(p.enc x).cells.length=k
 IX:∀ x,∀ a∈(p.enc x).cells,il a=true
 agg:∀ x,∃ cs,p.enc x=.agg cs
 calls:∀ (E:Env),E.P=P→E.cw=cw→E.gx=(fun _=>false)→∀ x y,a6 E c [p.enc x,p.enc y] (fun r=>r=.int .i64 (cf x y))
 swo:SWO (ltOf cf)
 tot:∀ x y,(ltOf cf) x y=false→(ltOf cf) y x=false→x=y
def jA (p:aO) (cf:p.T→p.T→Int) (es:List AV):List AV:=(((es.map p.bC).mergeSort fun x y=>!(ltOf cf) y x)).map p.enc
def AU (p:aO) (cf:p.T→p.T→Int) (sz:Nat) (el:TypeId) (c:FuncId):List AV→List GO→Option (Bool × AV × List GO)
 |[.dM id f off sz1 len,.fn c' [] []],G=>match nth G id with
  |some (.dv es sq U7)=>if abK c c'&&abK off 0&&abK sz1 sz&&abK sq sz&&abK U7 el then
    some (decide (f=es.length)&&decide (len=es.length)&&decide (es.length≤140737488355328)&&allFit p.fits es,.bu [],aG G id (.dv (jA p cf es) sz el)) else none
  |_=>none
 |_,_=>none
theorem B2 {W W':World} (h:Below W.heap.size W W') (hd:W.drawn≤W'.drawn):∃ q os,W'=aby (W.drewN q) os:=by
 refine ⟨W'.drawn - W.drawn,W'.heap.extract W.heap.size W'.heap.size,?_⟩;have hh:W'.heap=W.heap++W'.heap.extract W.heap.size W'.heap.size:=by
  apply ab1;intro i;by_cases hi:i < W.heap.size
  ·rw [abj hi];exact h.block i hi
  ·rw [Array.getElem?_append_right (by omega),Array.getElem?_extract];have hs:=h.size;by_cases hj:i < W'.heap.size
   ·rw [if_pos (by omega)];congr 1;omega
   ·rw [if_neg (by omega),abS (by omega)]
 obtain ⟨hp,tp,dr,os,out⟩:=W';have h1:=h.os;have h2:=h.tape;have h3:=h.output;simp only at hh h1 h2 h3 hd;unfold aby World.drewN;simp only;rw [← hh,h1,h2,h3];congr 1;omega
def iB (p:aO) (x:p.T):List Value:=((p.enc x).cells).map Gs
theorem uL {α:Type} [Inhabited α] {enc:α→List Value} {k:Nat} (hk:∀ x,(enc x).length=k):∀ (l:List α) (t:Nat),t < l.length * k→(l.flatMap enc)[t]?=some ((enc l[t / k]!)[t % k]!)
 |[],t,h=>by simp at h
 |x :: l,t,h=>by
  have Co:0 < k:=by
   rcases Nat.eq_zero_or_pos k with h0|h0
   ·rw [h0] at h; omega
   ·exact h0
  rw [abN];by_cases ht:t < k
  ·rw [List.getElem?_append_left (by rw [hk]; exact ht),Nat.div_eq_of_lt ht,Nat.mod_eq_of_lt ht];have hl:t < (enc x).length:=by rw [hk]; exact ht
   simp [hl]
  ·have ht:k≤t:=Nat.le_of_not_lt ht;rw [List.getElem?_append_right (by rw [hk]; exact ht),hk];have h':t - k < l.length * k:=by
    rw [abI,Nat.add_mul,Nat.one_mul] at h;omega
   rw [uL hk l (t - k) h'];have e1:t / k=(t - k) / k+1:=by
    rw [Nat.div_eq_sub_div Co ht]
   have e2:t % k=(t - k) % k:=Nat.mod_eq_sub_mod ht;rw [e1,e2];simp
theorem CX {α:Type} [Inhabited α] {enc:α→List Value} {k:Nat} (hk:∀ x,(enc x).length=k) (d:Array α):(flatK enc k d).toList=d.toList.flatMap enc:=by
 have hl:(d.toList.flatMap enc).length=d.size * k:=by
  obtain ⟨l⟩:=d;show (l.flatMap enc).length=l.length * k
  induction l with
  |nil=>simp
  |cons x l ih=>rw [abN,List.length_append,hk,ih,abI,Nat.add_mul,Nat.one_mul,Nat.add_comm]
 apply abE;intro t;by_cases ht:t < d.size * k
 ·have h1:=uL hk d.toList t (by simpa using ht);rw [h1];have hs:t < (flatK enc k d).size:=by rw [size_flatK]; exact ht
  have h2:=get_flatK enc k d t ht;rw [getElem!_pos (flatK enc k d) t hs] at h2;have e:∀ i:Nat,d[i]! = d.toList[i]!:=fun i=>by rw [getElem!_def,getElem!_def,aau]
  rw [aau,abo hs,h2,e]
 ·rw [abw (by rw [abA,size_flatK]; omega),abw (by rw [hl]; omega)]
theorem tv (p:aO):∀ (xs:List p.T),(aq (xs.map p.enc)).map Gs=xs.flatMap (iB p)
 |[]=>rfl
 |x :: xs=>by
  rw [aad,aq,List.map_append,tv p xs,abN];rfl
theorem pL {w:World} {b:Nat} {cur:Array Value} {el:TypeId} (h:w.heap[b]?=some (.cells cur el (0,0))) (f:Array Value→Array Value):mapBlock w b f=w.setRow b (f cur):=by
 unfold mapBlock World.setRow;congr 1;apply ab1;intro i;rw [abU,abU];by_cases e:b=i
 ·subst e;rw [if_pos rfl,if_pos rfl,h];rfl
 ·rw [if_neg e,if_neg e]
section
variable {E:Env} {ρ:Ren} {c:FuncId} {p:aO} {k:Nat} {cf:p.T→p.T→Int} [Inhabited p.T]
theorem AW (hC:rZ E.P E.cw c p k cf) (x:p.T):(iB p x).length=k:=by
 unfold iB;rw [abi,hC.size]
theorem Pw (SA:E.gx=fun _=>false) (hC:rZ E.P E.cw c p k cf) {R:ak} {w:World} {G:List GO} (hg:eI E R w G) {b:Nat} {cur:Array Value} {el:TypeId} (hb:w.heap[b]?=some (.cells cur el (0,0))) (hI:∀ o,¬ R.I b o) (size:Nat) :
  CmpLays E.P c #[] (iB p) k cf b 0 size w:=by
 intro m os dk _ x y;have e1:putRowK (iB p) k (aao w m) b 0 dk=(aao w m).setRow b (putCells id 0 (flatK (iB p) k dk) cur):=pL (w:=aao w m) hb _;have hW:sortWorldK (iB p) k w b 0 m dk os=aby ((aao w m).setRow b (putCells id 0 (flatK (iB p) k dk) cur)) os:=by
  unfold sortWorldK;rw [e1]
 rw [hW];generalize putCells id 0 (flatK (iB p) k dk) cur=cur2;have eA:Ext R w R (aao w m):=⟨fun _ _ h=>h,fun _ _ _=>rfl,fun _ ro h=>⟨ro,h,cV.refl ro⟩,.old fun _ _=>rfl⟩;have eS:Ext R (aao w m) R ((aao w m).setRow b cur2):=kb hI cur2;have Gt:Below ((aao w m).setRow b cur2).heap.size ((aao w m).setRow b cur2) (aby ((aao w m).setRow b cur2) os):=by
  refine ⟨rfl,rfl,rfl,?_,fun i hi=>?_⟩
  ·show _≤(((aao w m).setRow b cur2).heap++os).size;rw [abG]; exact abP _ _
  ·show (((aao w m).setRow b cur2).heap++os)[i]?=_;rw [abj hi]
 have gi:((aao w m).setRow b cur2).heap.size=w.heap.size:=by unfold World.setRow; simp [aao]
 have eG:Ext R ((aao w m).setRow b cur2) R (aby ((aao w m).setRow b cur2) os):=Below.YP Gt fun b' o hi=>by rw [gi]; exact hg.wf b' o hi
 have eW:=(eA.trans eS).trans eG;generalize hWd:aby ((aao w m).setRow b cur2) os=W at *;have hWs:w.heap.size≤W.heap.size:=by rw [← gi]; exact Gt.size
 let E':Env:={ E with lo:=W.drawn }
 let R0:ak:=⟨R.I,[]⟩
 have m0:Mv R R0 0:=⟨fun _ _ h=>h,fun _ _ h=>absurd h (Nat.not_lt_zero _)⟩;have Ro:eI E' R0 W []:=⟨rfl,fun id go ro h1 _=>by simp [nth] at h1,fun i j ri rj b h1=>by simp [R0,nth] at h1,fun b o h=>Nat.lt_of_lt_of_le (hg.wf b o h) hWs,
  fun g cs sU=>((hg.cw g cs sU).mono eW).move m0 (cN _ (E.qh g cs sU)),abx _⟩
 have fF:∀ z:p.T,Rel R0 W (p.enc z) (.agg (iB p z).toArray):=fun z=>by
  obtain ⟨cs,rJ⟩:=hC.agg z;have hs:=hC.IX z;unfold iB;rw [rJ] at hs ⊢;refine Rel.agg (rY hs) fun v hv=>?_
  obtain ⟨a,ha,rfl⟩:=abz.1 hv;exact AT (hs a ha)
 have hc:=(hC.calls E' rfl rfl SA x y []).2 R0 W [.agg (iB p x).toArray,.agg (iB p y).toArray] Ro (.cons (fF x) (.one (fF y)));refine (callsIn_wide.1 hc).mono fun e w' he=>?_
 cases e with
 |panicked c=>exact he.elim
 |outgrown=>exact he.elim
 |returned cv=>
  obtain ⟨r,G',R1,⟨rfl,rfl⟩,hr,Sq,st⟩:=he;have Hb:cv=.int .i64 (cf x y):=by cases hr; rfl
  subst Hb;have kD:∀ b,¬ Own R0 (fun _=>0) gy b:=fun b ho=>by
   obtain ⟨id,ro,h1,_⟩:=fZ ho;simp [R0,nth] at h1
  refine ⟨rfl,B2 ⟨st.os,st.tape,st.output,st.size,fun i hi=>st.bJ i hi (kD i)⟩ Sq.lo⟩
theorem Gu {p:aO} (hp:p.flat=true):∀ es:List AV,allFit p.fits es=true→es=(es.map p.bC).map p.enc
 |[],_=>rfl
 |a :: es,h=>by
  simp only [allFit,abt] at h;rw [aad,aad,← Gu hp es h.2,aO.kJ hp h.1]
theorem AX (L:SlLaysF0.n6 E.P ρ) (hp:Plain E.P (ρ.f 6)) (hc:Plain E.P c) (aE:∀ w,(isAgg (ρ.t 24)).run E.P w=.ok true w) (zE:∀ w,(Go.sizeOf (ρ.t 24)).run E.P w=.ok k w) (hC:rZ E.P E.cw c p k cf) (hE:E.lo=0) (Co:1≤k) {el:TypeId} (SA:E.gx=fun _=>false:=by rfl) :
  ∀ (args:List AV) (G:List GO) (r:AV) (G':List GO),AU p cf k el c args G=some (true,r,G')→cO E (ρ.f 6) args G (fun r' CO=>r'=r∧CO=G'):=by
 intro args G r G' h;unfold AU at h;split at h
 ·rename_i G1 oid f off sz1 len c';split at h
  ·rename_i es sq U7 hid;split at h
   ·rename_i c8;simp only [abt] at c8;obtain ⟨⟨⟨⟨q1,q2⟩,q3⟩,q4⟩,q5⟩:=c8;have q1:=aaB q1;have q2:=aaB q2;have q3:=aaB q3;have q4:=aaB q4;have q5:=aaB q5;subst q1; subst q2; subst q3; subst q4; subst q5;injection h with h;injection h with h1 h;injection h with h2 h3;subst h2; subst h3;simp only [abt,decide_eq_true_eq] at h1;obtain ⟨⟨⟨hf,uM⟩,hbig⟩,xS⟩:=h1;refine ⟨hp,fun R w cs hg hl=>callsIn_wide.2 ?_⟩;cases hl with
    | @cons _ cv _ _ r1 hl=>
    cases hl with
    | @cons _ fv _ _ r2 hl=>
    cases hl;cases r2 with
    |fn x1 x2=>
    cases x1; cases x2;by_cases he:es=[]
    ·subst he;obtain ⟨pa,cap,rfl⟩:∃ pa cap,cv=.slice pa 0 cap:=by
      have uM:len=0:=uM;subst uM;cases r1 with
      |jX _ _=>exact ⟨_,_,rfl⟩
      |dM _ _ _=>exact ⟨_,_,rfl⟩
     refine (AnyF.slices_SortFunc_none (P:=E.P) (ρ:=ρ) L pa cap _ w).mono fun e w' ⟨e1,e2⟩=>?_
     subst e1; subst e2;have ZZ:jA p cf []=[]:=by simp [jA]
     have hG:aG G oid (.dv (jA p cf []) sq U7)=G:=by rw [ZZ]; exact kA hid
     rw [hG];exact ⟨.bu [],G,R,⟨rfl,rfl⟩,Rel.bu .nil,hg,Step.refl _ _ _ _⟩
    ·have nH:0 < es.length:=abZ.2 he;cases r1 with
     |jX _ _=>omega
     | @dM _ _ _ _ _ cap b o' ro ca dS jK=>
     subst hf; subst uM;obtain ⟨b',c',cur,vs,rfl,g1,g2,g3,g4,g5,g6,g7,g8,g9⟩:=ng hg hid ca (fun k=>by subst k; exact dS);obtain ⟨rfl,Mw,vg⟩:=dS.2 rfl;have pf:o'=0:=by
      rcases vg with vg|vg
      ·rw [vg,ab2]
      ·omega
     subst pf
     -- the elements by their leaves
     have xN:=Gu hC.flat es xS;generalize R5:es.map p.bC=xs at xN;have hlen:xs.length=es.length:=by rw [← R5,abi]
     have XP:∀ (ys:List p.T),∀ a∈aq (ys.map p.enc),il a=true:=fun ys=>by
      induction ys with
      |nil=>intro a ha; simp [aq] at ha
      |cons y ys ih=>
       intro a ha;rw [aad,aq] at ha;rcases abQ.1 ha with ha|ha
       ·exact hC.IX y a ha
       ·exact ih a ha
     have Yz:vs=xs.flatMap (iB p):=by
      rw [xN] at g7;rw [vR (XP xs) g7,tv]
     have hd:(xs.toArray).size=es.length:=by simpa using hlen
     have ad8:(flatK (iB p) sq xs.toArray).toList=vs:=by rw [CX (AW hC),Yz]
     have hfs:(flatK (iB p) sq xs.toArray).size=es.length * sq:=by rw [size_flatK,hd]
     have jN:cur.toList.length=c' * sq:=by rw [show cur.toList.length=cur.size from abA,g5]
     have hle:es.length * sq≤c' * sq:=Nat.mul_le_mul_right _ g3;have hH:HoldsK (iB p) sq w b 0 xs.toArray:=by
      intro j hj;rw [hfs] at hj;refine ⟨?_,?_⟩
      ·have Z0:j < (flatK (iB p) sq xs.toArray).size:=by rw [hfs]; exact hj
       rw [getElem!_pos (flatK (iB p) sq xs.toArray) j Z0,abv,cell_of_row w b j cur U7 (0,0) g2];have h1:cur[j]?=vs[j]?:=by
        rw [← g9,abB,if_pos hj,← aau]
       rw [h1,← ad8,aau,abo Z0];rfl
      ·unfold World.frozen?;rw [g2];simp
     have hCL:=Pw SA hC hg g2 g6 xs.toArray.size;have key:=AnyQ.slices_SortFunc_total L sq aE zE (iB p) (AW hC) (fun x v hv=>by
      obtain ⟨a,ha,rfl⟩:=abz.1 hv;exact AT (hC.IX x a ha)) cf hC.swo c #[] b 0 cap xs.toArray w (pq hc) hCL hH (bo g2) (by rw [hd]; omega) hC.tot
     rw [hd] at key;refine key.mono fun e w' ⟨e1,n,os,e2⟩=>?_
     subst e1
     -- the world behind
     have e3:putRowK (iB p) sq (aao w n) b 0 (xs.mergeSort fun x y=>!(ltOf cf) y x).toArray=(aao w n).setRow b (putCells (fun v=>v) 0 (flatK (iB p) sq (xs.mergeSort fun x y=>!(ltOf cf) y x).toArray) cur):=pL (w:=aao w n) g2 _;have e4:w'=aby ((aao w n).setRow b (putCells (fun v=>v) 0 (flatK (iB p) sq (xs.mergeSort fun x y=>!(ltOf cf) y x).toArray) cur)) os:=by
      rw [e2];unfold sortWorldK;rw [e3]
     clear e2 e3 key;generalize R7:(xs.mergeSort fun x y=>!(ltOf cf) y x)=ys at e4;have hyl:ys.length=es.length:=by rw [← R7,abV,hlen]
     have hso:jA p cf es=ys.map p.enc:=by unfold jA; rw [R5,R7]
     rw [hso];have hfy:(flatK (iB p) sq ys.toArray).toList=ys.flatMap (iB p):=by rw [CX (AW hC)]
     have ad9:(flatK (iB p) sq ys.toArray).size=es.length * sq:=by rw [size_flatK]; simp [hyl]
     have IY:(putCells (fun v=>v) 0 (flatK (iB p) sq ys.toArray) cur).size=cur.size:=by simp [putCells]
     have Hd:(putCells (fun v=>v) 0 (flatK (iB p) sq ys.toArray) cur).toList.take (es.length * sq)=ys.flatMap (iB p):=by
      rw [← hfy];apply abE;intro t;rw [abB];by_cases ht:t < es.length * sq
      ·have h1:t < (flatK (iB p) sq ys.toArray).size:=by rw [ad9]; exact ht
       have h2:t < cur.size:=by rw [g5]; omega
       rw [if_pos ht,aau,aau,abo h1,abo (by rw [IY]; exact h2)];simp only [putCells,abY,abT,abv,h1,and_self,if_true,ab3];rw [getElem!_pos (flatK (iB p) sq ys.toArray) t h1]
      ·rw [if_neg ht,abw (by rw [abA,ad9]; omega)]
     generalize putCells (fun v=>v) 0 (flatK (iB p) sq ys.toArray) cur=cur2 at e4 IY Hd;have H9:∀ v∈ys.flatMap (iB p),v.oneCell'=true:=fun v hv=>by
      obtain ⟨y,_,hy⟩:=List.mem_flatMap.1 hv;obtain ⟨a,ha,rfl⟩:=abz.1 hy;exact AT (hC.IX y a ha)
     have rH:fc sq (ys.map p.enc):=fun a ha=>by
      obtain ⟨y,_,rfl⟩:=abz.1 ha;refine ⟨hC.size y,?_⟩;obtain ⟨cs,rJ⟩:=hC.agg y;rw [rJ]; rfl
     have fF:aP R w (aq (ys.map p.enc)) (ys.flatMap (iB p)):=by
      rw [← tv];exact rY (XP ys)
     have df:bq E R w (fun _=>0) ⟨[],[],G,[],none,0⟩ (⟨#[],[]⟩:Act):=
      ⟨hg,⟨fun k cs h=>by simp [eF] at h,fun k k' cs cs' h=>by simp [eF] at h⟩,fun i hi=>absurd rfl hi,rfl,trivial⟩
     obtain ⟨k1,k2⟩:=df.DI (es':=ys.map p.enc) hid ca g2 (by rw [abi,hyl]) rH IY fF H9 Hd;have Gt:Below (w.setRow b cur2).heap.size (w.setRow b cur2) w':=by
      rw [e4];refine ⟨rfl,rfl,rfl,?_,fun i hi=>?_⟩
      ·show _≤((w.setRow b cur2).heap++os).size;rw [abG]; exact abP _ _
      ·show ((w.setRow b cur2).heap++os)[i]?=_;rw [abj hi]
     exact ⟨.bu [],_,R,⟨rfl,rfl⟩,Rel.bu .nil,Below.LL Gt k1.g hE,k2.trans (Below.CT Gt k1.g.wf)⟩
   ·cases h
  ·cases h
 ·cases h
end
end Go.Am
namespace Go.Am
open Go Go.Sort
section
variable {α:Type} [DecidableEq α] {lt:α→α→Bool}
def xx (lt:α→α→Bool) (l:List α):Prop:=l.Pairwise fun x y=>lt x y=true
omit [DecidableEq α] in
theorem yL (hw:SWO lt):∀ {a b:List α},xx lt a→xx lt b→(∀ x,x∈a↔x∈b)→a=b
 |[],[],_,_,_=>rfl
 |[],y :: b,_,_,h=>by have:=(h y).2 (by simp); simp at this
 |x :: a,[],_,_,h=>by have:=(h x).1 (by simp); simp at this
 |x :: a,y :: b,ha,hb,h=>by
  have ha':=abM.1 ha;have ka:=abM.1 hb;have Hi:x=y:=by
   have h1:=(h x).1 (by simp);have h2:=(h y).2 (by simp);rcases abn.1 h1 with h1|h1
   ·exact h1
   ·rcases abn.1 h2 with h2|h2
    ·exact h2.symm
    ·have l1:=ka.1 x h1;have l2:=ha'.1 y h2;have:=hw.trans _ _ _ l1 l2;rw [hw.irrefl] at this;cases this
  subst Hi;congr 1;refine yL hw ha'.2 ka.2 fun z=>?_
  constructor
  ·intro hz;rcases abn.1 ((h z).1 (by simp [hz])) with rfl|h2
   ·have:=ha'.1 z hz;rw [hw.irrefl] at this;cases this
   ·exact h2
  ·intro hz;rcases abn.1 ((h z).2 (by simp [hz])) with rfl|h2
   ·have:=ka.1 z hz;rw [hw.irrefl] at this;cases this
   ·exact h2
def tw (lt:α→α→Bool) (d:α) (k:α) (l:List α):List α:=
 let at_:=(l.takeWhile fun x=>lt x k).length
 if at_=l.length∨l.getD at_ d≠k then l.take at_++[k]++l.drop at_ else l
omit [DecidableEq α] in
theorem jb (p:α→Bool):∀ l:List α,(∀ x∈l.take (l.takeWhile p).length,p x=true)∧∀ h:(l.takeWhile p).length < l.length,p l[(l.takeWhile p).length]=false
 |[]=>by simp
 |a :: l=>by
  obtain ⟨h1,h2⟩:=jb p l;by_cases ha:p a=true
  ·simp only [ab0,ha,if_true,abI,List.take_succ_cons,abn,forall_eq_or_imp,true_and,List.getElem_cons_succ];exact ⟨h1,fun h=>h2 (by omega)⟩
  ·simp only [ab0,if_neg ha,List.length_nil,List.take_zero];refine ⟨by simp,fun _=>?_⟩;rw [List.getElem_cons_zero];exact Bool.eq_false_iff.2 ha
theorem Px (d:α) (k:α) (l:List α) (x:α):x∈tw lt d k l↔x=k∨x∈l:=by
 unfold tw;simp only;have hle:(l.takeWhile fun x=>lt x k).length≤l.length:=(abH _).length_le;generalize (l.takeWhile fun x=>lt x k).length=a at *;have e:x∈l↔x∈l.take a∨x∈l.drop a:=by rw [← abQ,List.take_append_drop]
 split
 ·simp only [abQ,List.mem_singleton];rw [e];constructor
  ·rintro ((h|h)|h)
   ·exact .inr (.inl h)
   ·exact .inl h
   ·exact .inr (.inr h)
  ·rintro (h|h|h)
   ·exact .inl (.inr h)
   ·exact .inl (.inl h)
   ·exact .inr h
 ·rename_i h;rw [not_or,Decidable.not_not] at h;constructor
  ·exact .inr
  ·rintro (rfl|h2)
   ·have hl:a < l.length:=by omega
    have e2:l.getD a d=l[a]:=by simp [hl]
    rw [e2] at h;rw [← h.2];exact List.getElem_mem hl
   ·exact h2
theorem Py (hw:SWO lt) (ht:∀ x y,lt x y=false→lt y x=false→x=y) (d:α) (k:α) (l:List α) (hl:xx lt l):xx lt (tw lt d k l):=by
 unfold tw;simp only;obtain ⟨h1,h2⟩:=jb (fun x=>lt x k) l;have hle:(l.takeWhile fun x=>lt x k).length≤l.length:=(abH _).length_le;generalize (l.takeWhile fun x=>lt x k).length=a at *;have hp:=List.pairwise_iff_getElem.1 hl;split
 ·rename_i hc;have K4:∀ y∈l.drop a,lt k y=true:=by
   intro y hy;obtain ⟨j,hj,rfl⟩:=List.getElem_of_mem hy;rw [List.length_drop] at hj;rw [List.getElem_drop];have BR:a < l.length:=by omega
   have e2:l.getD a d=l[a]:=by simp [BR]
   have hka:lt k l[a]=true:=by
    cases hh:lt k l[a] with
    |true=>rfl
    |false=>
     have:=ht _ _ (h2 BR) hh;rcases hc with hc|hc
     ·omega
     ·rw [e2] at hc; exact absurd this hc
   by_cases h0:j=0
   ·subst h0; simpa using hka
   ·exact hw.trans _ _ _ hka (hp a (a+j) BR (by omega) (by omega))
  unfold xx;rw [List.append_assoc,List.pairwise_append];refine ⟨hl.take,?_,fun x hx y hy=>?_⟩
  ·rw [abW,abM];exact ⟨K4,hl.drop⟩
  ·rw [abW] at hy;have hxk:=h1 x hx;rcases abn.1 hy with rfl|hy
   ·exact hxk
   ·exact hw.trans _ _ _ hxk (K4 y hy)
 ·exact hl
def Gv (lt:α→α→Bool) (d:α) (l:List α):List α:=l.foldl (fun s k=>tw lt d k s) []
theorem jB (hw:SWO lt) (ht:∀ x y,lt x y=false→lt y x=false→x=y) (d:α) (l:List α):xx lt (Gv lt d l)∧∀ x,x∈Gv lt d l↔x∈l:=by
 have gen:∀ (l s:List α),xx lt s→xx lt (l.foldl (fun s k=>tw lt d k s) s)∧∀ x,x∈l.foldl (fun s k=>tw lt d k s) s↔x∈s∨x∈l:=by
  intro l
  induction l with
  |nil=>intro s hs; exact ⟨hs,fun x=>by simp⟩
  |cons k l ih=>
   intro s hs;rw [List.foldl_cons];obtain ⟨h1,h2⟩:=ih _ (Py hw ht d k s hs);refine ⟨h1,fun x=>?_⟩;rw [h2,Px,abn];constructor
   ·rintro ((h|h)|h)
    ·exact .inr (.inl h)
    ·exact .inl h
    ·exact .inr (.inr h)
   ·rintro (h|h|h)
    ·exact .inl (.inr h)
    ·exact .inl (.inl h)
    ·exact .inr h
 obtain ⟨h1,h2⟩:=gen l [] List.Pairwise.nil;exact ⟨h1,fun x=>by rw [show Gv lt d l=l.foldl (fun s k=>tw lt d k s) [] from rfl,h2]; simp⟩
theorem Gw (d:α) (k:α) (l:List α):(tw lt d k l).length≤l.length+1:=by
 unfold tw;simp only;split
 ·simp; omega
 ·omega
omit [DecidableEq α] in
theorem Gx (hw:SWO lt) (l:List α):(l.mergeSort fun x y=>!lt y x).Pairwise (fun x y=>lt y x=false)∧∀ x,x∈(l.mergeSort fun x y=>!lt y x)↔x∈l:=by
 refine ⟨?_,fun x=>(List.mergeSort_perm l _).mem_iff⟩;have h:=List.pairwise_mergeSort (le:=fun x y=>!lt y x) (fun a b c h1 h2=>by
  simp only [Bool.not_eq_true'] at h1 h2 ⊢;exact hw.ntrans _ _ _ h2 h1) (fun a b=>by
  simp only [Bool.or_eq_true,Bool.not_eq_true'];cases h1:lt b a with
  |false=>exact .inl rfl
  |true=>
   right;cases h2:lt a b with
   |false=>rfl
   |true=>
    have:=hw.trans _ _ _ h1 h2;rw [hw.irrefl] at this;cases this) l
 exact h.imp fun Mz=>by simpa using Mz
end
theorem CY {V X S:Type} {rd:V→Option (V ⊕ X)} (m:Nat) (E:S→Nat→V) (P:S→Nat→Prop) (Q:X→Prop)
  (h:∀ s k,k < m→P s k→∃ s',rd (E s k)=some (.inl (E s' (k+1)))∧P s' (k+1))
  (h0:∀ s,P s m→∃ x,rd (E s m)=some (.inr x)∧Q x) :
  ∀ n s k,k≤m→m < n+k→P s k→∃ x,az rd n (E s k)=some x∧Q x
 |0,s,k,hk,hn,_=>by omega
 |n+1,s,k,hk,hn,hP=>by
  rw [aX];by_cases bY:k < m
  ·obtain ⟨s',e,hP'⟩:=h s k bY hP;rw [e];exact CY m E P Q h h0 n s' (k+1) bY (by omega) hP'
  ·obtain rfl:k=m:=by omega
   obtain ⟨x,e,hQ⟩:=h0 s hP;rw [e];exact ⟨x,rfl,hQ⟩
theorem U8 {α:Type} (l:List α) (p:α→Bool) (d:α):(match (List.range l.length).find? fun j=>!p (l.getD j d) with | some j=>(j:Int) | none=>(l.length:Int))=((l.takeWhile p).length:Int):=by
 obtain ⟨h1,h2⟩:=jb p l;have hle:(l.takeWhile p).length≤l.length:=(abH _).length_le;generalize (l.takeWhile p).length=a at *;have aic:∀ j,j < a→p (l.getD j d)=true:=fun j hj=>by
  have e:l.getD j d=l[j]:=by simp [show j < l.length by omega]
  rw [e];exact h1 _ (List.mem_take_iff_getElem.2 ⟨j,by omega,rfl⟩)
 cases hf:(List.range l.length).find? fun j=>!p (l.getD j d) with
 |none=>
  rw [List.find?_eq_none] at hf;have:¬ a < l.length:=fun bY=>by
   have e:l.getD a d=l[a]:=by simp [bY]
   have:=hf a (List.mem_range.2 bY);rw [e,h2 bY] at this;simp at this
  show (l.length:Int)=(a:Int);omega
 |some j=>
  have hj:=List.mem_range.1 (List.mem_of_find?_eq_some hf);have hp:=List.find?_some hf;have hja:a≤j:=by
   by_cases hc:a≤j
   ·exact hc
   ·have:=aic j (by omega);rw [this] at hp;simp at hp
  have Z1:=(List.find?_eq_some_iff_getElem.1 hf).2;obtain ⟨i,hi,Gy,qc⟩:=Z1;rw [List.getElem_range] at Gy;subst Gy;show (i:Int)=(a:Int);by_cases hc:i=a
  ·rw [hc]
  ·have hai:a < i:=by omega
   have:=qc a hai;rw [List.getElem_range] at this;have e:l.getD a d=l[a]:=by simp [show a < l.length by omega]
   rw [e,h2 (by omega)] at this;simp at this
end Go.Am
namespace Go.Am
open Go Go.RowKit Go.Proofs Go.Shelf Go.Sort
def isInt:AV→Bool
 |.int .i64 _=>true
 |_=>false
def Be:AV→Int
 |.int _ n=>n
 |_=>0
def mJ (n:Int):AV:=.int .i64 n
def sP (es:List AV):List AV:=((es.map Be).mergeSort fun x y=>decide (x≤y)).map mJ
def v7:List AV→Bool
 |[]=>true
 |a :: l=>isInt a&&v7 l
def Jb (el:TypeId):List AV→List GO→Option (Bool × AV × List GO)
 |[.dM id f off sz1 len],G=>match nth G id with
  |some (.dv es sq U7)=>if abK off 0&&abK sz1 1&&abK sq 1&&abK U7 el then
    some (decide (f=es.length)&&decide (len=es.length)&&decide (es.length≤140737488355328)&&v7 es,.bu [],aG G id (.dv (sP es) 1 el)) else none
  |_=>none
 |_,_=>none
theorem Bf:∀ es:List AV,v7 es=true→es=(es.map Be).map mJ
 |[],_=>rfl
 |a :: es,h=>by
  simp only [v7,abt] at h;have ih:=Bf es h.2;have ha:a=mJ (Be a):=by
   have:=h.1;unfold isInt at this;split at this
   ·rfl
   ·cases this
  rw [aad,aad,← ih,← ha]
theorem pQ:∀ zs:List Int,aq (zs.map mJ)=zs.map mJ
 |[]=>rfl
 |z :: zs=>by
  show [mJ z]++aq (zs.map mJ)=mJ z :: zs.map mJ;rw [pQ zs];rfl
theorem v8:∀ zs:List Int,(zs.map mJ).map Gs=zs.map (abr .i64)
 |[]=>rfl
 |z :: zs=>by rw [aad,aad,v8 zs]; rfl
section
variable {E:Env} {ρ:Ren}
theorem Qh (L:Lays.n189 E.P ρ) (hp:Plain E.P (ρ.f 189)) (hE:E.lo=0) {el:TypeId} :
  ∀ (args:List AV) (G:List GO) (r:AV) (G':List GO),Jb el args G=some (true,r,G')→cO E (ρ.f 189) args G (fun r' CO=>r'=r∧CO=G'):=by
 intro args G r G' h;unfold Jb at h;split at h
 ·rename_i G1 oid f off sz1 len;split at h
  ·rename_i es sq U7 hid;split at h
   ·rename_i c8;simp only [abt] at c8;obtain ⟨⟨⟨q2,q3⟩,q4⟩,q5⟩:=c8;have q2:=aaB q2;have q3:=aaB q3;have q4:=aaB q4;have q5:=aaB q5;subst q2; subst q3; subst q4; subst q5;injection h with h;injection h with h1 h;injection h with h2 h3;subst h2; subst h3;simp only [abt,decide_eq_true_eq] at h1;obtain ⟨⟨⟨hf,uM⟩,hbig⟩,xS⟩:=h1;refine ⟨hp,fun R w cs hg hl=>callsIn_wide.2 ?_⟩;cases hl with
    | @cons _ cv _ _ r1 hl=>
    cases hl;by_cases he:es=[]
    ·subst he;obtain ⟨pa,cap,rfl⟩:∃ pa cap,cv=.slice pa 0 cap:=by
      have uM:len=0:=uM;subst uM;cases r1 with
      |jX _ _=>exact ⟨_,_,rfl⟩
      |dM _ _ _=>exact ⟨_,_,rfl⟩
     refine (Any.slices_Sort_int_none (P:=E.P) (ρ:=ρ) L pa cap w).mono fun e w' ⟨e1,e2⟩=>?_
     subst e1; subst e2;have ZZ:sP []=[]:=by simp [sP]
     have hG:aG G oid (.dv (sP []) 1 U7)=G:=by rw [ZZ]; exact kA hid
     rw [hG];exact ⟨.bu [],G,R,⟨rfl,rfl⟩,Rel.bu .nil,hg,Step.refl _ _ _ _⟩
    ·have nH:0 < es.length:=abZ.2 he;cases r1 with
     |jX _ _=>omega
     | @dM _ _ _ _ _ cap b o' ro ca dS jK=>
     subst hf; subst uM;obtain ⟨b',c',cur,vs,rfl,g1,g2,g3,g4,g5,g6,g7,g8,g9⟩:=ng hg hid ca (fun k=>by subst k; exact dS);obtain ⟨rfl,Mw,vg⟩:=dS.2 rfl;have pf:o'=0:=by
      rcases vg with vg|vg
      ·rw [vg,ab2]
      ·omega
     subst pf
     -- the elements by their leaves
     have xN:=Bf es xS;generalize R5:es.map Be=xs at xN;have hlen:xs.length=es.length:=by rw [← R5,abi]
     have XP:∀ (ys:List Int),∀ a∈aq (ys.map mJ),il a=true:=fun ys a ha=>by
      rw [pQ] at ha;obtain ⟨y,_,rfl⟩:=abz.1 ha;rfl
     have Yz:vs=xs.map (abr .i64):=by
      rw [xN] at g7;rw [vR (XP xs) g7,pQ,v8]
     have hd:(xs.toArray).size=es.length:=by simpa using hlen
     have jN:cur.toList.length=c':=by rw [show cur.toList.length=cur.size from abA,g5,Nat.mul_one]
     have hH:Holds (abr .i64) w b 0 xs.toArray:=by
      intro j hj;rw [hd] at hj;refine ⟨?_,?_⟩
      ·have Z0:j < xs.length:=by omega
       have hj3:j < xs.toArray.size:=by rw [hd]; exact hj
       rw [getElem!_pos xs.toArray j hj3,abv,cell_of_row w b j cur U7 (0,0) g2];have h1:cur[j]?=vs[j]?:=by
        rw [← g9,abB,if_pos (by omega),← aau]
       rw [h1,Yz,abF,aaO Z0];rfl
      ·unfold World.frozen?;rw [g2];simp
     have key:=Any.slices_Sort_int L b 0 cap xs w hH (bo g2) (by omega);rw [hlen] at key;refine key.mono fun e w' ⟨e1,n,os,e2⟩=>?_
     subst e1
     -- the world behind
     have e3:putRow (abr .i64) (aao w n) b 0 (xs.mergeSort fun x y=>decide (x≤y)).toArray=(aao w n).setRow b (putCells (abr .i64) 0 (xs.mergeSort fun x y=>decide (x≤y)).toArray cur):=pL (w:=aao w n) g2 _;have e4:w'=aby ((aao w n).setRow b (putCells (abr .i64) 0 (xs.mergeSort fun x y=>decide (x≤y)).toArray cur)) os:=by
      rw [e2,e3]
     clear e2 e3 key;generalize R7:(xs.mergeSort fun x y=>decide (x≤y))=ys at e4;have hyl:ys.length=es.length:=by rw [← R7,abV,hlen]
     have hso:sP es=ys.map mJ:=by unfold sP; rw [R5,R7]
     rw [hso];have IY:(putCells (abr .i64) 0 ys.toArray cur).size=cur.size:=by simp [putCells]
     have Hd:(putCells (abr .i64) 0 ys.toArray cur).toList.take (es.length * 1)=ys.map (abr .i64):=by
      apply abE;intro t;rw [abB,Nat.mul_one];by_cases ht:t < es.length
      ·have h1:t < ys.length:=by omega
       have h2:t < cur.size:=by rw [g5]; omega
       have h3:t < ys.toArray.size:=by simpa using h1
       rw [if_pos ht,aau,abo (by rw [IY]; exact h2),abF,aaO h1];simp only [putCells,abY,abT,abv,h3,and_self,if_true,ab3];rw [getElem!_pos ys.toArray t h3];rfl
      ·rw [if_neg ht,abw (by rw [abi]; omega)]
     generalize putCells (abr .i64) 0 ys.toArray cur=cur2 at e4 IY Hd;have H9:∀ v∈ys.map (abr .i64),v.oneCell'=true:=fun v hv=>by
      obtain ⟨y,_,rfl⟩:=abz.1 hv;rfl
     have rH:fc 1 (ys.map mJ):=fun a ha=>by
      obtain ⟨y,_,rfl⟩:=abz.1 ha;exact ⟨rfl,rfl⟩
     have fF:aP R w (aq (ys.map mJ)) (ys.map (abr .i64)):=by
      rw [← v8];have:=rY (R:=R) (w:=w) (XP ys);rw [pQ] at this ⊢;exact this
     have df:bq E R w (fun _=>0) ⟨[],[],G,[],none,0⟩ (⟨#[],[]⟩:Act):=
      ⟨hg,⟨fun k cs h=>by simp [eF] at h,fun k k' cs cs' h=>by simp [eF] at h⟩,fun i hi=>absurd rfl hi,rfl,trivial⟩
     obtain ⟨k1,k2⟩:=df.DI (es':=ys.map mJ) hid ca g2 (by rw [abi,hyl]) rH IY fF H9 Hd;have Gt:Below (w.setRow b cur2).heap.size (w.setRow b cur2) w':=by
      rw [e4];refine ⟨rfl,rfl,rfl,?_,fun i hi=>?_⟩
      ·show _≤((w.setRow b cur2).heap++os).size;rw [abG]; exact abP _ _
      ·show ((w.setRow b cur2).heap++os)[i]?=_;rw [abj hi]
     exact ⟨.bu [],_,R,⟨rfl,rfl⟩,Rel.bu .nil,Below.LL Gt k1.g hE,k2.trans (Below.CT Gt k1.g.wf)⟩
   ·cases h
  ·cases h
 ·cases h
end
end Go.Am
namespace Go.Am
open Go Go.RowKit Go.Proofs Go.Shelf Go.Lib
def Qi (sz qp:Nat) (el:TypeId):List AV→List GO→Option (Bool × AV × List GO)
 |[.list .nil _ [],.int .i64 n],G=>some (decide (0≤n∧n * (qp:Int)≤140737488355328∧n≤4611686018427387904),.dM G.length 0 0 sz 0,G++[.dv [] sz el])
 |_,_=>none
section
variable {E:Env} {ρ:Ren}
theorem Qj (L:Lays8.n4 E.P ρ) (hp:Plain E.P (ρ.f 4)) (i0:TypeInfo) (z:Value) (hi0:E.P.info? (ρ.t 25)=some i0) (hz0:i0.zero=some z) (ZZ:0 < i0.size) (hzs:z.cells.size=i0.size) :
  ∀ (args:List AV) (G:List GO) (r:AV) (G':List GO),Qi i0.size i0.bytes (ρ.t 25) args G=some (true,r,G')→cO E (ρ.f 4) args G (fun r' CO=>r'=r∧CO=G'):=by
 intro args G r G' h;unfold Qi at h;split at h
 ·rename_i G1 sz0 n;injection h with h;injection h with h1 h;injection h with h2 h3;subst h2; subst h3;have h1:=of_decide_eq_true h1;obtain ⟨DA,Yf,amQ⟩:=h1;refine ⟨hp,fun R w cs hg hl=>callsIn_wide.2 ?_⟩;cases hl with
  | @cons _ cv _ _ r1 hl=>
  cases hl with
  | @cons _ nv _ _ r2 hl=>
  cases hl;cases r2;have Hb:∃ c0,cv=.slice none 0 c0∧c0=0:=by
   cases r1 with
   |mb=>exact ⟨_,rfl,rfl⟩
   |list _ _ _ hk=>exact hk.elim
  obtain ⟨c0,rfl,rfl⟩:=Hb;obtain ⟨m,rfl⟩:∃ m:Nat,n=(m:Int):=⟨n.toNat,by omega⟩;have df:bq E R w (fun _=>0) ⟨[],[],G,[],none,0⟩ (⟨#[],[]⟩:Act):=
   ⟨hg,⟨fun k cs h=>by simp [eF] at h,fun k k' cs cs' h=>by simp [eF] at h⟩,fun i hi=>absurd rfl hi,rfl,trivial⟩
  by_cases hm:m=0
  ·subst hm;refine (Any8.slices_Grow_room (P:=E.P) (ρ:=ρ) L none 0 0 0 w (abx _) (by omega) (by omega) (by omega)).mono fun e w' ⟨e1,e2⟩=>?_
   have e2:=e2.symm;subst e1; subst e2;obtain ⟨k1,k2⟩:=df.JF (i0.size+65536) (ρ.t 25);have hn:nth (jh R).obj G.length=some .bS:=by rw [← hg.len]; exact fW _ _
   have ev:Yg G.length (i0.size+65536)=.dM G.length 0 0 i0.size 0:=by
    unfold Yg;rw [abX (Nat.le_add_left _ _),Nat.add_sub_cancel];rfl
   have eo:Ng (i0.size+65536) (ρ.t 25)=.dv [] i0.size (ρ.t 25):=by
    unfold Ng;rw [abX (Nat.le_add_left _ _),Nat.add_sub_cancel];rfl
   have hv:Rel (jh R) w (.dM G.length 0 0 i0.size 0) (.slice none 0 0):=by
    rw [← ev]; exact JE hn
   have L8:=k1.g;have eG:((⟨[],[],G,[],none,0⟩:St).fj (Ng (i0.size+65536) (ρ.t 25))).G=G++[.dv [] i0.size (ρ.t 25)]:=by
    show G++[Ng (i0.size+65536) (ρ.t 25)]=_;rw [eo]
   rw [eG] at L8;exact ⟨_,_,jh R,⟨rfl,rfl⟩,hv,L8,k2⟩
  ·have aaC:(0+m) * i0.bytes≤140737488355328:=by
    rw [abv];have:((m * i0.bytes:Nat):Int)≤140737488355328:=by rw [Int.natCast_mul]; exact Yf
    omega
   have key:=Any8.slices_Grow_grow (P:=E.P) (ρ:=ρ) L i0 z hi0 hz0 ZZ none 0 0 m [] w (abx _) (by omega) aaC (by omega) (by simp) (fun _=>rfl) (fun a h=>by cases h);refine key.mono fun e w' ⟨e1,e2⟩=>?_
   have oP:=grownCap_ge w (0+m) 0 (ρ.t 25);have hcm:=grownCap_le_maxLen w (0+m) 0 (ρ.t 25) (by unfold maxLen; omega);generalize grownCap w (0+m) 0 (ρ.t 25)=cap at *;subst e1; subst e2;obtain ⟨d1,d2⟩:=df.drew;have gi:(([]:List Value).toArray++aaY z.cells (0+m - 0)++aaY z.cells (cap - (0+m))).size=cap * i0.size:=by
    simp only [abG,List.size_toArray,size_zeroCells,hzs,List.length_nil,abv,ab3,← Nat.add_mul];congr 1;omega
   have r1:=d1.HJ (cur:=([]:List Value).toArray++aaY z.cells (0+m - 0)++aaY z.cells (cap - (0+m))) (vs:=[]) (es:=[]) (elem:=ρ.t 25) (sz:=i0.size) (cap:=cap) (abT _) hcm gi (fun e he=>by cases he) .nil (fun v hv=>by cases hv) (by simp);have st:=d2.trans (dD d1 (.cells (([]:List Value).toArray++aaY z.cells (0+m - 0)++aaY z.cells (cap - (0+m))) (ρ.t 25)) (.tok 0 w.drew.heap.size cap) (by exact fun _ h=>h));have hv:Rel (R.add (.tok 0 w.heap.size cap)) (w.drew.alloc (.cells (([]:List Value).toArray++aaY z.cells (0+m - 0)++aaY z.cells (cap - (0+m))) (ρ.t 25))) (.dM G.length 0 0 i0.size 0) (.slice (some ⟨w.heap.size,0,none⟩) 0 cap):=
    Rel.dM (iy df _) ⟨abx _,fun _=>⟨rfl,abv _,.inl (ab2 _).symm⟩⟩ (abT _)
   exact ⟨_,_,_,⟨rfl,rfl⟩,hv,r1.g,st⟩
 ·cases h
end
end Go.Am
