/- The abstract machine: strings.Split,strings.Cut and strconv.Itoa by their contracts. -/
import Derived.Test.YtldcljfjjoidhaaGreatDoorAmKK
import Derived.Lib.SplitLaws
import Derived.Lib.CutLaws
import Derived.Deep.Draws
import Derived.Lib.LaidTab
import Derived.Lib.ItoaNum
import Derived.Sort.Grow
import Derived.Shelf.SlSortCmp.NoneTotal
import Derived.Shelf.Sort.Plain
import Derived.Shelf.Slices.In.SortNone
import Derived.Shelf.Spec.SlicesGrow
set_option linter.all false
open Array renaming getElem?_toList→aae, getElem?_append_left→aai, getElem?_eq_getElem→aao, length_toList→aby, size_append→abV, getElem?_eq_none→acW, getElem?_modify→acY, getElem_mapIdx→ac1, ext_getElem?→ac5
open Bool renaming and_eq_true→aa0
open Go.Builtin renaming zeroCells→aag
open Go.Lib renaming index→aa1, splitK→abN, countB→abS, cut→acT
open Go.Sort renaming ahead→aab, grow→aa7
open Go.Value renaming string→aap, int→aaZ
open Go.World renaming cell?→acV
open List renaming map_cons→aac, getElem?_eq_getElem→aad, length_map→aah, map→aaF, getElem?_eq_none→aa3, mem_cons→aa4, pairwise_iff_getElem→aa5, mem_append→aa8, mem_map→abx, mem_take_iff_getElem→abD, getElem?_take→abI, ext_getElem?→abT, getElem?_map→abU, takeWhile_sublist→abW, length_cons→abX, count_cons_of_ne→ab1, length_mergeSort→ace, pairwise_cons→acw, mem_singleton→acz, flatMap_cons→acS, singleton_append→ac0, pairwise_append→ac2, length_pos_iff→ac3, takeWhile_cons→ac4
open List.Pairwise renaming nil→adb
open Nat renaming eq_of_beq_eq_true→aaf, zero_add→aa2, le_refl→aa6, beq→ab2, le_add_right→acU, zero_le→acX, ble_eq_true_of_le→acZ, zero_mul→ac6, sub_zero→ac7, le_of_eq→ac9
open Option.some renaming inj→adi
namespace Go.Am
open Go Go.RowKit
def bu (c:UInt8):List UInt8→List (List UInt8)
 |[]=>[[]]
 |b :: s=>if b=c then [] :: bu c s else match bu c s with
  |[]=>[[b]]
  |x :: xs=>(b :: x) :: xs
def fD (c:UInt8):List UInt8→List UInt8 × List UInt8 × Bool
 |[]=>([],[],false)
 |b :: s=>if b=c then ([],s,true) else (b :: (fD c s).1,(fD c s).2.1,(fD c s).2.2)
theorem aeZ (c b:UInt8) (l:List UInt8):[c].isPrefixOf (b :: l)=(c == b):=by simp [List.isPrefixOf]
theorem ox (c b:UInt8) (l:List UInt8):aa1 (b :: l) [c]=if b=c then 0 else if aa1 l [c]=-1 then -1 else aa1 l [c]+1:=by
 rw [aa1,aeZ];by_cases h:b=c
 ·subst h; simp
 ·have:(c == b)=false:=by simp; exact fun e=>h e.symm
  simp [this,h]
theorem uP (c:UInt8) (l:List UInt8):aa1 l [c]=-1∨∃ i:Nat,aa1 l [c]=i:=by
 rcases Lib.index_spec l [c] with ⟨h,_⟩|⟨i,h,_⟩
 ·exact .inl h
 ·exact .inr ⟨i,h⟩
theorem vX (c:UInt8):∀ l:List UInt8,aa1 l [c]=-1↔l.count c=0
 |[]=>by simp [aa1]
 |b :: l=>by
  rw [ox];by_cases h:b=c
  ·subst h; simp
  ·have ih:=vX c l;rw [if_neg h,ab1 h];rcases uP c l with h1|⟨i,h1⟩
   ·rw [if_pos h1]; simp [ih.1 h1]
   ·have cS:aa1 l [c]≠-1:=by omega
    rw [if_neg cS];constructor
    ·intro h2; omega
    ·intro h2; exact absurd (ih.2 h2) cS
theorem qS (c:UInt8) (l:List UInt8):bu c l≠[]:=by
 cases l with
 |nil=>simp [bu]
 |cons b l=>
  unfold bu;split
  ·simp
  ·split <;> simp
theorem rQ (c:UInt8):∀ l:List UInt8,l.count c=0→bu c l=[l]
 |[],_=>rfl
 |b :: l,h=>by
  have hb:b≠c:=fun e=>by subst e; simp at h
  rw [ab1 hb] at h;unfold bu;rw [if_neg hb,rQ c l h]
theorem EF (c:UInt8):∀ l:List UInt8,abN [c] 0 (l.count c) l=bu c l
 |[]=>by simp [abN,bu]
 |b :: l=>by
  have ih:=EF c l;by_cases hb:b=c
  ·subst hb;rw [List.count_cons_self,abN,ox,if_pos rfl];simp [bu,ih]
  ·rw [ab1 hb];cases hk:l.count c with
   |zero=>
    have:=rQ c l hk;unfold bu;rw [if_neg hb,this,abN]
   |succ k=>
    have cS:aa1 l [c]≠-1:=fun e=>by have:=(vX c l).1 e; omega
    obtain ⟨i,hi⟩:=(uP c l).resolve_left cS;rw [hk,abN,hi] at ih;rw [abN,ox,if_neg hb,if_neg cS,hi];have e1:(((i:Int) == -1))=false:=by simp
    have e2:(((i:Int)+1 == -1))=false:=by simp; omega
    rw [e1] at ih;rw [e2];unfold bu;rw [if_neg hb,← ih];have e3:((i:Int)+1).toNat=i+1:=by omega
    simp [e3]
theorem UO (c:UInt8):∀ l:List UInt8,acT l [c]=fD c l
 |[]=>by simp [acT,aa1,fD]
 |b :: l=>by
  have ih:=UO c l;unfold acT at ih ⊢;rw [ox];unfold fD;by_cases hb:b=c
  ·rw [if_pos hb]; simp [hb]
  ·rw [if_neg hb,if_neg hb,← ih];rcases uP c l with h|⟨i,h⟩
   ·rw [if_pos h,h]; simp
   ·have cS:aa1 l [c]≠-1:=by omega
    have h1:(0:Int)≤(i:Int)+1:=by omega
    have h2:(0:Int)≤(i:Int):=by omega
    have e3:((i:Int)+1).toNat=i+1:=by omega
    rw [if_neg cS,h,if_pos h1,if_pos h2,e3];simp
theorem Nh (c:UInt8) (s:List UInt8):(Lib.splitB ⟨#[c]⟩ 0 (abS ⟨⟨s⟩⟩ ⟨#[c]⟩) ⟨⟨s⟩⟩).map (·.data.toList)=bu c s:=by
 rw [Lib.splitB_data];show abN [c] 0 (Lib.count s [c]) s=_;rw [Lib.count_one];exact EF c s
def zr (n:Int):Option (List UInt8):=bif decide (-9223372036854775808≤n)&&decide (n≤9223372036854775807) then some (Lib.itoa n) else none
def G7:aD:=⟨p1 (.int .i64),.str,zr⟩
def Ni:List UInt8 × List UInt8→Option (List (List UInt8))
 |(s,[c])=>bif decide (s.length < 4294967281) then some (bu c s) else none
 |_=>none
def aaL:List UInt8 × List UInt8→Option (List UInt8 × List UInt8 × Bool)
 |(s,[c])=>bif decide (s.length < 4294967281) then some (fD c s) else none
 |_=>none
def CO:aD:=⟨p2 .str .str,.list 1 .str,Ni⟩
def RI:aD:=⟨p2 .str .str,.bq (.cons .str (.cons .str (.cons .bool .nil))),aaL⟩
section
variable {E:Env} {R:ak} {w w':World}
theorem aU.ae0 {g:FuncId} {args:List AV} {xs:List (List UInt8)} {t:TypeId} (hp:Plain E.P g) (hm:xs.length≤140737488355328)
  (h:∀ (R:ak) (w:World) (cs:List Value),dC E R w []→aN R w args cs→Calls E.P g ⟨cs⟩ w (fun e w'=>e=.returned (.slice (some ⟨w.heap.size,0,none⟩) xs.length xs.length)∧w'=w.alloc (.cells ((xs.map fun l=>aap ⟨⟨l⟩⟩).toArray) t)))
  (vA:aG 0 args=true):aU E g args (fun r'=>r'=(aP.list 1 .str).enc xs):=fun G=>
 ⟨hp,fun R w cs hg hl=>by
  let R0:ak:=⟨R.I,[]⟩
  have m0:Mv R R0 0:=⟨fun _ _ h=>h,fun _ _ h=>absurd h (Nat.not_lt_zero _)⟩;have Pf:dC E R0 w []:=⟨rfl,fun id go ro h1 _=>by simp [nth] at h1,fun i j ri rj b h1=>by simp [R0,nth] at h1,hg.wf,fun g cs rW=>(hg.cr g cs rW).move m0 (cF _ (E.pg g cs rW)),hg.lo⟩;refine callsIn_wide.2 ((h R0 w cs Pf (hl.move m0 vA)).mono fun e w' ⟨he,hw⟩=>?_);subst he; subst hw
  let R':ak:=R.all w.heap.size
  have e1:=uo (R:=R) hg.wf (.cells ((xs.map fun l=>aap ⟨⟨l⟩⟩).toArray) t);have e:Ext R w R' (w.alloc (.cells ((xs.map fun l=>aap ⟨⟨l⟩⟩).toArray) t)):=e1.trans (qH R _ _);have old:∀ b,b < w.heap.size→(w.alloc (.cells ((xs.map fun l=>aap ⟨⟨l⟩⟩).toArray) t)).heap[b]?=w.heap[b]?:=fun b hb=>heap_alloc_old w _ hb
  have im:∀ b o,b < w.heap.size→R'.I b o→R.I b o:=fun b o hb hi=>hi.resolve_right (by omega)
  refine ⟨_,G,R',⟨rfl,rfl⟩,?_,?_,⟨e,rfl,rfl,rfl,by simp,fun b hb _=>old b hb,fun b hb ho=>ho,fun b o hi hb _=>im b o hb hi⟩⟩
  ·have mU:(w.alloc (.cells ((xs.map fun l=>aap ⟨⟨l⟩⟩).toArray) t)).heap[w.heap.size]?=some (.cells ((xs.map fun l=>aap ⟨⟨l⟩⟩).toArray) t):=heap_alloc_new w _;have key:∀ (ys:List (List UInt8)) (o:Nat),(∀ (j:Nat) l,ys[j]?=some l→xs[o+j]?=some l)→gj R' (w.alloc (.cells ((xs.map fun l=>aap ⟨⟨l⟩⟩).toArray) t)) w.heap.size o 1 (ys.map (fun l=>AV.str l)):=by
    intro ys
    induction ys with
    |nil=>intro o _; exact .nil
    |cons l ys ih=>
     intro o hj;refine .cons rfl rfl rfl (.cons (c:=.string ⟨⟨l⟩⟩) ?_ rfl (.inr rfl) (.str l) .nil) (ih (o+1) fun j l' h'=>by
      have:=hj (j+1) l' (by simpa using h');rwa [show o+(j+1)=o+1+j by omega] at this)
     have h0:=hj 0 l rfl;rw [Nat.add_zero] at h0;simp only [acV,mU];simp [h0]
   have hk:=key xs 0 (fun j l h=>by rw [aa2]; exact h);exact Rel.list (k:=.ly) (sz:=1) (es:=xs.map (fun l=>AV.str l)) hk (by rw [aah]) (aa6 _) trivial
  ·exact hg.aY e rfl (fun b hb=>old b (hg.cj hb)) (fun b o hb hi=>im b o (hg.cj hb) hi) (fun b o hi=>by
    rcases hi with hi|hi
    ·have:=hg.wf b o hi; simp; omega
    ·subst hi; simp) (fun hd=>hd)⟩
theorem Nj {g gm:FuncId} {m:Int} {t:TypeId} (hp:Plain E.P g) (hg:E.cr gm=some [.int .i64 m])
  (h:∀ (s:ByteArray) (c:UInt8) (w:World),s.size < 4294967281→w.cell? ⟨gm,0,none⟩=some (.int .i64 m)→Calls E.P g #[.string s,.string ⟨#[c]⟩] w fun e w'=>
   e=.returned (.slice (some ⟨w.heap.size,0,none⟩) (abS s ⟨#[c]⟩+1) (abS s ⟨#[c]⟩+1))∧w'=w.alloc (.cells ((Lib.splitB ⟨#[c]⟩ 0 (abS s ⟨#[c]⟩) s).map aap).toArray t)):ai E g CO:=fun x y hT=>by
 obtain ⟨s,c⟩:=x
 match c,hT with
 |[],hT=>cases hT
 |_ :: _ :: _,hT=>cases hT
 |[c],hT=>
  have hT:(bif decide (s.length < 4294967281) then some (bu c s) else none)=some y:=hT;obtain ⟨h1,h2⟩:s.length < 4294967281∧bu c s=y:=by
   cases hd:decide (s.length < 4294967281) with
   |true=>rw [hd] at hT; exact ⟨of_decide_eq_true hd,adi hT⟩
   |false=>rw [hd] at hT; cases hT
  subst h2;have hB:=Nh c s;have oX:=Lib.splitB_all ⟨#[c]⟩ (aa6 1) 0 _ ⟨⟨s⟩⟩ rfl;have hlen:(bu c s).length=abS ⟨⟨s⟩⟩ ⟨#[c]⟩+1:=by rw [← hB,aah,oX]
  have jo:=Lib.countB_le ⟨#[c]⟩ (aa6 1) s.length ⟨⟨s⟩⟩ (by show s.length≤_; exact aa6 _);have jo:abS ⟨⟨s⟩⟩ ⟨#[c]⟩≤s.length:=jo;refine aU.ae0 (t:=t) hp (by rw [hlen]; omega) (fun R w cs hr hl=>?_) rfl;have yf:dV R w gm 0 [.int .i64 m]:=(hr.cr gm _ hg).1;have hm:w.cell? ⟨gm,0,none⟩=some (.int .i64 m):=by
   cases yf with
   |cons a1 _ _ a4 _=>cases a4; exact a1
  cases hl with
  |cons a1 hl=>
  cases hl with
  |cons a2 hl=>
  cases hl;cases a1; cases a2;refine (h ⟨⟨s⟩⟩ c w (by show s.length < _; exact h1) hm).mono ?_;rintro e w' ⟨rfl,rfl⟩;have e3:(Lib.splitB ⟨#[c]⟩ 0 (abS ⟨⟨s⟩⟩ ⟨#[c]⟩) ⟨⟨s⟩⟩).map aap=(bu c s).map fun l=>aap ⟨⟨l⟩⟩:=by
   rw [← hB,List.map_map]; rfl
  rw [hlen,e3];exact ⟨rfl,rfl⟩
theorem WM {g gm:FuncId} {m:Int} (hp:Plain E.P g) (hg:E.cr gm=some [.int .i64 m]) (hE:E.lo=0)
  (h:∀ (s:ByteArray) (c:UInt8) (w:World),s.size < 4294967281→w.cell? ⟨gm,0,none⟩=some (.int .i64 m)→Calls E.P g #[.string s,.string ⟨#[c]⟩] w fun e w'=>
   e=.returned (.tuple #[.string ⟨(acT s.data.toList [c]).1.toArray⟩,.string ⟨(acT s.data.toList [c]).2.1.toArray⟩,.bool (acT s.data.toList [c]).2.2])∧∃ n,w'=w.drewN n):ai E g RI:=fun x y hT=>by
 obtain ⟨s,c⟩:=x
 match c,hT with
 |[],hT=>cases hT
 |_ :: _ :: _,hT=>cases hT
 |[c],hT=>
  have hT:(bif decide (s.length < 4294967281) then some (fD c s) else none)=some y:=hT;obtain ⟨h1,h2⟩:s.length < 4294967281∧fD c s=y:=by
   cases hd:decide (s.length < 4294967281) with
   |true=>rw [hd] at hT; exact ⟨of_decide_eq_true hd,adi hT⟩
   |false=>rw [hd] at hT; cases hT
  subst h2;refine fun G=>⟨hp,fun R w cs hr hl=>callsIn_wide.2 ?_⟩
  have yf:dV R w gm 0 [.int .i64 m]:=(hr.cr gm _ hg).1;have hm:w.cell? ⟨gm,0,none⟩=some (.int .i64 m):=by
   cases yf with
   |cons a1 _ _ a4 _=>cases a4; exact a1
  have Za:=hr.wf;cases hl with
  |cons a1 hl=>
  cases hl with
  |cons a2 hl=>
  cases hl;cases a1; cases a2;refine (h ⟨⟨s⟩⟩ c w (by show s.length < _; exact h1) hm).mono ?_;rintro e w' ⟨rfl,n,rfl⟩;have hb:Below w.heap.size w (w.drewN n):=⟨rfl,rfl,rfl,aa6 _,fun _ _=>rfl⟩;refine ⟨_,G,R,⟨rfl,rfl⟩,?_,Below.J3 hb hr hE,Below.Bw hb Za⟩;have e4:acT (⟨⟨s⟩⟩:ByteArray).data.toList [c]=fD c s:=UO c s;rw [e4];exact Rel.bq (.cons (.str _) (.cons (.str _) (.cons (.bool _) .nil)))
theorem EG {R:ak} {w:World} {b:Nat}:∀ {zs:List Int} {k:IntKind} {o:Nat},dV R w b o (zs.map fun z=>AV.int k z)→∀ (j:Nat) z,zs[j]?=some z→w.cell? ⟨b,o+j,none⟩=some (.int k z)
 |[],_,_,_,j,z,h=>by simp at h
 |a :: zs,k,o,.cons h1 h2 h3 h4 t,0,z,h=>by
  cases h4;simp only [List.getElem?_cons_zero,Option.some.injEq] at h;subst h;exact h1
 |a :: zs,k,o,.cons h1 h2 h3 h4 t,j+1,z,h=>by
  have:=EG t j z (by simpa using h);rwa [show o+(j+1)=o+1+j by omega]
theorem jV.xe {nm:String} {gt:Nat} {k:IntKind} {zs:List Int} (hn:E.P.globalNamed nm=some gt) (hx:E.gx gt=true) (h0:1≤zs.length) (h:jV E R w gt (zs.map fun z=>AV.int k z)):Lib.TabIs E.P w nm k zs:=by
 obtain ⟨h1,h2⟩:=h;obtain ⟨_,h2⟩:=h2 hx;rw [aah] at h2;have hg:=EG h1;unfold Lib.TabIs World.var?;rw [hn];have YU:=hg 0 zs[0] (by simp [aad h0]);cases hb:w.heap[gt]? with
 |none=>simp [acV,hb] at YU
 |some ob=>
  cases ob with
  |cells cs t fr=>
   have hc:∀ j,w.cell? ⟨gt,j,none⟩=cs[j]?:=fun j=>by simp [acV,hb]
   have e:cs=(zs.map fun z=>aaZ k z).toArray:=by
    apply Array.ext';rw [List.toList_toArray];apply abT;intro j;rw [aae,abU];rcases Nat.lt_or_ge j zs.length with hj|hj
    ·have:=hg j zs[j] (by simp [aad hj]);rw [aa2,hc] at this;rw [this,aad hj]; rfl
    ·have hz:zs[j]?=none:=aa3 hj;rw [hz,Option.map_none];rw [hc] at h2;have hs:cs.size≤zs.length:=by simpa using h2
     exact acW (by omega)
   show (match w.heap[gt]? with | some (.cells cs _ _)=>some cs | _=>none)=_;rw [hb,e]
  |_=>simp [acV,hb] at YU
theorem Nk {g gt:FuncId} {nm:String} (hp:Plain E.P g) (hg:E.cr gt=some (Lib.pow10Tab.map fun z=>AV.int .u64 z)) (hx:E.gx gt=true) (hn:E.P.globalNamed nm=some gt) (hE:E.lo=0)
  (h:∀ (n:Int) (w:World),-9223372036854775808≤n→n≤9223372036854775807→Lib.TabIs E.P w nm .u64 Lib.pow10Tab→Calls E.P g #[.int .i64 n] w fun e w'=>
   e=.returned (.string ⟨(Lib.itoa n).toArray⟩)∧∃ k os,w'=aa7 (w.drewN k) os):ai E g G7:=fun x y hT=>by
 obtain ⟨n,rfl⟩:∃ n:Int,(show G7.ps.T from n)=x:=⟨x,rfl⟩;have hT:(bif decide (-9223372036854775808≤n)&&decide (n≤9223372036854775807) then some (Lib.itoa n) else none)=some y:=hT;obtain ⟨h1,h2⟩:=Ey.cond_some' hT;subst h2;rw [aa0] at h1;have a:=of_decide_eq_true h1.1;have b:=of_decide_eq_true h1.2;refine fun G=>⟨hp,fun R w cs hr hl=>callsIn_wide.2 ?_⟩
 have CL:=(hr.cr gt _ hg).xe hn hx (by rw [Lib.pow10Tab_length]; decide);have Za:=hr.wf;cases hl with
 |cons a1 hl=>
 cases hl;cases a1;refine (h n w a b CL).mono ?_;rintro e w' ⟨rfl,k,os,rfl⟩;have hb:Below w.heap.size w (aa7 (w.drewN k) os):=⟨rfl,rfl,rfl,by simp [aa7,World.drewN],fun i hi=>by
  show (w.heap++os)[i]?=_;rw [aai hi]⟩
 exact ⟨_,G,R,⟨rfl,rfl⟩,Rel.str _,Below.J3 hb hr hE,Below.Bw hb Za⟩
end
end Go.Am
namespace Go.Am
open Go
section
variable {κ ν:Type} [DecidableEq κ]
def getM (k:κ):List (κ × ν)→Option ν
 |[]=>none
 |(k',v) :: m=>if k=k' then some v else getM k m
def sw (k:κ) (v:ν):List (κ × ν)→List (κ × ν)
 |[]=>[(k,v)]
 |(k',v') :: m=>if k=k' then (k,v) :: m else (k',v') :: sw k v m
theorem EO (k k':κ) (v:ν):∀ m:List (κ × ν),getM k' (sw k v m)=if k'=k then some v else getM k' m
 |[]=>rfl
 |(k1,v1) :: m=>by
  unfold sw;by_cases h:k=k1
  ·subst h;rw [if_pos rfl];by_cases h2:k'=k
   ·simp [getM,h2]
   ·simp [getM,h2]
  ·rw [if_neg h];by_cases h2:k'=k1
   ·subst h2;have h3:¬ k'=k:=fun e=>h e.symm
    simp [getM,h3]
   ·simp only [getM,if_neg h2];exact EO k k' v m
theorem EP {k:κ} {v:ν}:∀ {m:List (κ × ν)},getM k m=none→sw k v m=m++[(k,v)]
 |[],_=>rfl
 |(k1,v1) :: m,h=>by
  unfold getM at h;split at h
  ·cases h
  ·rename_i cS;unfold sw;rw [if_neg cS,EP h];rfl
theorem By (k:κ) (l:List κ):getM k (l.map fun x=>(x,true))=if k∈l then some true else none:=by
 induction l with
 |nil=>rfl
 |cons a l ih=>
  simp only [aac,getM,ih,aa4];by_cases h:k=a
  ·simp [h]
  ·simp [h]
structure il (ek:EK) (nk:κ→AV) (nv:ν→AV) (nM:κ × ν→AV):Prop where
 key:∀ a b,Fs ek (nk a) (nk b)=some (decide (a=b))
 pair:∀ x,nM x=.agg [nk x.1,nv x.2]
 exact:∀ x,(nM x).exact=true
variable {ek:EK} {nk:κ→AV} {nv:ν→AV} {nM:κ × ν→AV} (h:il ek nk nv nM)
include h
theorem il.ent:∀ m:List (κ × ν),aK (aaF nM m)=m.map fun x=>(nk x.1,nv x.2)
 |[]=>rfl
 |x :: m=>by
  rw [aac,h.pair,aK,il.ent m];rfl
theorem il.keys (k:κ):∀ m:List (κ × ν),gz ek (nk k) (aK (aaF nM m))=true
 |[]=>rfl
 |x :: m=>by
  have:=il.keys k m;rw [aac,h.pair,aK];show ((Fs ek (nk k) (nk x.1)).isSome&&gz ek (nk k) (aK (aaF nM m)))=true;rw [this,h.key];rfl
theorem il.get (k:κ):∀ m:List (κ × ν),kB ek (nk k) (aK (aaF nM m))=(getM k m).map nv
 |[]=>rfl
 |x :: m=>by
  have ih:=il.get k m;rw [aac,h.pair,aK];show (bif xB ek (nk k) (nk x.1) then some (nv x.2) else kB ek (nk k) (aK (aaF nM m)))=(if k=x.1 then some x.2 else getM k m).map nv;unfold xB;rw [h.key,ih];by_cases e:k=x.1
  ·simp [e]
  ·simp [e]
theorem il.getD (k:κ) (z:ν) (m:List (κ × ν)):eP ek (nk k) (nv z) (aK (aaF nM m))=nv ((getM k m).getD z):=by
 unfold eP;rw [h.get];cases getM k m <;> rfl
theorem il.put (k:κ) (v:ν):∀ m:List (κ × ν),gH ek (nk k) (nv v) (aK (aaF nM m))=aK (aaF nM (sw k v m))
 |[]=>by
  show [(nk k,nv v)]=aK [nM (k,v)];rw [h.pair];rfl
 |x :: m=>by
  have ih:=il.put k v m;rw [aac,h.pair,aK];show (bif xB ek (nk k) (nk x.1) then (nk k,nv v) :: aK (aaF nM m) else (nk x.1,nv x.2) :: gH ek (nk k) (nv v) (aK (aaF nM m)))=aK (aaF nM (if k=x.1 then (k,v) :: m else (x.1,x.2) :: sw k v m));unfold xB;rw [h.key,ih];by_cases e:k=x.1
  ·simp only [e,decide_true,cond_true,if_true,aac];rw [h.pair (x.1,v),aK];rfl
  ·simp only [e,decide_false,cond_false,if_false,aac];rw [h.pair (x.1,x.2),aK];rfl
theorem il.cells:∀ m:List (κ × ν),ab (aK (aaF nM m))=aaF nM m
 |[]=>rfl
 |x :: m=>by
  have ih:=il.cells m;rw [aac,h.pair,aK];show AV.agg [nk x.1,nv x.2] :: ab (aK (aaF nM m))=_;rw [ih]
theorem il.bg (m:List (κ × ν)):Go.Am.bg (aK (aaF nM m))=true:=by
 unfold Go.Am.bg;rw [h.cells]
 induction m with
 |nil=>rfl
 |cons x m ih=>rw [aac,fW,ih,h.exact]; rfl
end
theorem Sa (a b:Int × Int):Fs (.st (.cons 0 1 false .int (.cons 1 1 false .int .nil))) (.agg [.int .i64 a.1,.int .i64 a.2]) (.agg [.int .i64 b.1,.int .i64 b.2])=some (decide (a=b)):=by
 obtain ⟨a1,a2⟩:=a;obtain ⟨b1,b2⟩:=b;have e:lA (.st (.cons 0 1 false .int (.cons 1 1 false .int .nil))) (.agg [.int .i64 a1,.int .i64 a2]) (.agg [.int .i64 b1,.int .i64 b2])=some ((a1 == b1)&&((a2 == b2)&&true)):=rfl;unfold Fs;rw [e];by_cases h1:a1=b1 <;> by_cases h2:a2=b2
 ·subst h1; subst h2;simp [EK.wide,lJ,mJ,ph]
 all_goals simp [h1,h2]
end Go.Am
namespace Go.Am
open Go
theorem zy (ek:EK) (k v x:AV):∀ es:List (AV × AV),jT (gH ek k v es) (iG ek k es) x=gH ek k x es
 |[]=>rfl
 |(k',v') :: l=>by
  unfold gH iG;cases h:xB ek k k' with
  |true=>rfl
  |false=>
   simp only [cond_false,jT];rw [zy ek k v x l]
theorem Nt (ek:EK) (k v:AV):∀ es:List (AV × AV),iG ek k es < (gH ek k v es).length
 |[]=>Nat.zero_lt_one
 |(k',v') :: l=>by
  unfold gH iG;cases h:xB ek k k' with
  |true=>exact Nat.zero_lt_succ _
  |false=>
   simp only [cond_false,abX];have:=Nt ek k v l;omega
theorem Ha {V X:Type} (rd:(V→Option X)→V→Option X) (n:Nat) (v:V):nf rd (n+1) v=rd (nf rd n) v:=rfl
def J9 (L:List Nat):List Int:=L.map fun n:Nat=>(n:Int)
theorem Nu {α:Type} (f:α→AV × AV) (m:List α) {i:Nat} (h:i < m.length):ee (m.map f) i=f m[i]:=by
 unfold ee;rw [bi,abU,aad h];rfl
end Go.Am
namespace Go.Am
open Go Go.RowKit Go.Proofs Go.Shelf Go.Sort
def EV:AV→Value
 |.bool b=>.bool b
 |.int k n=>.int k n
 |.str l=>.string ⟨⟨l⟩⟩
 |_=>.bool false
theorem NY {R:ak} {w:World} {a:AV} {c:Value} (ha:gf a=true) (h:Rel R w a c):c=EV a:=by
 cases a <;> first | (cases ha; done) | (cases h; rfl)
theorem NZ {R:ak} {w:World} {a:AV} (ha:gf a=true):Rel R w a (EV a):=by
 cases a <;> first | (cases ha; done) | constructor
theorem uR {R:ak} {w:World}:∀ {l:List AV} {vs:List Value},(∀ a∈l,gf a=true)→aN R w l vs→vs=l.map EV
 |[],_,_,h=>by cases h; rfl
 |a :: l,_,hs,.cons h t=>by
  rw [NY (hs a (by simp)) h,uR (fun b hb=>hs b (by simp [hb])) t];rfl
theorem qU {R:ak} {w:World}:∀ {l:List AV},(∀ a∈l,gf a=true)→aN R w l (l.map EV)
 |[],_=>.nil
 |a :: l,hs=>.cons (NZ (hs a (by simp))) (qU fun b hb=>hs b (by simp [hb]))
theorem zD {a:AV} (ha:gf a=true):(EV a).oneCell'=true:=by
 cases a <;> first | (cases ha; done) | rfl
structure qV (P:Program) (cr:Nat→Option (List AV)) (c:FuncId) (p:aP) (k:Nat) (cf:p.T→p.T→Int):Prop where
 flat:p.flat=true
 size:∀ x,(p.enc x).cells.length=k
 Hj:∀ x,∀ a∈(p.enc x).cells,gf a=true
 agg:∀ x,∃ cs,p.enc x=.agg cs
 calls:∀ (E:Env),E.P=P→E.cr=cr→E.gx=(fun _=>false)→∀ x y,aU E c [p.enc x,p.enc y] (fun r=>r=.int .i64 (cf x y))
 swo:SWO (ltOf cf)
 tot:∀ x y,(ltOf cf) x y=false→(ltOf cf) y x=false→x=y
def gB (p:aP) (cf:p.T→p.T→Int) (es:List AV):List AV:=(((es.map p.bJ).mergeSort fun x y=>!(ltOf cf) y x)).map p.enc
def zF (p:aP) (cf:p.T→p.T→Int) (sz:Nat) (el:TypeId) (c:FuncId):List AV→List GO→Option (Bool × AV × List GO)
 |[.eF id f off sz1 len,.fn c' [] []],G=>match nth G id with
  |some (.dZ es rq SM)=>if ab2 c c'&&ab2 off 0&&ab2 sz1 sz&&ab2 rq sz&&ab2 SM el then
    some (decide (f=es.length)&&decide (len=es.length)&&decide (es.length≤140737488355328)&&allFit p.fits es,.bq [],aI G id (.dZ (gB p cf es) sz el)) else none
  |_=>none
 |_,_=>none
theorem AH {W W':World} (h:Below W.heap.size W W') (hd:W.drawn≤W'.drawn):∃ q os,W'=aa7 (W.drewN q) os:=by
 refine ⟨W'.drawn - W.drawn,W'.heap.extract W.heap.size W'.heap.size,?_⟩;have hh:W'.heap=W.heap++W'.heap.extract W.heap.size W'.heap.size:=by
  apply ac5;intro i;by_cases hi:i < W.heap.size
  ·rw [aai hi];exact h.block i hi
  ·rw [Array.getElem?_append_right (by omega),Array.getElem?_extract];have hs:=h.size;by_cases hj:i < W'.heap.size
   ·rw [if_pos (by omega)];congr 1;omega
   ·rw [if_neg (by omega),acW (by omega)]
 obtain ⟨hp,tp,dr,os,out⟩:=W';have h1:=h.os;have h2:=h.tape;have h3:=h.output;simp only at hh h1 h2 h3 hd;unfold aa7 World.drewN;simp only;rw [← hh,h1,h2,h3];congr 1;omega
def gv (p:aP) (x:p.T):List Value:=((p.enc x).cells).map EV
theorem qh {α:Type} [Inhabited α] {enc:α→List Value} {k:Nat} (hk:∀ x,(enc x).length=k):∀ (l:List α) (t:Nat),t < l.length * k→(l.flatMap enc)[t]?=some ((enc l[t / k]!)[t % k]!)
 |[],t,h=>by simp at h
 |x :: l,t,h=>by
  have Dt:0 < k:=by
   rcases Nat.eq_zero_or_pos k with h0|h0
   ·rw [h0] at h; omega
   ·exact h0
  rw [acS];by_cases ht:t < k
  ·rw [List.getElem?_append_left (by rw [hk]; exact ht),Nat.div_eq_of_lt ht,Nat.mod_eq_of_lt ht];have hl:t < (enc x).length:=by rw [hk]; exact ht
   simp [hl]
  ·have ht:k≤t:=Nat.le_of_not_lt ht;rw [List.getElem?_append_right (by rw [hk]; exact ht),hk];have h':t - k < l.length * k:=by
    rw [abX,Nat.add_mul,Nat.one_mul] at h;omega
   rw [qh hk l (t - k) h'];have e1:t / k=(t - k) / k+1:=by
    rw [Nat.div_eq_sub_div Dt ht]
   have e2:t % k=(t - k) % k:=Nat.mod_eq_sub_mod ht;rw [e1,e2];simp
theorem BC {α:Type} [Inhabited α] {enc:α→List Value} {k:Nat} (hk:∀ x,(enc x).length=k) (d:Array α):(flatK enc k d).toList=d.toList.flatMap enc:=by
 have hl:(d.toList.flatMap enc).length=d.size * k:=by
  obtain ⟨l⟩:=d;show (l.flatMap enc).length=l.length * k
  induction l with
  |nil=>simp
  |cons x l ih=>rw [acS,List.length_append,hk,ih,abX,Nat.add_mul,Nat.one_mul,Nat.add_comm]
 apply abT;intro t;by_cases ht:t < d.size * k
 ·have h1:=qh hk d.toList t (by simpa using ht);rw [h1];have hs:t < (flatK enc k d).size:=by rw [size_flatK]; exact ht
  have h2:=get_flatK enc k d t ht;rw [getElem!_pos (flatK enc k d) t hs] at h2;have e:∀ i:Nat,d[i]! = d.toList[i]!:=fun i=>by rw [getElem!_def,getElem!_def,aae]
  rw [aae,aao hs,h2,e]
 ·rw [aa3 (by rw [aby,size_flatK]; omega),aa3 (by rw [hl]; omega)]
theorem sx (p:aP):∀ (xs:List p.T),(aq (xs.map p.enc)).map EV=xs.flatMap (gv p)
 |[]=>rfl
 |x :: xs=>by
  rw [aac,aq,List.map_append,sx p xs,acS];rfl
theorem oA {w:World} {b:Nat} {cur:Array Value} {el:TypeId} (h:w.heap[b]?=some (.cells cur el (0,0))) (f:Array Value→Array Value):mapBlock w b f=w.setRow b (f cur):=by
 unfold mapBlock World.setRow;congr 1;apply ac5;intro i;rw [acY,acY];by_cases e:b=i
 ·subst e;rw [if_pos rfl,if_pos rfl,h];rfl
 ·rw [if_neg e,if_neg e]
section
variable {E:Env} {ρ:Ren} {c:FuncId} {p:aP} {k:Nat} {cf:p.T→p.T→Int} [Inhabited p.T]
theorem zG (hC:qV E.P E.cr c p k cf) (x:p.T):(gv p x).length=k:=by
 unfold gv;rw [aah,hC.size]
theorem N0 (P8:E.gx=fun _=>false) (hC:qV E.P E.cr c p k cf) {R:ak} {w:World} {G:List GO} (hg:dC E R w G) {b:Nat} {cur:Array Value} {el:TypeId} (hb:w.heap[b]?=some (.cells cur el (0,0))) (hI:∀ o,¬ R.I b o) (size:Nat) :
  CmpLays E.P c #[] (gv p) k cf b 0 size w:=by
 intro m os dk _ x y;have e1:putRowK (gv p) k (aab w m) b 0 dk=(aab w m).setRow b (putCells id 0 (flatK (gv p) k dk) cur):=oA (w:=aab w m) hb _;have hW:sortWorldK (gv p) k w b 0 m dk os=aa7 ((aab w m).setRow b (putCells id 0 (flatK (gv p) k dk) cur)) os:=by
  unfold sortWorldK;rw [e1]
 rw [hW];generalize putCells id 0 (flatK (gv p) k dk) cur=cur2;have eA:Ext R w R (aab w m):=⟨fun _ _ h=>h,fun _ _ _=>rfl,fun _ ro h=>⟨ro,h,cJ.refl ro⟩,.old fun _ _=>rfl⟩;have eS:Ext R (aab w m) R ((aab w m).setRow b cur2):=jd hI cur2;have EW:Below ((aab w m).setRow b cur2).heap.size ((aab w m).setRow b cur2) (aa7 ((aab w m).setRow b cur2) os):=by
  refine ⟨rfl,rfl,rfl,?_,fun i hi=>?_⟩
  ·show _≤(((aab w m).setRow b cur2).heap++os).size;rw [abV]; exact acU _ _
  ·show (((aab w m).setRow b cur2).heap++os)[i]?=_;rw [aai hi]
 have e7:((aab w m).setRow b cur2).heap.size=w.heap.size:=by unfold World.setRow; simp [aab]
 have eG:Ext R ((aab w m).setRow b cur2) R (aa7 ((aab w m).setRow b cur2) os):=Below.Wo EW fun b' o hi=>by rw [e7]; exact hg.wf b' o hi
 have eW:=(eA.trans eS).trans eG;generalize hWd:aa7 ((aab w m).setRow b cur2) os=W at *;have hWs:w.heap.size≤W.heap.size:=by rw [← e7]; exact EW.size
 let E':Env:={ E with lo:=W.drawn }
 let R0:ak:=⟨R.I,[]⟩
 have m0:Mv R R0 0:=⟨fun _ _ h=>h,fun _ _ h=>absurd h (Nat.not_lt_zero _)⟩;have Pf:dC E' R0 W []:=⟨rfl,fun id go ro h1 _=>by simp [nth] at h1,fun i j ri rj b h1=>by simp [R0,nth] at h1,fun b o h=>Nat.lt_of_lt_of_le (hg.wf b o h) hWs,
  fun g cs rW=>((hg.cr g cs rW).mono eW).move m0 (cF _ (E.pg g cs rW)),aa6 _⟩
 have eD:∀ z:p.T,Rel R0 W (p.enc z) (.agg (gv p z).toArray):=fun z=>by
  obtain ⟨cs,qF⟩:=hC.agg z;have hs:=hC.Hj z;unfold gv;rw [qF] at hs ⊢;refine Rel.agg (qU hs) fun v hv=>?_
  obtain ⟨a,ha,rfl⟩:=abx.1 hv;exact zD (hs a ha)
 have hc:=(hC.calls E' rfl rfl P8 x y []).2 R0 W [.agg (gv p x).toArray,.agg (gv p y).toArray] Pf (.cons (eD x) (.one (eD y)));refine (callsIn_wide.1 hc).mono fun e w' he=>?_
 cases e with
 |panicked c=>exact he.elim
 |outgrown=>exact he.elim
 |returned cv=>
  obtain ⟨r,G',R1,⟨rfl,rfl⟩,hr,PZ,st⟩:=he;have Ft:cv=.int .i64 (cf x y):=by cases hr; rfl
  subst Ft;have jA:∀ b,¬ Own R0 (fun _=>0) fk b:=fun b ho=>by
   obtain ⟨id,ro,h1,_⟩:=eU ho;simp [R0,nth] at h1
  refine ⟨rfl,AH ⟨st.os,st.tape,st.output,st.size,fun i hi=>st.aY i hi (jA i)⟩ PZ.lo⟩
theorem EX {p:aP} (hp:p.flat=true):∀ es:List AV,allFit p.fits es=true→es=(es.map p.bJ).map p.enc
 |[],_=>rfl
 |a :: es,h=>by
  simp only [allFit,aa0] at h;rw [aac,aac,← EX hp es h.2,aP.jG hp h.1]
theorem zH (L:SlLaysF0.n6 E.P ρ) (hp:Plain E.P (ρ.f 6)) (hc:Plain E.P c) (aE:∀ w,(isAgg (ρ.t 24)).run E.P w=.ok true w) (zE:∀ w,(Go.sizeOf (ρ.t 24)).run E.P w=.ok k w) (hC:qV E.P E.cr c p k cf) (hE:E.lo=0) (Dt:1≤k) {el:TypeId} (P8:E.gx=fun _=>false:=by rfl) :
  ∀ (args:List AV) (G:List GO) (r:AV) (G':List GO),zF p cf k el c args G=some (true,r,G')→cG E (ρ.f 6) args G (fun r' Br=>r'=r∧Br=G'):=by
 intro args G r G' h;unfold zF at h;split at h
 ·rename_i G1 oid f off sz1 len c';split at h
  ·rename_i es rq SM hid;split at h
   ·rename_i cT;simp only [aa0] at cT;obtain ⟨⟨⟨⟨q1,q2⟩,q3⟩,q4⟩,q5⟩:=cT;have q1:=aaf q1;have q2:=aaf q2;have q3:=aaf q3;have q4:=aaf q4;have q5:=aaf q5;subst q1; subst q2; subst q3; subst q4; subst q5;injection h with h;injection h with h1 h;injection h with h2 h3;subst h2; subst h3;simp only [aa0,decide_eq_true_eq] at h1;obtain ⟨⟨⟨hf,tO⟩,hbig⟩,wB⟩:=h1;refine ⟨hp,fun R w cs hg hl=>callsIn_wide.2 ?_⟩;cases hl with
    | @cons _ cv _ _ r1 hl=>
    cases hl with
    | @cons _ fv _ _ r2 hl=>
    cases hl;cases r2 with
    |fn x1 x2=>
    cases x1; cases x2;by_cases he:es=[]
    ·subst he;obtain ⟨pa,cap,rfl⟩:∃ pa cap,cv=.slice pa 0 cap:=by
      have tO:len=0:=tO;subst tO;cases r1 with
      |iY _ _=>exact ⟨_,_,rfl⟩
      |eF _ _ _=>exact ⟨_,_,rfl⟩
     refine (AnyF.slices_SortFunc_none (P:=E.P) (ρ:=ρ) L pa cap _ w).mono fun e w' ⟨e1,e2⟩=>?_
     subst e1; subst e2;have N1:gB p cf []=[]:=by simp [gB]
     have hG:aI G oid (.dZ (gB p cf []) rq SM)=G:=by rw [N1]; exact jw hid
     rw [hG];exact ⟨.bq [],G,R,⟨rfl,rfl⟩,Rel.bq .nil,hg,Step.refl _ _ _ _⟩
    ·have nW:0 < es.length:=ac3.2 he;cases r1 with
     |iY _ _=>omega
     | @eF _ _ _ _ _ cap b o' ro b9 eN ib=>
     subst hf; subst tO;obtain ⟨b',c',cur,vs,rfl,g1,g2,g3,g4,g5,g6,g7,g8,g9⟩:=lP hg hid b9 (fun k=>by subst k; exact eN);obtain ⟨rfl,HY,tY⟩:=eN.2 rfl;have pd:o'=0:=by
      rcases tY with tY|tY
      ·rw [tY,ac6]
      ·omega
     subst pd
     -- the elements by their leaves
     have wv:=EX hC.flat es wB;generalize PH:es.map p.bJ=xs at wv;have hlen:xs.length=es.length:=by rw [← PH,aah]
     have Vl:∀ (ys:List p.T),∀ a∈aq (ys.map p.enc),gf a=true:=fun ys=>by
      induction ys with
      |nil=>intro a ha; simp [aq] at ha
      |cons y ys ih=>
       intro a ha;rw [aac,aq] at ha;rcases aa8.1 ha with ha|ha
       ·exact hC.Hj y a ha
       ·exact ih a ha
     have V7:vs=xs.flatMap (gv p):=by
      rw [wv] at g7;rw [uR (Vl xs) g7,sx]
     have hd:(xs.toArray).size=es.length:=by simpa using hlen
     have abJ:(flatK (gv p) rq xs.toArray).toList=vs:=by rw [BC (zG hC),V7]
     have Z0:(flatK (gv p) rq xs.toArray).size=es.length * rq:=by rw [size_flatK,hd]
     have jo:cur.toList.length=c' * rq:=by rw [show cur.toList.length=cur.size from aby,g5]
     have hle:es.length * rq≤c' * rq:=Nat.mul_le_mul_right _ g3;have hH:HoldsK (gv p) rq w b 0 xs.toArray:=by
      intro j hj;rw [Z0] at hj;refine ⟨?_,?_⟩
      ·have hj2:j < (flatK (gv p) rq xs.toArray).size:=by rw [Z0]; exact hj
       rw [getElem!_pos (flatK (gv p) rq xs.toArray) j hj2,aa2,cell_of_row w b j cur SM (0,0) g2];have h1:cur[j]?=vs[j]?:=by
        rw [← g9,abI,if_pos hj,← aae]
       rw [h1,← abJ,aae,aao hj2];rfl
      ·unfold World.frozen?;rw [g2];simp
     have hCL:=N0 P8 hC hg g2 g6 xs.toArray.size;have key:=AnyQ.slices_SortFunc_total L rq aE zE (gv p) (zG hC) (fun x v hv=>by
      obtain ⟨a,ha,rfl⟩:=abx.1 hv;exact zD (hC.Hj x a ha)) cf hC.swo c #[] b 0 cap xs.toArray w (n5 hc) hCL hH (bl g2) (by rw [hd]; omega) hC.tot
     rw [hd] at key;refine key.mono fun e w' ⟨e1,n,os,e2⟩=>?_
     subst e1
     -- the world behind
     have e3:putRowK (gv p) rq (aab w n) b 0 (xs.mergeSort fun x y=>!(ltOf cf) y x).toArray=(aab w n).setRow b (putCells (fun v=>v) 0 (flatK (gv p) rq (xs.mergeSort fun x y=>!(ltOf cf) y x).toArray) cur):=oA (w:=aab w n) g2 _;have e4:w'=aa7 ((aab w n).setRow b (putCells (fun v=>v) 0 (flatK (gv p) rq (xs.mergeSort fun x y=>!(ltOf cf) y x).toArray) cur)) os:=by
      rw [e2];unfold sortWorldK;rw [e3]
     clear e2 e3 key;generalize PI:(xs.mergeSort fun x y=>!(ltOf cf) y x)=ys at e4;have Y5:ys.length=es.length:=by rw [← PI,ace,hlen]
     have hso:gB p cf es=ys.map p.enc:=by unfold gB; rw [PH,PI]
     rw [hso];have hfy:(flatK (gv p) rq ys.toArray).toList=ys.flatMap (gv p):=by rw [BC (zG hC)]
     have abK:(flatK (gv p) rq ys.toArray).size=es.length * rq:=by rw [size_flatK]; simp [Y5]
     have Hk:(putCells (fun v=>v) 0 (flatK (gv p) rq ys.toArray) cur).size=cur.size:=by simp [putCells]
     have Fx:(putCells (fun v=>v) 0 (flatK (gv p) rq ys.toArray) cur).toList.take (es.length * rq)=ys.flatMap (gv p):=by
      rw [← hfy];apply abT;intro t;rw [abI];by_cases ht:t < es.length * rq
      ·have h1:t < (flatK (gv p) rq ys.toArray).size:=by rw [abK]; exact ht
       have h2:t < cur.size:=by rw [g5]; omega
       rw [if_pos ht,aae,aae,aao h1,aao (by rw [Hk]; exact h2)];simp only [putCells,ac1,acX,aa2,h1,and_self,if_true,ac7];rw [getElem!_pos (flatK (gv p) rq ys.toArray) t h1]
      ·rw [if_neg ht,aa3 (by rw [aby,abK]; omega)]
     generalize putCells (fun v=>v) 0 (flatK (gv p) rq ys.toArray) cur=cur2 at e4 Hk Fx;have Gs:∀ v∈ys.flatMap (gv p),v.oneCell'=true:=fun v hv=>by
      obtain ⟨y,_,hy⟩:=List.mem_flatMap.1 hv;obtain ⟨a,ha,rfl⟩:=abx.1 hy;exact zD (hC.Hj y a ha)
     have qD:dM rq (ys.map p.enc):=fun a ha=>by
      obtain ⟨y,_,rfl⟩:=abx.1 ha;refine ⟨hC.size y,?_⟩;obtain ⟨cs,qF⟩:=hC.agg y;rw [qF]; rfl
     have eD:aN R w (aq (ys.map p.enc)) (ys.flatMap (gv p)):=by
      rw [← sx];exact qU (Vl ys)
     have cX:bt E R w (fun _=>0) ⟨[],[],G,[],none,0⟩ (⟨#[],[]⟩:Act):=
      ⟨hg,⟨fun k cs h=>by simp [dA] at h,fun k k' cs cs' h=>by simp [dA] at h⟩,fun i hi=>absurd rfl hi,rfl,trivial⟩
     obtain ⟨k1,k2⟩:=cX.Ce (es':=ys.map p.enc) hid b9 g2 (by rw [aah,Y5]) qD Hk eD Gs Fx;have EW:Below (w.setRow b cur2).heap.size (w.setRow b cur2) w':=by
      rw [e4];refine ⟨rfl,rfl,rfl,?_,fun i hi=>?_⟩
      ·show _≤((w.setRow b cur2).heap++os).size;rw [abV]; exact acU _ _
      ·show ((w.setRow b cur2).heap++os)[i]?=_;rw [aai hi]
     exact ⟨.bq [],_,R,⟨rfl,rfl⟩,Rel.bq .nil,Below.J3 EW k1.g hE,k2.trans (Below.Bw EW k1.g.wf)⟩
   ·cases h
  ·cases h
 ·cases h
end
end Go.Am
namespace Go.Am
open Go Go.RowKit Go.Proofs Go.Shelf Go.Sort
def isInt:AV→Bool
 |.int .i64 _=>true
 |_=>false
def CV:AV→Int
 |.int _ n=>n
 |_=>0
def k9 (n:Int):AV:=.int .i64 n
def BF (es:List AV):List AV:=((es.map CV).mergeSort fun x y=>decide (x≤y)).map k9
def CW:List AV→Bool
 |[]=>true
 |a :: l=>isInt a&&CW l
def Hp (el:TypeId):List AV→List GO→Option (Bool × AV × List GO)
 |[.eF id f off sz1 len],G=>match nth G id with
  |some (.dZ es rq SM)=>if ab2 off 0&&ab2 sz1 1&&ab2 rq 1&&ab2 SM el then
    some (decide (f=es.length)&&decide (len=es.length)&&decide (es.length≤140737488355328)&&CW es,.bq [],aI G id (.dZ (BF es) 1 el)) else none
  |_=>none
 |_,_=>none
theorem zN:∀ es:List AV,CW es=true→es=(es.map CV).map k9
 |[],_=>rfl
 |a :: es,h=>by
  simp only [CW,aa0] at h;have ih:=zN es h.2;have ha:a=k9 (CV a):=by
   have:=h.1;unfold isInt at this;split at this
   ·rfl
   ·cases this
  rw [aac,aac,← ih,← ha]
theorem oB:∀ zs:List Int,aq (zs.map k9)=zs.map k9
 |[]=>rfl
 |z :: zs=>by
  show [k9 z]++aq (zs.map k9)=k9 z :: zs.map k9;rw [oB zs];rfl
theorem uS:∀ zs:List Int,(zs.map k9).map EV=zs.map (aaZ .i64)
 |[]=>rfl
 |z :: zs=>by rw [aac,aac,uS zs]; rfl
section
variable {E:Env} {ρ:Ren}
theorem N9 (L:Lays.n189 E.P ρ) (hp:Plain E.P (ρ.f 189)) (hE:E.lo=0) {el:TypeId} :
  ∀ (args:List AV) (G:List GO) (r:AV) (G':List GO),Hp el args G=some (true,r,G')→cG E (ρ.f 189) args G (fun r' Br=>r'=r∧Br=G'):=by
 intro args G r G' h;unfold Hp at h;split at h
 ·rename_i G1 oid f off sz1 len;split at h
  ·rename_i es rq SM hid;split at h
   ·rename_i cT;simp only [aa0] at cT;obtain ⟨⟨⟨q2,q3⟩,q4⟩,q5⟩:=cT;have q2:=aaf q2;have q3:=aaf q3;have q4:=aaf q4;have q5:=aaf q5;subst q2; subst q3; subst q4; subst q5;injection h with h;injection h with h1 h;injection h with h2 h3;subst h2; subst h3;simp only [aa0,decide_eq_true_eq] at h1;obtain ⟨⟨⟨hf,tO⟩,hbig⟩,wB⟩:=h1;refine ⟨hp,fun R w cs hg hl=>callsIn_wide.2 ?_⟩;cases hl with
    | @cons _ cv _ _ r1 hl=>
    cases hl;by_cases he:es=[]
    ·subst he;obtain ⟨pa,cap,rfl⟩:∃ pa cap,cv=.slice pa 0 cap:=by
      have tO:len=0:=tO;subst tO;cases r1 with
      |iY _ _=>exact ⟨_,_,rfl⟩
      |eF _ _ _=>exact ⟨_,_,rfl⟩
     refine (Any.slices_Sort_int_none (P:=E.P) (ρ:=ρ) L pa cap w).mono fun e w' ⟨e1,e2⟩=>?_
     subst e1; subst e2;have N1:BF []=[]:=by simp [BF]
     have hG:aI G oid (.dZ (BF []) 1 SM)=G:=by rw [N1]; exact jw hid
     rw [hG];exact ⟨.bq [],G,R,⟨rfl,rfl⟩,Rel.bq .nil,hg,Step.refl _ _ _ _⟩
    ·have nW:0 < es.length:=ac3.2 he;cases r1 with
     |iY _ _=>omega
     | @eF _ _ _ _ _ cap b o' ro b9 eN ib=>
     subst hf; subst tO;obtain ⟨b',c',cur,vs,rfl,g1,g2,g3,g4,g5,g6,g7,g8,g9⟩:=lP hg hid b9 (fun k=>by subst k; exact eN);obtain ⟨rfl,HY,tY⟩:=eN.2 rfl;have pd:o'=0:=by
      rcases tY with tY|tY
      ·rw [tY,ac6]
      ·omega
     subst pd
     -- the elements by their leaves
     have wv:=zN es wB;generalize PH:es.map CV=xs at wv;have hlen:xs.length=es.length:=by rw [← PH,aah]
     have Vl:∀ (ys:List Int),∀ a∈aq (ys.map k9),gf a=true:=fun ys a ha=>by
      rw [oB] at ha;obtain ⟨y,_,rfl⟩:=abx.1 ha;rfl
     have V7:vs=xs.map (aaZ .i64):=by
      rw [wv] at g7;rw [uR (Vl xs) g7,oB,uS]
     have hd:(xs.toArray).size=es.length:=by simpa using hlen
     have jo:cur.toList.length=c':=by rw [show cur.toList.length=cur.size from aby,g5,Nat.mul_one]
     have hH:Holds (aaZ .i64) w b 0 xs.toArray:=by
      intro j hj;rw [hd] at hj;refine ⟨?_,?_⟩
      ·have hj2:j < xs.length:=by omega
       have hj3:j < xs.toArray.size:=by rw [hd]; exact hj
       rw [getElem!_pos xs.toArray j hj3,aa2,cell_of_row w b j cur SM (0,0) g2];have h1:cur[j]?=vs[j]?:=by
        rw [← g9,abI,if_pos (by omega),← aae]
       rw [h1,V7,abU,aad hj2];rfl
      ·unfold World.frozen?;rw [g2];simp
     have key:=Any.slices_Sort_int L b 0 cap xs w hH (bl g2) (by omega);rw [hlen] at key;refine key.mono fun e w' ⟨e1,n,os,e2⟩=>?_
     subst e1
     -- the world behind
     have e3:putRow (aaZ .i64) (aab w n) b 0 (xs.mergeSort fun x y=>decide (x≤y)).toArray=(aab w n).setRow b (putCells (aaZ .i64) 0 (xs.mergeSort fun x y=>decide (x≤y)).toArray cur):=oA (w:=aab w n) g2 _;have e4:w'=aa7 ((aab w n).setRow b (putCells (aaZ .i64) 0 (xs.mergeSort fun x y=>decide (x≤y)).toArray cur)) os:=by
      rw [e2,e3]
     clear e2 e3 key;generalize PI:(xs.mergeSort fun x y=>decide (x≤y))=ys at e4;have Y5:ys.length=es.length:=by rw [← PI,ace,hlen]
     have hso:BF es=ys.map k9:=by unfold BF; rw [PH,PI]
     rw [hso];have Hk:(putCells (aaZ .i64) 0 ys.toArray cur).size=cur.size:=by simp [putCells]
     have Fx:(putCells (aaZ .i64) 0 ys.toArray cur).toList.take (es.length * 1)=ys.map (aaZ .i64):=by
      apply abT;intro t;rw [abI,Nat.mul_one];by_cases ht:t < es.length
      ·have h1:t < ys.length:=by omega
       have h2:t < cur.size:=by rw [g5]; omega
       have h3:t < ys.toArray.size:=by simpa using h1
       rw [if_pos ht,aae,aao (by rw [Hk]; exact h2),abU,aad h1];simp only [putCells,ac1,acX,aa2,h3,and_self,if_true,ac7];rw [getElem!_pos ys.toArray t h3];rfl
      ·rw [if_neg ht,aa3 (by rw [aah]; omega)]
     generalize putCells (aaZ .i64) 0 ys.toArray cur=cur2 at e4 Hk Fx;have Gs:∀ v∈ys.map (aaZ .i64),v.oneCell'=true:=fun v hv=>by
      obtain ⟨y,_,rfl⟩:=abx.1 hv;rfl
     have qD:dM 1 (ys.map k9):=fun a ha=>by
      obtain ⟨y,_,rfl⟩:=abx.1 ha;exact ⟨rfl,rfl⟩
     have eD:aN R w (aq (ys.map k9)) (ys.map (aaZ .i64)):=by
      rw [← uS];have:=qU (R:=R) (w:=w) (Vl ys);rw [oB] at this ⊢;exact this
     have cX:bt E R w (fun _=>0) ⟨[],[],G,[],none,0⟩ (⟨#[],[]⟩:Act):=
      ⟨hg,⟨fun k cs h=>by simp [dA] at h,fun k k' cs cs' h=>by simp [dA] at h⟩,fun i hi=>absurd rfl hi,rfl,trivial⟩
     obtain ⟨k1,k2⟩:=cX.Ce (es':=ys.map k9) hid b9 g2 (by rw [aah,Y5]) qD Hk eD Gs Fx;have EW:Below (w.setRow b cur2).heap.size (w.setRow b cur2) w':=by
      rw [e4];refine ⟨rfl,rfl,rfl,?_,fun i hi=>?_⟩
      ·show _≤((w.setRow b cur2).heap++os).size;rw [abV]; exact acU _ _
      ·show ((w.setRow b cur2).heap++os)[i]?=_;rw [aai hi]
     exact ⟨.bq [],_,R,⟨rfl,rfl⟩,Rel.bq .nil,Below.J3 EW k1.g hE,k2.trans (Below.Bw EW k1.g.wf)⟩
   ·cases h
  ·cases h
 ·cases h
end
end Go.Am
namespace Go.Am
open Go Go.RowKit Go.Proofs Go.Shelf Go.Lib
def Oa (sz pt:Nat) (el:TypeId):List AV→List GO→Option (Bool × AV × List GO)
 |[.list .nil _ [],.int .i64 n],G=>some (decide (0≤n∧n * (pt:Int)≤140737488355328∧n≤4611686018427387904),.eF G.length 0 0 sz 0,G++[.dZ [] sz el])
 |_,_=>none
section
variable {E:Env} {ρ:Ren}
theorem Ob (L:Lays8.n4 E.P ρ) (hp:Plain E.P (ρ.f 4)) (i0:TypeInfo) (z:Value) (hi0:E.P.info? (ρ.t 25)=some i0) (hz0:i0.zero=some z) (N1:0 < i0.size) (hzs:z.cells.size=i0.size) :
  ∀ (args:List AV) (G:List GO) (r:AV) (G':List GO),Oa i0.size i0.bytes (ρ.t 25) args G=some (true,r,G')→cG E (ρ.f 4) args G (fun r' Br=>r'=r∧Br=G'):=by
 intro args G r G' h;unfold Oa at h;split at h
 ·rename_i G1 sz0 n;injection h with h;injection h with h1 h;injection h with h2 h3;subst h2; subst h3;have h1:=of_decide_eq_true h1;obtain ⟨B6,VL,akK⟩:=h1;refine ⟨hp,fun R w cs hg hl=>callsIn_wide.2 ?_⟩;cases hl with
  | @cons _ cv _ _ r1 hl=>
  cases hl with
  | @cons _ nv _ _ r2 hl=>
  cases hl;cases r2;have Ft:∃ c0,cv=.slice none 0 c0∧c0=0:=by
   cases r1 with
   |kC=>exact ⟨_,rfl,rfl⟩
   |list _ _ _ hk=>exact hk.elim
  obtain ⟨c0,rfl,rfl⟩:=Ft;obtain ⟨m,rfl⟩:∃ m:Nat,n=(m:Int):=⟨n.toNat,by omega⟩;have cX:bt E R w (fun _=>0) ⟨[],[],G,[],none,0⟩ (⟨#[],[]⟩:Act):=
   ⟨hg,⟨fun k cs h=>by simp [dA] at h,fun k k' cs cs' h=>by simp [dA] at h⟩,fun i hi=>absurd rfl hi,rfl,trivial⟩
  by_cases hm:m=0
  ·subst hm;refine (Any8.slices_Grow_room (P:=E.P) (ρ:=ρ) L none 0 0 0 w (aa6 _) (by omega) (by omega) (by omega)).mono fun e w' ⟨e1,e2⟩=>?_
   have e2:=e2.symm;subst e1; subst e2;obtain ⟨k1,k2⟩:=cX.H7 (i0.size+65536) (ρ.t 25);have hn:nth (ig R).obj G.length=some .bU:=by rw [← hg.len]; exact eQ _ _
   have ev:VM G.length (i0.size+65536)=.eF G.length 0 0 i0.size 0:=by
    unfold VM;rw [acZ (Nat.le_add_left _ _),Nat.add_sub_cancel];rfl
   have eo:LA (i0.size+65536) (ρ.t 25)=.dZ [] i0.size (ρ.t 25):=by
    unfold LA;rw [acZ (Nat.le_add_left _ _),Nat.add_sub_cancel];rfl
   have hv:Rel (ig R) w (.eF G.length 0 0 i0.size 0) (.slice none 0 0):=by
    rw [← ev]; exact H6 hn
   have Oc:=k1.g;have eG:((⟨[],[],G,[],none,0⟩:St).dU (LA (i0.size+65536) (ρ.t 25))).G=G++[.dZ [] i0.size (ρ.t 25)]:=by
    show G++[LA (i0.size+65536) (ρ.t 25)]=_;rw [eo]
   rw [eG] at Oc;exact ⟨_,_,ig R,⟨rfl,rfl⟩,hv,Oc,k2⟩
  ·have Xw:(0+m) * i0.bytes≤140737488355328:=by
    rw [aa2];have:((m * i0.bytes:Nat):Int)≤140737488355328:=by rw [Int.natCast_mul]; exact VL
    omega
   have key:=Any8.slices_Grow_grow (P:=E.P) (ρ:=ρ) L i0 z hi0 hz0 N1 none 0 0 m [] w (aa6 _) (by omega) Xw (by omega) (by simp) (fun _=>rfl) (fun a h=>by cases h);refine key.mono fun e w' ⟨e1,e2⟩=>?_
   have lM:=grownCap_ge w (0+m) 0 (ρ.t 25);have ZU:=grownCap_le_maxLen w (0+m) 0 (ρ.t 25) (by unfold maxLen; omega);generalize grownCap w (0+m) 0 (ρ.t 25)=cap at *;subst e1; subst e2;obtain ⟨d1,d2⟩:=cX.drew;have e7:(([]:List Value).toArray++aag z.cells (0+m - 0)++aag z.cells (cap - (0+m))).size=cap * i0.size:=by
    simp only [abV,List.size_toArray,size_zeroCells,hzs,List.length_nil,aa2,ac7,← Nat.add_mul];congr 1;omega
   have r1:=d1.F2 (cur:=([]:List Value).toArray++aag z.cells (0+m - 0)++aag z.cells (cap - (0+m))) (vs:=[]) (es:=[]) (elem:=ρ.t 25) (sz:=i0.size) (cap:=cap) (acX _) ZU e7 (fun e he=>by cases he) .nil (fun v hv=>by cases hv) (by simp);have st:=d2.trans (c9 d1 (.cells (([]:List Value).toArray++aag z.cells (0+m - 0)++aag z.cells (cap - (0+m))) (ρ.t 25)) (.tok 0 w.drew.heap.size cap) (by exact fun _ h=>h));have hv:Rel (R.add (.tok 0 w.heap.size cap)) (w.drew.alloc (.cells (([]:List Value).toArray++aag z.cells (0+m - 0)++aag z.cells (cap - (0+m))) (ρ.t 25))) (.eF G.length 0 0 i0.size 0) (.slice (some ⟨w.heap.size,0,none⟩) 0 cap):=
    Rel.eF (gl cX _) ⟨aa6 _,fun _=>⟨rfl,aa2 _,.inl (ac6 _).symm⟩⟩ (acX _)
   exact ⟨_,_,_,⟨rfl,rfl⟩,hv,r1.g,st⟩
 ·cases h
end
end Go.Am
namespace Go.Am
open Go Go.Sort
section
variable {α:Type} [DecidableEq α] {lt:α→α→Bool}
def Pu (lt:α→α→Bool) (l:List α):Prop:=l.Pairwise fun x y=>lt x y=true
omit [DecidableEq α] in
theorem C1 (hw:SWO lt):∀ {a b:List α},Pu lt a→Pu lt b→(∀ x,x∈a↔x∈b)→a=b
 |[],[],_,_,_=>rfl
 |[],y :: b,_,_,h=>by have:=(h y).2 (by simp); simp at this
 |x :: a,[],_,_,h=>by have:=(h x).1 (by simp); simp at this
 |x :: a,y :: b,ha,hb,h=>by
  have ha':=acw.1 ha;have gJ:=acw.1 hb;have wg:x=y:=by
   have h1:=(h x).1 (by simp);have h2:=(h y).2 (by simp);rcases aa4.1 h1 with h1|h1
   ·exact h1
   ·rcases aa4.1 h2 with h2|h2
    ·exact h2.symm
    ·have l1:=gJ.1 x h1;have l2:=ha'.1 y h2;have:=hw.trans _ _ _ l1 l2;rw [hw.irrefl] at this;cases this
  subst wg;congr 1;refine C1 hw ha'.2 gJ.2 fun z=>?_
  constructor
  ·intro hz;rcases aa4.1 ((h z).1 (by simp [hz])) with rfl|h2
   ·have:=ha'.1 z hz;rw [hw.irrefl] at this;cases this
   ·exact h2
  ·intro hz;rcases aa4.1 ((h z).2 (by simp [hz])) with rfl|h2
   ·have:=gJ.1 z hz;rw [hw.irrefl] at this;cases this
   ·exact h2
def zX (d:α) (l:List α):Nat→List α
 |0=>[]
 |m+1=>if 0 < m∧l.getD m d=l.getD (m - 1) d then zX d l m else zX d l m++[l.getD m d]
theorem tU (d:α) (l:List α):∀ m,m≤l.length→(∀ k,0 < k→k < m→l.getD k d≠l.getD (k - 1) d)→zX d l m=l.take m
 |0,_,_=>by simp [zX]
 |m+1,hm,h=>by
  have e:l.getD m d=l[m]:=by simp [show m < l.length by omega]
  unfold zX;rw [if_neg (fun c=>h m c.1 (by omega) c.2),tU d l m (by omega) fun k h1 h2=>h k h1 (by omega),e,List.take_succ,aad (by omega)];rfl
theorem C2 (d:α) (l:List α):∀ m,m≤l.length→∀ x,x∈zX d l m↔x∈l.take m
 |0,_,x=>by simp [zX]
 |m+1,hm,x=>by
  have e:l.getD m d=l[m]:=by simp [show m < l.length by omega]
  have ih:=C2 d l m (by omega);have et:l.take (m+1)=l.take m++[l[m]]:=by rw [List.take_succ,aad (by omega)]; rfl
  unfold zX;rw [et];split
  ·rename_i hc;rw [ih,aa8,acz];constructor
   ·exact .inl
   ·rintro (h|rfl)
    ·exact h
    ·have e2:l.getD (m - 1) d=l[m - 1]:=by simp [show m - 1 < l.length by omega]
     rw [e,e2] at hc;rw [hc.2,abD];exact ⟨m - 1,by omega,rfl⟩
  ·rw [aa8,aa8,ih,e]
theorem IS (hw:SWO lt) (ht:∀ x y,lt x y=false→lt y x=false→x=y) (d:α) (l:List α) (hs:l.Pairwise fun x y=>lt y x=false):∀ m,m≤l.length→Pu lt (zX d l m)
 |0,_=>adb
 |m+1,hm=>by
  have ih:=IS hw ht d l hs m (by omega);have e:l.getD m d=l[m]:=by simp [show m < l.length by omega]
  unfold zX;split
  ·exact ih
  ·rename_i hc;refine ac2.2 ⟨ih,List.pairwise_singleton _ _,fun x hx y hy=>?_⟩;rw [acz] at hy;subst hy;have oW:=(C2 d l m (by omega) x).1 hx;obtain ⟨k,hk,rfl⟩:=abD.1 oW;have Oc:k < m:=by omega
   rw [e] at hc ⊢;have h1:lt l[m] l[k]=false:=aa5.1 hs k m (by omega) (by omega) Oc;cases hl:lt l[k] l[m] with
   |true=>rfl
   |false=>
    exfalso;have lN:=ht _ _ hl h1
    -- the one before is between
    have h0:0 < m:=by omega
    have e2:l.getD (m - 1) d=l[m - 1]:=by simp [show m - 1 < l.length by omega]
    rw [e2] at hc;apply hc;refine ⟨h0,?_⟩;have h2:lt l[m] l[m - 1]=false:=aa5.1 hs (m - 1) m (by omega) (by omega) (by omega);refine ht _ _ h2 ?_;by_cases hkm:k=m - 1
    ·subst hkm; exact hl
    ·have h3:lt l[m - 1] l[k]=false:=aa5.1 hs k (m - 1) (by omega) (by omega) (by omega);rw [← lN];exact h3
def rB (lt:α→α→Bool) (d:α) (k:α) (l:List α):List α:=
 let at_:=(l.takeWhile fun x=>lt x k).length
 if at_=l.length∨l.getD at_ d≠k then l.take at_++[k]++l.drop at_ else l
omit [DecidableEq α] in
theorem hJ (p:α→Bool):∀ l:List α,(∀ x∈l.take (l.takeWhile p).length,p x=true)∧∀ h:(l.takeWhile p).length < l.length,p l[(l.takeWhile p).length]=false
 |[]=>by simp
 |a :: l=>by
  obtain ⟨h1,h2⟩:=hJ p l;by_cases ha:p a=true
  ·simp only [ac4,ha,if_true,abX,List.take_succ_cons,aa4,forall_eq_or_imp,true_and,List.getElem_cons_succ];exact ⟨h1,fun h=>h2 (by omega)⟩
  ·simp only [ac4,if_neg ha,List.length_nil,List.take_zero];refine ⟨by simp,fun _=>?_⟩;rw [List.getElem_cons_zero];exact Bool.eq_false_iff.2 ha
theorem Ov (d:α) (k:α) (l:List α) (x:α):x∈rB lt d k l↔x=k∨x∈l:=by
 unfold rB;simp only;have hle:(l.takeWhile fun x=>lt x k).length≤l.length:=(abW _).length_le;generalize (l.takeWhile fun x=>lt x k).length=a at *;have e:x∈l↔x∈l.take a∨x∈l.drop a:=by rw [← aa8,List.take_append_drop]
 split
 ·simp only [aa8,acz];rw [e];constructor
  ·rintro ((h|h)|h)
   ·exact .inr (.inl h)
   ·exact .inl h
   ·exact .inr (.inr h)
  ·rintro (h|h|h)
   ·exact .inl (.inr h)
   ·exact .inl (.inl h)
   ·exact .inr h
 ·rename_i h;rw [not_or,Decidable.not_not] at h;constructor
  ·exact .inr
  ·rintro (rfl|h2)
   ·have hl:a < l.length:=by omega
    have e2:l.getD a d=l[a]:=by simp [hl]
    rw [e2] at h;rw [← h.2];exact List.getElem_mem hl
   ·exact h2
theorem Ow (hw:SWO lt) (ht:∀ x y,lt x y=false→lt y x=false→x=y) (d:α) (k:α) (l:List α) (hl:Pu lt l):Pu lt (rB lt d k l):=by
 unfold rB;simp only;obtain ⟨h1,h2⟩:=hJ (fun x=>lt x k) l;have hle:(l.takeWhile fun x=>lt x k).length≤l.length:=(abW _).length_le;generalize (l.takeWhile fun x=>lt x k).length=a at *;have hp:=aa5.1 hl;split
 ·rename_i hc;have Jk:∀ y∈l.drop a,lt k y=true:=by
   intro y hy;obtain ⟨j,hj,rfl⟩:=List.getElem_of_mem hy;rw [List.length_drop] at hj;rw [List.getElem_drop];have wF:a < l.length:=by omega
   have e2:l.getD a d=l[a]:=by simp [wF]
   have hka:lt k l[a]=true:=by
    cases hh:lt k l[a] with
    |true=>rfl
    |false=>
     have:=ht _ _ (h2 wF) hh;rcases hc with hc|hc
     ·omega
     ·rw [e2] at hc; exact absurd this hc
   by_cases h0:j=0
   ·subst h0; simpa using hka
   ·exact hw.trans _ _ _ hka (hp a (a+j) wF (by omega) (by omega))
  unfold Pu;rw [List.append_assoc,ac2];refine ⟨hl.take,?_,fun x hx y hy=>?_⟩
  ·rw [ac0,acw];exact ⟨Jk,hl.drop⟩
  ·rw [ac0] at hy;have hxk:=h1 x hx;rcases aa4.1 hy with rfl|hy
   ·exact hxk
   ·exact hw.trans _ _ _ hxk (Jk y hy)
 ·exact hl
def Hx (lt:α→α→Bool) (d:α) (l:List α):List α:=l.foldl (fun s k=>rB lt d k s) []
theorem BI (hw:SWO lt) (ht:∀ x y,lt x y=false→lt y x=false→x=y) (d:α) (l:List α):Pu lt (Hx lt d l)∧∀ x,x∈Hx lt d l↔x∈l:=by
 have gen:∀ (l s:List α),Pu lt s→Pu lt (l.foldl (fun s k=>rB lt d k s) s)∧∀ x,x∈l.foldl (fun s k=>rB lt d k s) s↔x∈s∨x∈l:=by
  intro l
  induction l with
  |nil=>intro s hs; exact ⟨hs,fun x=>by simp⟩
  |cons k l ih=>
   intro s hs;rw [List.foldl_cons];obtain ⟨h1,h2⟩:=ih _ (Ow hw ht d k s hs);refine ⟨h1,fun x=>?_⟩;rw [h2,Ov,aa4];constructor
   ·rintro ((h|h)|h)
    ·exact .inr (.inl h)
    ·exact .inl h
    ·exact .inr (.inr h)
   ·rintro (h|h|h)
    ·exact .inl (.inr h)
    ·exact .inl (.inl h)
    ·exact .inr h
 obtain ⟨h1,h2⟩:=gen l [] adb;exact ⟨h1,fun x=>by rw [show Hx lt d l=l.foldl (fun s k=>rB lt d k s) [] from rfl,h2]; simp⟩
theorem E1 (d:α) (k:α) (l:List α):(rB lt d k l).length≤l.length+1:=by
 unfold rB;simp only;split
 ·simp; omega
 ·omega
omit [DecidableEq α] in
theorem E2 (hw:SWO lt) (l:List α):(l.mergeSort fun x y=>!lt y x).Pairwise (fun x y=>lt y x=false)∧∀ x,x∈(l.mergeSort fun x y=>!lt y x)↔x∈l:=by
 refine ⟨?_,fun x=>(List.mergeSort_perm l _).mem_iff⟩;have h:=List.pairwise_mergeSort (le:=fun x y=>!lt y x) (fun a b c h1 h2=>by
  simp only [Bool.not_eq_true'] at h1 h2 ⊢;exact hw.ntrans _ _ _ h2 h1) (fun a b=>by
  simp only [Bool.or_eq_true,Bool.not_eq_true'];cases h1:lt b a with
  |false=>exact .inl rfl
  |true=>
   right;cases h2:lt a b with
   |false=>rfl
   |true=>
    have:=hw.trans _ _ _ h1 h2;rw [hw.irrefl] at this;cases this) l
 exact h.imp fun hab=>by simpa using hab
theorem Ys (hw:SWO lt) (ht:∀ x y,lt x y=false→lt y x=false→x=y) (d:α) (l:List α):zX d (l.mergeSort fun x y=>!lt y x) l.length=Hx lt d l:=by
 obtain ⟨s1,s2⟩:=E2 hw l;have hlen:(l.mergeSort fun x y=>!lt y x).length=l.length:=ace _;obtain ⟨i1,i2⟩:=BI hw ht d l;refine C1 hw (IS hw ht d _ s1 _ (ac9 hlen.symm)) i1 fun x=>?_
 rw [C2 d _ _ (ac9 hlen.symm),List.take_of_length_le (ac9 hlen),s2,i2]
end
theorem qY {V X S:Type} {rd:V→Option (V ⊕ X)} (m:Nat) (E:S→Nat→V) (P:S→Nat→Prop) (Q:X→Prop)
  (h:∀ s k,k < m→P s k→∃ s',rd (E s k)=some (.inl (E s' (k+1)))∧P s' (k+1))
  (h0:∀ s,P s m→∃ x,rd (E s m)=some (.inr x)∧Q x) :
  ∀ n s k,k≤m→m < n+k→P s k→∃ x,ay rd n (E s k)=some x∧Q x
 |0,s,k,hk,hn,_=>by omega
 |n+1,s,k,hk,hn,hP=>by
  rw [bE];by_cases cm:k < m
  ·obtain ⟨s',e,hP'⟩:=h s k cm hP;rw [e];exact qY m E P Q h h0 n s' (k+1) cm (by omega) hP'
  ·obtain rfl:k=m:=by omega
   obtain ⟨x,e,hQ⟩:=h0 s hP;rw [e];exact ⟨x,rfl,hQ⟩
theorem BJ {V X S:Type} {rd:V→Option (V ⊕ X)} (m:Nat) (E:S→Nat→V) (P:S→Nat→Prop) (Q:X→Prop)
  (h:∀ s k,k < m→P s k→(∃ s',rd (E s k)=some (.inl (E s' (k+1)))∧P s' (k+1))∨∃ x,rd (E s k)=some (.inr x)∧Q x)
  (h0:∀ s,P s m→∃ x,rd (E s m)=some (.inr x)∧Q x) :
  ∀ n s k,k≤m→m < n+k→P s k→∃ x,ay rd n (E s k)=some x∧Q x
 |0,s,k,hk,hn,_=>by omega
 |n+1,s,k,hk,hn,hP=>by
  rw [bE];by_cases cm:k < m
  ·rcases h s k cm hP with ⟨s',e,hP'⟩|⟨x,e,hQ⟩
   ·rw [e];exact BJ m E P Q h h0 n s' (k+1) cm (by omega) hP'
   ·rw [e];exact ⟨x,rfl,hQ⟩
  ·obtain rfl:k=m:=by omega
   obtain ⟨x,e,hQ⟩:=h0 s hP;rw [e];exact ⟨x,rfl,hQ⟩
theorem IT {α:Type} (l:List α) (p:α→Bool) (d:α):(match (List.range l.length).find? fun j=>!p (l.getD j d) with | some j=>(j:Int) | none=>(l.length:Int))=((l.takeWhile p).length:Int):=by
 obtain ⟨h1,h2⟩:=hJ p l;have hle:(l.takeWhile p).length≤l.length:=(abW _).length_le;generalize (l.takeWhile p).length=a at *;have ahn:∀ j,j < a→p (l.getD j d)=true:=fun j hj=>by
  have e:l.getD j d=l[j]:=by simp [show j < l.length by omega]
  rw [e];exact h1 _ (abD.2 ⟨j,by omega,rfl⟩)
 cases hf:(List.range l.length).find? fun j=>!p (l.getD j d) with
 |none=>
  rw [List.find?_eq_none] at hf;have:¬ a < l.length:=fun cm=>by
   have e:l.getD a d=l[a]:=by simp [cm]
   have:=hf a (List.mem_range.2 cm);rw [e,h2 cm] at this;simp at this
  show (l.length:Int)=(a:Int);omega
 |some j=>
  have hj:=List.mem_range.1 (List.mem_of_find?_eq_some hf);have hp:=List.find?_some hf;have hja:a≤j:=by
   by_cases hc:a≤j
   ·exact hc
   ·have:=ahn j (by omega);rw [this] at hp;simp at hp
  have Yt:=(List.find?_eq_some_iff_getElem.1 hf).2;obtain ⟨i,hi,hij,oX⟩:=Yt;rw [List.getElem_range] at hij;subst hij;show (i:Int)=(a:Int);by_cases hc:i=a
  ·rw [hc]
  ·have hai:a < i:=by omega
   have:=oX a hai;rw [List.getElem_range] at this;have e:l.getD a d=l[a]:=by simp [show a < l.length by omega]
   rw [e,h2 (by omega)] at this;simp at this
end Go.Am
