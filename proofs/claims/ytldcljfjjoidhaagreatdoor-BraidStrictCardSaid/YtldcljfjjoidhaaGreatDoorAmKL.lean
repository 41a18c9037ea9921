/- The abstract machine: strings.Split,strings.Cut and strconv.Itoa by their contracts. -/
import Derived.Test.YtldcljfjjoidhaaGreatDoorAmKK
import Derived.Lib.SplitLaws
import Derived.Lib.CutLaws
import Derived.Deep.Draws
import Derived.Lib.LaidTab
import Derived.Lib.ItoaNum
import Derived.Sort.Grow
import Derived.Shelf.SlSortCmp.NoneTotal
import Derived.Shelf.Sort.Plain
import Derived.Shelf.Slices.In.SortNone
import Derived.Shelf.Spec.SlicesGrow
set_option linter.all false
open Array renaming getElem?_toList→aax, getElem?_append_left→aaM, getElem?_eq_getElem→aaR, length_toList→abN, size_append→abU, getElem?_eq_none→ab6, getElem?_modify→ab8, getElem_mapIdx→acb, ext_getElem?→acg
open Bool renaming and_eq_true→aa3
open Go.Builtin renaming zeroCells→aaC
open Go.Lib renaming index→aa4, splitK→abQ, countB→abR, cut→ab3
open Go.Sort renaming ahead→aaa, grow→abu
open Go.Value renaming string→aaX, int→aaZ
open Go.World renaming cell?→ab5
open List renaming map_cons→aab, getElem?_eq_getElem→aac, length_map→aaH, map→aaY, getElem?_eq_none→aa6, mem_cons→aa9, pairwise_iff_getElem→aba, mem_append→abJ, mem_map→abK, mem_take_iff_getElem→abO, getElem?_take→abP, ext_getElem?→abS, getElem?_map→abT, takeWhile_sublist→abV, length_cons→abW, count_cons_of_ne→abX, length_mergeSort→abZ, pairwise_cons→ab0, mem_singleton→ab1, flatMap_cons→ab2, singleton_append→aca, pairwise_append→acd, length_pos_iff→ace, takeWhile_cons→acf
open List.Pairwise renaming nil→acn
open Nat renaming eq_of_beq_eq_true→aaB, zero_add→aa5, le_refl→abq, beq→abY, le_add_right→ab4, zero_le→ab7, ble_eq_true_of_le→ab9, zero_mul→ach, sub_zero→aci, le_of_eq→ack
open Option.some renaming inj→acs
namespace Go.Am
open Go Go.RowKit
def bu (c:UInt8):List UInt8→List (List UInt8)
 |[]=>[[]]
 |b :: s=>if b=c then [] :: bu c s else match bu c s with
  |[]=>[[b]]
  |x :: xs=>(b :: x) :: xs
def fG (c:UInt8):List UInt8→List UInt8 × List UInt8 × Bool
 |[]=>([],[],false)
 |b :: s=>if b=c then ([],s,true) else (b :: (fG c s).1,(fG c s).2.1,(fG c s).2.2)
theorem adL (c b:UInt8) (l:List UInt8):[c].isPrefixOf (b :: l)=(c == b):=by simp [List.isPrefixOf]
theorem oh (c b:UInt8) (l:List UInt8):aa4 (b :: l) [c]=if b=c then 0 else if aa4 l [c]=-1 then -1 else aa4 l [c]+1:=by
 rw [aa4,adL];by_cases h:b=c
 ·subst h; simp
 ·have:(c == b)=false:=by simp; exact fun e=>h e.symm
  simp [this,h]
theorem uI (c:UInt8) (l:List UInt8):aa4 l [c]=-1∨∃ i:Nat,aa4 l [c]=i:=by
 rcases Lib.index_spec l [c] with ⟨h,_⟩|⟨i,h,_⟩
 ·exact .inl h
 ·exact .inr ⟨i,h⟩
theorem vI (c:UInt8):∀ l:List UInt8,aa4 l [c]=-1↔l.count c=0
 |[]=>by simp [aa4]
 |b :: l=>by
  rw [oh];by_cases h:b=c
  ·subst h; simp
  ·have ih:=vI c l;rw [if_neg h,abX h];rcases uI c l with h1|⟨i,h1⟩
   ·rw [if_pos h1]; simp [ih.1 h1]
   ·have cQ:aa4 l [c]≠-1:=by omega
    rw [if_neg cQ];constructor
    ·intro h2; omega
    ·intro h2; exact absurd (ih.2 h2) cQ
theorem uJ (c:UInt8) (l:List UInt8):bu c l≠[]:=by
 cases l with
 |nil=>simp [bu]
 |cons b l=>
  unfold bu;split
  ·simp
  ·split <;> simp
theorem rD (c:UInt8):∀ l:List UInt8,l.count c=0→bu c l=[l]
 |[],_=>rfl
 |b :: l,h=>by
  have hb:b≠c:=fun e=>by subst e; simp at h
  rw [abX hb] at h;unfold bu;rw [if_neg hb,rD c l h]
theorem Et (c:UInt8):∀ l:List UInt8,abQ [c] 0 (l.count c) l=bu c l
 |[]=>by simp [abQ,bu]
 |b :: l=>by
  have ih:=Et c l;by_cases hb:b=c
  ·subst hb;rw [List.count_cons_self,abQ,oh,if_pos rfl];simp [bu,ih]
  ·rw [abX hb];cases hk:l.count c with
   |zero=>
    have:=rD c l hk;unfold bu;rw [if_neg hb,this,abQ]
   |succ k=>
    have cQ:aa4 l [c]≠-1:=fun e=>by have:=(vI c l).1 e; omega
    obtain ⟨i,hi⟩:=(uI c l).resolve_left cQ;rw [hk,abQ,hi] at ih;rw [abQ,oh,if_neg hb,if_neg cQ,hi];have e1:(((i:Int) == -1))=false:=by simp
    have e2:(((i:Int)+1 == -1))=false:=by simp; omega
    rw [e1] at ih;rw [e2];unfold bu;rw [if_neg hb,← ih];have e3:((i:Int)+1).toNat=i+1:=by omega
    simp [e3]
theorem Uc (c:UInt8):∀ l:List UInt8,ab3 l [c]=fG c l
 |[]=>by simp [ab3,aa4,fG]
 |b :: l=>by
  have ih:=Uc c l;unfold ab3 at ih ⊢;rw [oh];unfold fG;by_cases hb:b=c
  ·rw [if_pos hb]; simp [hb]
  ·rw [if_neg hb,if_neg hb,← ih];rcases uI c l with h|⟨i,h⟩
   ·rw [if_pos h,h]; simp
   ·have cQ:aa4 l [c]≠-1:=by omega
    have h1:(0:Int)≤(i:Int)+1:=by omega
    have h2:(0:Int)≤(i:Int):=by omega
    have e3:((i:Int)+1).toNat=i+1:=by omega
    rw [if_neg cQ,h,if_pos h1,if_pos h2,e3];simp
theorem MU (c:UInt8) (s:List UInt8):(Lib.splitB ⟨#[c]⟩ 0 (abR ⟨⟨s⟩⟩ ⟨#[c]⟩) ⟨⟨s⟩⟩).map (·.data.toList)=bu c s:=by
 rw [Lib.splitB_data];show abQ [c] 0 (Lib.count s [c]) s=_;rw [Lib.count_one];exact Et c s
def zg (n:Int):Option (List UInt8):=bif decide (-9223372036854775808≤n)&&decide (n≤9223372036854775807) then some (Lib.itoa n) else none
def GJ:aP:=⟨p1 (.int .i64),.str,zg⟩
def MV:List UInt8 × List UInt8→Option (List (List UInt8))
 |(s,[c])=>bif decide (s.length < 4294967281) then some (bu c s) else none
 |_=>none
def ZM:List UInt8 × List UInt8→Option (List UInt8 × List UInt8 × Bool)
 |(s,[c])=>bif decide (s.length < 4294967281) then some (fG c s) else none
 |_=>none
def CE:aP:=⟨p2 .str .str,.list 1 .str,MV⟩
def Rn:aP:=⟨p2 .str .str,.bk (.cons .str (.cons .str (.cons .bool .nil))),ZM⟩
section
variable {E:Env} {R:ak} {w w':World}
theorem aR.adM {g:FuncId} {args:List AV} {xs:List (List UInt8)} {t:TypeId} (hp:Plain E.P g) (hm:xs.length≤140737488355328)
  (h:∀ (R:ak) (w:World) (cs:List Value),dB E R w []→aK R w args cs→Calls E.P g ⟨cs⟩ w (fun e w'=>e=.returned (.slice (some ⟨w.heap.size,0,none⟩) xs.length xs.length)∧w'=w.alloc (.cells ((xs.map fun l=>aaX ⟨⟨l⟩⟩).toArray) t)))
  (vk:aC 0 args=true):aR E g args (fun r'=>r'=(aM.list 1 .str).enc xs):=fun G=>
 ⟨hp,fun R w cs hg hl=>by
  let R0:ak:=⟨R.I,[]⟩
  have m0:Mv R R0 0:=⟨fun _ _ h=>h,fun _ _ h=>absurd h (Nat.not_lt_zero _)⟩;have OV:dB E R0 w []:=⟨rfl,fun id go ro h1 _=>by simp [nth] at h1,fun i j ri rj b h1=>by simp [R0,nth] at h1,hg.wf,fun g cs rJ=>(hg.ck g cs rJ).move m0 (cA _ (E.oS g cs rJ)),hg.lo⟩;refine callsIn_wide.2 ((h R0 w cs OV (hl.move m0 vk)).mono fun e w' ⟨he,hw⟩=>?_);subst he; subst hw
  let R':ak:=R.all w.heap.size
  have e1:=ug (R:=R) hg.wf (.cells ((xs.map fun l=>aaX ⟨⟨l⟩⟩).toArray) t);have e:Ext R w R' (w.alloc (.cells ((xs.map fun l=>aaX ⟨⟨l⟩⟩).toArray) t)):=e1.trans (qn R _ _);have old:∀ b,b < w.heap.size→(w.alloc (.cells ((xs.map fun l=>aaX ⟨⟨l⟩⟩).toArray) t)).heap[b]?=w.heap[b]?:=fun b hb=>heap_alloc_old w _ hb
  have im:∀ b o,b < w.heap.size→R'.I b o→R.I b o:=fun b o hb hi=>hi.resolve_right (by omega)
  refine ⟨_,G,R',⟨rfl,rfl⟩,?_,?_,⟨e,rfl,rfl,rfl,by simp,fun b hb _=>old b hb,fun b hb ho=>ho,fun b o hi hb _=>im b o hb hi⟩⟩
  ·have mO:(w.alloc (.cells ((xs.map fun l=>aaX ⟨⟨l⟩⟩).toArray) t)).heap[w.heap.size]?=some (.cells ((xs.map fun l=>aaX ⟨⟨l⟩⟩).toArray) t):=heap_alloc_new w _;have key:∀ (ys:List (List UInt8)) (o:Nat),(∀ (j:Nat) l,ys[j]?=some l→xs[o+j]?=some l)→gl R' (w.alloc (.cells ((xs.map fun l=>aaX ⟨⟨l⟩⟩).toArray) t)) w.heap.size o 1 (ys.map (fun l=>AV.str l)):=by
    intro ys
    induction ys with
    |nil=>intro o _; exact .nil
    |cons l ys ih=>
     intro o hj;refine .cons rfl rfl rfl (.cons (c:=.string ⟨⟨l⟩⟩) ?_ rfl (.inr rfl) (.str l) .nil) (ih (o+1) fun j l' h'=>by
      have:=hj (j+1) l' (by simpa using h');rwa [show o+(j+1)=o+1+j by omega] at this)
     have h0:=hj 0 l rfl;rw [Nat.add_zero] at h0;simp only [ab5,mO];simp [h0]
   have hk:=key xs 0 (fun j l h=>by rw [aa5]; exact h);exact Rel.list (k:=.lq) (sz:=1) (es:=xs.map (fun l=>AV.str l)) hk (by rw [aaH]) (abq _) trivial
  ·exact hg.aW e rfl (fun b hb=>old b (hg.b9 hb)) (fun b o hb hi=>im b o (hg.b9 hb) hi) (fun b o hi=>by
    rcases hi with hi|hi
    ·have:=hg.wf b o hi; simp; omega
    ·subst hi; simp) (fun hd=>hd)⟩
theorem MW {g gm:FuncId} {m:Int} {t:TypeId} (hp:Plain E.P g) (hg:E.ck gm=some [.int .i64 m])
  (h:∀ (s:ByteArray) (c:UInt8) (w:World),s.size < 4294967281→w.cell? ⟨gm,0,none⟩=some (.int .i64 m)→Calls E.P g #[.string s,.string ⟨#[c]⟩] w fun e w'=>
   e=.returned (.slice (some ⟨w.heap.size,0,none⟩) (abR s ⟨#[c]⟩+1) (abR s ⟨#[c]⟩+1))∧w'=w.alloc (.cells ((Lib.splitB ⟨#[c]⟩ 0 (abR s ⟨#[c]⟩) s).map aaX).toArray t)):ai E g CE:=fun x y hT=>by
 obtain ⟨s,c⟩:=x
 match c,hT with
 |[],hT=>cases hT
 |_ :: _ :: _,hT=>cases hT
 |[c],hT=>
  have hT:(bif decide (s.length < 4294967281) then some (bu c s) else none)=some y:=hT;obtain ⟨h1,h2⟩:s.length < 4294967281∧bu c s=y:=by
   cases hd:decide (s.length < 4294967281) with
   |true=>rw [hd] at hT; exact ⟨of_decide_eq_true hd,acs hT⟩
   |false=>rw [hd] at hT; cases hT
  subst h2;have hB:=MU c s;have oK:=Lib.splitB_all ⟨#[c]⟩ (abq 1) 0 _ ⟨⟨s⟩⟩ rfl;have hlen:(bu c s).length=abR ⟨⟨s⟩⟩ ⟨#[c]⟩+1:=by rw [← hB,aaH,oK]
  have jm:=Lib.countB_le ⟨#[c]⟩ (abq 1) s.length ⟨⟨s⟩⟩ (by show s.length≤_; exact abq _);have jm:abR ⟨⟨s⟩⟩ ⟨#[c]⟩≤s.length:=jm;refine aR.adM (t:=t) hp (by rw [hlen]; omega) (fun R w cs hr hl=>?_) rfl;have xQ:dR R w gm 0 [.int .i64 m]:=(hr.ck gm _ hg).1;have hm:w.cell? ⟨gm,0,none⟩=some (.int .i64 m):=by
   cases xQ with
   |cons a1 _ _ a4 _=>cases a4; exact a1
  cases hl with
  |cons a1 hl=>
  cases hl with
  |cons a2 hl=>
  cases hl;cases a1; cases a2;refine (h ⟨⟨s⟩⟩ c w (by show s.length < _; exact h1) hm).mono ?_;rintro e w' ⟨rfl,rfl⟩;have e3:(Lib.splitB ⟨#[c]⟩ 0 (abR ⟨⟨s⟩⟩ ⟨#[c]⟩) ⟨⟨s⟩⟩).map aaX=(bu c s).map fun l=>aaX ⟨⟨l⟩⟩:=by
   rw [← hB,List.map_map]; rfl
  rw [hlen,e3];exact ⟨rfl,rfl⟩
theorem V4 {g gm:FuncId} {m:Int} (hp:Plain E.P g) (hg:E.ck gm=some [.int .i64 m]) (hE:E.lo=0)
  (h:∀ (s:ByteArray) (c:UInt8) (w:World),s.size < 4294967281→w.cell? ⟨gm,0,none⟩=some (.int .i64 m)→Calls E.P g #[.string s,.string ⟨#[c]⟩] w fun e w'=>
   e=.returned (.tuple #[.string ⟨(ab3 s.data.toList [c]).1.toArray⟩,.string ⟨(ab3 s.data.toList [c]).2.1.toArray⟩,.bool (ab3 s.data.toList [c]).2.2])∧∃ n,w'=w.drewN n):ai E g Rn:=fun x y hT=>by
 obtain ⟨s,c⟩:=x
 match c,hT with
 |[],hT=>cases hT
 |_ :: _ :: _,hT=>cases hT
 |[c],hT=>
  have hT:(bif decide (s.length < 4294967281) then some (fG c s) else none)=some y:=hT;obtain ⟨h1,h2⟩:s.length < 4294967281∧fG c s=y:=by
   cases hd:decide (s.length < 4294967281) with
   |true=>rw [hd] at hT; exact ⟨of_decide_eq_true hd,acs hT⟩
   |false=>rw [hd] at hT; cases hT
  subst h2;refine fun G=>⟨hp,fun R w cs hr hl=>callsIn_wide.2 ?_⟩
  have xQ:dR R w gm 0 [.int .i64 m]:=(hr.ck gm _ hg).1;have hm:w.cell? ⟨gm,0,none⟩=some (.int .i64 m):=by
   cases xQ with
   |cons a1 _ _ a4 _=>cases a4; exact a1
  have Yi:=hr.wf;cases hl with
  |cons a1 hl=>
  cases hl with
  |cons a2 hl=>
  cases hl;cases a1; cases a2;refine (h ⟨⟨s⟩⟩ c w (by show s.length < _; exact h1) hm).mono ?_;rintro e w' ⟨rfl,n,rfl⟩;have hb:Below w.heap.size w (w.drewN n):=⟨rfl,rfl,rfl,abq _,fun _ _=>rfl⟩;refine ⟨_,G,R,⟨rfl,rfl⟩,?_,Below.JI hb hr hE,Below.Bs hb Yi⟩;have e4:ab3 (⟨⟨s⟩⟩:ByteArray).data.toList [c]=fG c s:=Uc c s;rw [e4];exact Rel.bk (.cons (.str _) (.cons (.str _) (.cons (.bool _) .nil)))
theorem Eu {R:ak} {w:World} {b:Nat}:∀ {zs:List Int} {k:IntKind} {o:Nat},dR R w b o (zs.map fun z=>AV.int k z)→∀ (j:Nat) z,zs[j]?=some z→w.cell? ⟨b,o+j,none⟩=some (.int k z)
 |[],_,_,_,j,z,h=>by simp at h
 |a :: zs,k,o,.cons h1 h2 h3 h4 t,0,z,h=>by
  cases h4;simp only [List.getElem?_cons_zero,Option.some.injEq] at h;subst h;exact h1
 |a :: zs,k,o,.cons h1 h2 h3 h4 t,j+1,z,h=>by
  have:=Eu t j z (by simpa using h);rwa [show o+(j+1)=o+1+j by omega]
theorem jR.wP {nm:String} {gt:Nat} {k:IntKind} {zs:List Int} (hn:E.P.globalNamed nm=some gt) (hx:E.gx gt=true) (h0:1≤zs.length) (h:jR E R w gt (zs.map fun z=>AV.int k z)):Lib.TabIs E.P w nm k zs:=by
 obtain ⟨h1,h2⟩:=h;obtain ⟨_,h2⟩:=h2 hx;rw [aaH] at h2;have hg:=Eu h1;unfold Lib.TabIs World.var?;rw [hn];have X0:=hg 0 zs[0] (by simp [aac h0]);cases hb:w.heap[gt]? with
 |none=>simp [ab5,hb] at X0
 |some ob=>
  cases ob with
  |cells cs t fr=>
   have hc:∀ j,w.cell? ⟨gt,j,none⟩=cs[j]?:=fun j=>by simp [ab5,hb]
   have e:cs=(zs.map fun z=>aaZ k z).toArray:=by
    apply Array.ext';rw [List.toList_toArray];apply abS;intro j;rw [aax,abT];rcases Nat.lt_or_ge j zs.length with hj|hj
    ·have:=hg j zs[j] (by simp [aac hj]);rw [aa5,hc] at this;rw [this,aac hj]; rfl
    ·have hz:zs[j]?=none:=aa6 hj;rw [hz,Option.map_none];rw [hc] at h2;have hs:cs.size≤zs.length:=by simpa using h2
     exact ab6 (by omega)
   show (match w.heap[gt]? with | some (.cells cs _ _)=>some cs | _=>none)=_;rw [hb,e]
  |_=>simp [ab5,hb] at X0
theorem MX {g gt:FuncId} {nm:String} (hp:Plain E.P g) (hg:E.ck gt=some (Lib.pow10Tab.map fun z=>AV.int .u64 z)) (hx:E.gx gt=true) (hn:E.P.globalNamed nm=some gt) (hE:E.lo=0)
  (h:∀ (n:Int) (w:World),-9223372036854775808≤n→n≤9223372036854775807→Lib.TabIs E.P w nm .u64 Lib.pow10Tab→Calls E.P g #[.int .i64 n] w fun e w'=>
   e=.returned (.string ⟨(Lib.itoa n).toArray⟩)∧∃ k os,w'=abu (w.drewN k) os):ai E g GJ:=fun x y hT=>by
 obtain ⟨n,rfl⟩:∃ n:Int,(show GJ.ps.T from n)=x:=⟨x,rfl⟩;have hT:(bif decide (-9223372036854775808≤n)&&decide (n≤9223372036854775807) then some (Lib.itoa n) else none)=some y:=hT;obtain ⟨h1,h2⟩:=El.cond_some' hT;subst h2;rw [aa3] at h1;have a:=of_decide_eq_true h1.1;have b:=of_decide_eq_true h1.2;refine fun G=>⟨hp,fun R w cs hr hl=>callsIn_wide.2 ?_⟩
 have CB:=(hr.ck gt _ hg).wP hn hx (by rw [Lib.pow10Tab_length]; decide);have Yi:=hr.wf;cases hl with
 |cons a1 hl=>
 cases hl;cases a1;refine (h n w a b CB).mono ?_;rintro e w' ⟨rfl,k,os,rfl⟩;have hb:Below w.heap.size w (abu (w.drewN k) os):=⟨rfl,rfl,rfl,by simp [abu,World.drewN],fun i hi=>by
  show (w.heap++os)[i]?=_;rw [aaM hi]⟩
 exact ⟨_,G,R,⟨rfl,rfl⟩,Rel.str _,Below.JI hb hr hE,Below.Bs hb Yi⟩
end
end Go.Am
namespace Go.Am
open Go
section
variable {κ ν:Type} [DecidableEq κ]
def getM (k:κ):List (κ × ν)→Option ν
 |[]=>none
 |(k',v) :: m=>if k=k' then some v else getM k m
def sa (k:κ) (v:ν):List (κ × ν)→List (κ × ν)
 |[]=>[(k,v)]
 |(k',v') :: m=>if k=k' then (k,v) :: m else (k',v') :: sa k v m
theorem EA (k k':κ) (v:ν):∀ m:List (κ × ν),getM k' (sa k v m)=if k'=k then some v else getM k' m
 |[]=>rfl
 |(k1,v1) :: m=>by
  unfold sa;by_cases h:k=k1
  ·subst h;rw [if_pos rfl];by_cases h2:k'=k
   ·simp [getM,h2]
   ·simp [getM,h2]
  ·rw [if_neg h];by_cases h2:k'=k1
   ·subst h2;have h3:¬ k'=k:=fun e=>h e.symm
    simp [getM,h3]
   ·simp only [getM,if_neg h2];exact EA k k' v m
theorem EB {k:κ} {v:ν}:∀ {m:List (κ × ν)},getM k m=none→sa k v m=m++[(k,v)]
 |[],_=>rfl
 |(k1,v1) :: m,h=>by
  unfold getM at h;split at h
  ·cases h
  ·rename_i cQ;unfold sa;rw [if_neg cQ,EB h];rfl
theorem Bu (k:κ) (l:List κ):getM k (l.map fun x=>(x,true))=if k∈l then some true else none:=by
 induction l with
 |nil=>rfl
 |cons a l ih=>
  simp only [aab,getM,ih,aa9];by_cases h:k=a
  ·simp [h]
  ·simp [h]
structure ic (ek:EK) (nk:κ→AV) (nv:ν→AV) (nM:κ × ν→AV):Prop where
 key:∀ a b,E7 ek (nk a) (nk b)=some (decide (a=b))
 pair:∀ x,nM x=.agg [nk x.1,nv x.2]
 exact:∀ x,(nM x).exact=true
variable {ek:EK} {nk:κ→AV} {nv:ν→AV} {nM:κ × ν→AV} (h:ic ek nk nv nM)
include h
theorem ic.ent:∀ m:List (κ × ν),aG (aaY nM m)=m.map fun x=>(nk x.1,nv x.2)
 |[]=>rfl
 |x :: m=>by
  rw [aab,h.pair,aG,ic.ent m];rfl
theorem ic.keys (k:κ):∀ m:List (κ × ν),gC ek (nk k) (aG (aaY nM m))=true
 |[]=>rfl
 |x :: m=>by
  have:=ic.keys k m;rw [aab,h.pair,aG];show ((E7 ek (nk k) (nk x.1)).isSome&&gC ek (nk k) (aG (aaY nM m)))=true;rw [this,h.key];rfl
theorem ic.get (k:κ):∀ m:List (κ × ν),ky ek (nk k) (aG (aaY nM m))=(getM k m).map nv
 |[]=>rfl
 |x :: m=>by
  have ih:=ic.get k m;rw [aab,h.pair,aG];show (bif xm ek (nk k) (nk x.1) then some (nv x.2) else ky ek (nk k) (aG (aaY nM m)))=(if k=x.1 then some x.2 else getM k m).map nv;unfold xm;rw [h.key,ih];by_cases e:k=x.1
  ·simp [e]
  ·simp [e]
theorem ic.getD (k:κ) (z:ν) (m:List (κ × ν)):eK ek (nk k) (nv z) (aG (aaY nM m))=nv ((getM k m).getD z):=by
 unfold eK;rw [h.get];cases getM k m <;> rfl
theorem ic.put (k:κ) (v:ν):∀ m:List (κ × ν),gJ ek (nk k) (nv v) (aG (aaY nM m))=aG (aaY nM (sa k v m))
 |[]=>by
  show [(nk k,nv v)]=aG [nM (k,v)];rw [h.pair];rfl
 |x :: m=>by
  have ih:=ic.put k v m;rw [aab,h.pair,aG];show (bif xm ek (nk k) (nk x.1) then (nk k,nv v) :: aG (aaY nM m) else (nk x.1,nv x.2) :: gJ ek (nk k) (nv v) (aG (aaY nM m)))=aG (aaY nM (if k=x.1 then (k,v) :: m else (x.1,x.2) :: sa k v m));unfold xm;rw [h.key,ih];by_cases e:k=x.1
  ·simp only [e,decide_true,cond_true,if_true,aab];rw [h.pair (x.1,v),aG];rfl
  ·simp only [e,decide_false,cond_false,if_false,aab];rw [h.pair (x.1,x.2),aG];rfl
theorem ic.cells:∀ m:List (κ × ν),ab (aG (aaY nM m))=aaY nM m
 |[]=>rfl
 |x :: m=>by
  have ih:=ic.cells m;rw [aab,h.pair,aG];show AV.agg [nk x.1,nv x.2] :: ab (aG (aaY nM m))=_;rw [ih]
theorem ic.bc (m:List (κ × ν)):Go.Am.bc (aG (aaY nM m))=true:=by
 unfold Go.Am.bc;rw [h.cells]
 induction m with
 |nil=>rfl
 |cons x m ih=>rw [aab,fY,ih,h.exact]; rfl
end
theorem RJ (a b:Int × Int):E7 (.st (.cons 0 1 false .int (.cons 1 1 false .int .nil))) (.agg [.int .i64 a.1,.int .i64 a.2]) (.agg [.int .i64 b.1,.int .i64 b.2])=some (decide (a=b)):=by
 obtain ⟨a1,a2⟩:=a;obtain ⟨b1,b2⟩:=b;have e:ls (.st (.cons 0 1 false .int (.cons 1 1 false .int .nil))) (.agg [.int .i64 a1,.int .i64 a2]) (.agg [.int .i64 b1,.int .i64 b2])=some ((a1 == b1)&&((a2 == b2)&&true)):=rfl;unfold E7;rw [e];by_cases h1:a1=b1 <;> by_cases h2:a2=b2
 ·subst h1; subst h2;simp [EK.wide,lD,mD,oU]
 all_goals simp [h1,h2]
end Go.Am
namespace Go.Am
open Go
theorem zl (ek:EK) (k v x:AV):∀ es:List (AV × AV),jP (gJ ek k v es) (iC ek k es) x=gJ ek k x es
 |[]=>rfl
 |(k',v') :: l=>by
  unfold gJ iC;cases h:xm ek k k' with
  |true=>rfl
  |false=>
   simp only [cond_false,jP];rw [zl ek k v x l]
theorem M6 (ek:EK) (k v:AV):∀ es:List (AV × AV),iC ek k es < (gJ ek k v es).length
 |[]=>Nat.zero_lt_one
 |(k',v') :: l=>by
  unfold gJ iC;cases h:xm ek k k' with
  |true=>exact Nat.zero_lt_succ _
  |false=>
   simp only [cond_false,abW];have:=M6 ek k v l;omega
theorem GP {V X:Type} (rd:(V→Option X)→V→Option X) (n:Nat) (v:V):mW rd (n+1) v=rd (mW rd n) v:=rfl
def JN (L:List Nat):List Int:=L.map fun n:Nat=>(n:Int)
theorem M7 {α:Type} (f:α→AV × AV) (m:List α) {i:Nat} (h:i < m.length):dX (m.map f) i=f m[i]:=by
 unfold dX;rw [bg,abT,aac h];rfl
end Go.Am
namespace Go.Am
open Go Go.RowKit Go.Proofs Go.Shelf Go.Sort
def EG:AV→Value
 |.bool b=>.bool b
 |.int k n=>.int k n
 |.str l=>.string ⟨⟨l⟩⟩
 |_=>.bool false
theorem NE {R:ak} {w:World} {a:AV} {c:Value} (ha:gj a=true) (h:Rel R w a c):c=EG a:=by
 cases a <;> first | (cases ha; done) | (cases h; rfl)
theorem NF {R:ak} {w:World} {a:AV} (ha:gj a=true):Rel R w a (EG a):=by
 cases a <;> first | (cases ha; done) | constructor
theorem uL {R:ak} {w:World}:∀ {l:List AV} {vs:List Value},(∀ a∈l,gj a=true)→aK R w l vs→vs=l.map EG
 |[],_,_,h=>by cases h; rfl
 |a :: l,_,hs,.cons h t=>by
  rw [NE (hs a (by simp)) h,uL (fun b hb=>hs b (by simp [hb])) t];rfl
theorem qD {R:ak} {w:World}:∀ {l:List AV},(∀ a∈l,gj a=true)→aK R w l (l.map EG)
 |[],_=>.nil
 |a :: l,hs=>.cons (NF (hs a (by simp))) (qD fun b hb=>hs b (by simp [hb]))
theorem zr {a:AV} (ha:gj a=true):(EG a).oneCell'=true:=by
 cases a <;> first | (cases ha; done) | rfl
structure qE (P:Program) (ck:Nat→Option (List AV)) (c:FuncId) (p:aM) (k:Nat) (cf:p.T→p.T→Int):Prop where
 flat:p.flat=true
 size:∀ x,(p.enc x).cells.length=k
 G3:∀ x,∀ a∈(p.enc x).cells,gj a=true
 agg:∀ x,∃ cs,p.enc x=.agg cs
 calls:∀ (E:Env),E.P=P→E.ck=ck→E.gx=(fun _=>false)→∀ x y,aR E c [p.enc x,p.enc y] (fun r=>r=.int .i64 (cf x y))
 swo:SWO (ltOf cf)
 tot:∀ x y,(ltOf cf) x y=false→(ltOf cf) y x=false→x=y
def gD (p:aM) (cf:p.T→p.T→Int) (es:List AV):List AV:=(((es.map p.bA).mergeSort fun x y=>!(ltOf cf) y x)).map p.enc
def zt (p:aM) (cf:p.T→p.T→Int) (sz:Nat) (el:TypeId) (c:FuncId):List AV→List GO→Option (Bool × AV × List GO)
 |[.eu id f off sz1 len,.fn c' [] []],G=>match nth G id with
  |some (.dV es qS Sr)=>if abY c c'&&abY off 0&&abY sz1 sz&&abY qS sz&&abY Sr el then
    some (decide (f=es.length)&&decide (len=es.length)&&decide (es.length≤140737488355328)&&allFit p.fits es,.bk [],aF G id (.dV (gD p cf es) sz el)) else none
  |_=>none
 |_,_=>none
theorem AJ {W W':World} (h:Below W.heap.size W W') (hd:W.drawn≤W'.drawn):∃ q os,W'=abu (W.drewN q) os:=by
 refine ⟨W'.drawn - W.drawn,W'.heap.extract W.heap.size W'.heap.size,?_⟩;have hh:W'.heap=W.heap++W'.heap.extract W.heap.size W'.heap.size:=by
  apply acg;intro i;by_cases hi:i < W.heap.size
  ·rw [aaM hi];exact h.block i hi
  ·rw [Array.getElem?_append_right (by omega),Array.getElem?_extract];have hs:=h.size;by_cases hj:i < W'.heap.size
   ·rw [if_pos (by omega)];congr 1;omega
   ·rw [if_neg (by omega),ab6 (by omega)]
 obtain ⟨hp,tp,dr,os,out⟩:=W';have h1:=h.os;have h2:=h.tape;have h3:=h.output;simp only at hh h1 h2 h3 hd;unfold abu World.drewN;simp only;rw [← hh,h1,h2,h3];congr 1;omega
def gy (p:aM) (x:p.T):List Value:=((p.enc x).cells).map EG
theorem pX {α:Type} [Inhabited α] {enc:α→List Value} {k:Nat} (hk:∀ x,(enc x).length=k):∀ (l:List α) (t:Nat),t < l.length * k→(l.flatMap enc)[t]?=some ((enc l[t / k]!)[t % k]!)
 |[],t,h=>by simp at h
 |x :: l,t,h=>by
  have De:0 < k:=by
   rcases Nat.eq_zero_or_pos k with h0|h0
   ·rw [h0] at h; omega
   ·exact h0
  rw [ab2];by_cases ht:t < k
  ·rw [List.getElem?_append_left (by rw [hk]; exact ht),Nat.div_eq_of_lt ht,Nat.mod_eq_of_lt ht];have hl:t < (enc x).length:=by rw [hk]; exact ht
   simp [hl]
  ·have ht:k≤t:=Nat.le_of_not_lt ht;rw [List.getElem?_append_right (by rw [hk]; exact ht),hk];have h':t - k < l.length * k:=by
    rw [abW,Nat.add_mul,Nat.one_mul] at h;omega
   rw [pX hk l (t - k) h'];have e1:t / k=(t - k) / k+1:=by
    rw [Nat.div_eq_sub_div De ht]
   have e2:t % k=(t - k) % k:=Nat.mod_eq_sub_mod ht;rw [e1,e2];simp
theorem Bw {α:Type} [Inhabited α] {enc:α→List Value} {k:Nat} (hk:∀ x,(enc x).length=k) (d:Array α):(flatK enc k d).toList=d.toList.flatMap enc:=by
 have hl:(d.toList.flatMap enc).length=d.size * k:=by
  obtain ⟨l⟩:=d;show (l.flatMap enc).length=l.length * k
  induction l with
  |nil=>simp
  |cons x l ih=>rw [ab2,List.length_append,hk,ih,abW,Nat.add_mul,Nat.one_mul,Nat.add_comm]
 apply abS;intro t;by_cases ht:t < d.size * k
 ·have h1:=pX hk d.toList t (by simpa using ht);rw [h1];have hs:t < (flatK enc k d).size:=by rw [size_flatK]; exact ht
  have h2:=get_flatK enc k d t ht;rw [getElem!_pos (flatK enc k d) t hs] at h2;have e:∀ i:Nat,d[i]! = d.toList[i]!:=fun i=>by rw [getElem!_def,getElem!_def,aax]
  rw [aax,aaR hs,h2,e]
 ·rw [aa6 (by rw [abN,size_flatK]; omega),aa6 (by rw [hl]; omega)]
theorem sd (p:aM):∀ (xs:List p.T),(aq (xs.map p.enc)).map EG=xs.flatMap (gy p)
 |[]=>rfl
 |x :: xs=>by
  rw [aab,aq,List.map_append,sd p xs,ab2];rfl
theorem om {w:World} {b:Nat} {cur:Array Value} {el:TypeId} (h:w.heap[b]?=some (.cells cur el (0,0))) (f:Array Value→Array Value):mapBlock w b f=w.setRow b (f cur):=by
 unfold mapBlock World.setRow;congr 1;apply acg;intro i;rw [ab8,ab8];by_cases e:b=i
 ·subst e;rw [if_pos rfl,if_pos rfl,h];rfl
 ·rw [if_neg e,if_neg e]
section
variable {E:Env} {ρ:Ren} {c:FuncId} {p:aM} {k:Nat} {cf:p.T→p.T→Int} [Inhabited p.T]
theorem zu (hC:qE E.P E.ck c p k cf) (x:p.T):(gy p x).length=k:=by
 unfold gy;rw [aaH,hC.size]
theorem NG (PQ:E.gx=fun _=>false) (hC:qE E.P E.ck c p k cf) {R:ak} {w:World} {G:List GO} (hg:dB E R w G) {b:Nat} {cur:Array Value} {el:TypeId} (hb:w.heap[b]?=some (.cells cur el (0,0))) (hI:∀ o,¬ R.I b o) (size:Nat) :
  CmpLays E.P c #[] (gy p) k cf b 0 size w:=by
 intro m os dk _ x y;have e1:putRowK (gy p) k (aaa w m) b 0 dk=(aaa w m).setRow b (putCells id 0 (flatK (gy p) k dk) cur):=om (w:=aaa w m) hb _;have hW:sortWorldK (gy p) k w b 0 m dk os=abu ((aaa w m).setRow b (putCells id 0 (flatK (gy p) k dk) cur)) os:=by
  unfold sortWorldK;rw [e1]
 rw [hW];generalize putCells id 0 (flatK (gy p) k dk) cur=cur2;have eA:Ext R w R (aaa w m):=⟨fun _ _ h=>h,fun _ _ _=>rfl,fun _ ro h=>⟨ro,h,cF.refl ro⟩,.old fun _ _=>rfl⟩;have eS:Ext R (aaa w m) R ((aaa w m).setRow b cur2):=jb hI cur2;have EH:Below ((aaa w m).setRow b cur2).heap.size ((aaa w m).setRow b cur2) (abu ((aaa w m).setRow b cur2) os):=by
  refine ⟨rfl,rfl,rfl,?_,fun i hi=>?_⟩
  ·show _≤(((aaa w m).setRow b cur2).heap++os).size;rw [abU]; exact ab4 _ _
  ·show (((aaa w m).setRow b cur2).heap++os)[i]?=_;rw [aaM hi]
 have eY:((aaa w m).setRow b cur2).heap.size=w.heap.size:=by unfold World.setRow; simp [aaa]
 have eG:Ext R ((aaa w m).setRow b cur2) R (abu ((aaa w m).setRow b cur2) os):=Below.VL EH fun b' o hi=>by rw [eY]; exact hg.wf b' o hi
 have eW:=(eA.trans eS).trans eG;generalize hWd:abu ((aaa w m).setRow b cur2) os=W at *;have hWs:w.heap.size≤W.heap.size:=by rw [← eY]; exact EH.size
 let E':Env:={ E with lo:=W.drawn }
 let R0:ak:=⟨R.I,[]⟩
 have m0:Mv R R0 0:=⟨fun _ _ h=>h,fun _ _ h=>absurd h (Nat.not_lt_zero _)⟩;have OV:dB E' R0 W []:=⟨rfl,fun id go ro h1 _=>by simp [nth] at h1,fun i j ri rj b h1=>by simp [R0,nth] at h1,fun b o h=>Nat.lt_of_lt_of_le (hg.wf b o h) hWs,
  fun g cs rJ=>((hg.ck g cs rJ).mono eW).move m0 (cA _ (E.oS g cs rJ)),abq _⟩
 have ej:∀ z:p.T,Rel R0 W (p.enc z) (.agg (gy p z).toArray):=fun z=>by
  obtain ⟨cs,ql⟩:=hC.agg z;have hs:=hC.G3 z;unfold gy;rw [ql] at hs ⊢;refine Rel.agg (qD hs) fun v hv=>?_
  obtain ⟨a,ha,rfl⟩:=abK.1 hv;exact zr (hs a ha)
 have hc:=(hC.calls E' rfl rfl PQ x y []).2 R0 W [.agg (gy p x).toArray,.agg (gy p y).toArray] OV (.cons (ej x) (.one (ej y)));refine (callsIn_wide.1 hc).mono fun e w' he=>?_
 cases e with
 |panicked c=>exact he.elim
 |outgrown=>exact he.elim
 |returned cv=>
  obtain ⟨r,G',R1,⟨rfl,rfl⟩,hr,PH,st⟩:=he;have E8:cv=.int .i64 (cf x y):=by cases hr; rfl
  subst E8;have jx:∀ b,¬ Own R0 (fun _=>0) fq b:=fun b ho=>by
   obtain ⟨id,ro,h1,_⟩:=eP ho;simp [R0,nth] at h1
  refine ⟨rfl,AJ ⟨st.os,st.tape,st.output,st.size,fun i hi=>st.aW i hi (jx i)⟩ PH.lo⟩
theorem EI {p:aM} (hp:p.flat=true):∀ es:List AV,allFit p.fits es=true→es=(es.map p.bA).map p.enc
 |[],_=>rfl
 |a :: es,h=>by
  simp only [allFit,aa3] at h;rw [aab,aab,← EI hp es h.2,aM.jD hp h.1]
theorem zv (L:SlLaysF0.n6 E.P ρ) (hp:Plain E.P (ρ.f 6)) (hc:Plain E.P c) (aE:∀ w,(isAgg (ρ.t 24)).run E.P w=.ok true w) (zE:∀ w,(Go.sizeOf (ρ.t 24)).run E.P w=.ok k w) (hC:qE E.P E.ck c p k cf) (hE:E.lo=0) (De:1≤k) {el:TypeId} (PQ:E.gx=fun _=>false:=by rfl) :
  ∀ (args:List AV) (G:List GO) (r:AV) (G':List GO),zt p cf k el c args G=some (true,r,G')→cB E (ρ.f 6) args G (fun r' Bn=>r'=r∧Bn=G'):=by
 intro args G r G' h;unfold zt at h;split at h
 ·rename_i G1 oid f off sz1 len c';split at h
  ·rename_i es qS Sr hid;split at h
   ·rename_i cL;simp only [aa3] at cL;obtain ⟨⟨⟨⟨q1,q2⟩,q3⟩,q4⟩,q5⟩:=cL;have q1:=aaB q1;have q2:=aaB q2;have q3:=aaB q3;have q4:=aaB q4;have q5:=aaB q5;subst q1; subst q2; subst q3; subst q4; subst q5;injection h with h;injection h with h1 h;injection h with h2 h3;subst h2; subst h3;simp only [aa3,decide_eq_true_eq] at h1;obtain ⟨⟨⟨hf,tE⟩,hbig⟩,wh⟩:=h1;refine ⟨hp,fun R w cs hg hl=>callsIn_wide.2 ?_⟩;cases hl with
    | @cons _ cv _ _ r1 hl=>
    cases hl with
    | @cons _ fv _ _ r2 hl=>
    cases hl;cases r2 with
    |fn x1 x2=>
    cases x1; cases x2;by_cases he:es=[]
    ·subst he;obtain ⟨pa,cap,rfl⟩:∃ pa cap,cv=.slice pa 0 cap:=by
      have tE:len=0:=tE;subst tE;cases r1 with
      |iV _ _=>exact ⟨_,_,rfl⟩
      |eu _ _ _=>exact ⟨_,_,rfl⟩
     refine (AnyF.slices_SortFunc_none (P:=E.P) (ρ:=ρ) L pa cap _ w).mono fun e w' ⟨e1,e2⟩=>?_
     subst e1; subst e2;have NH:gD p cf []=[]:=by simp [gD]
     have hG:aF G oid (.dV (gD p cf []) qS Sr)=G:=by rw [NH]; exact ju hid
     rw [hG];exact ⟨.bk [],G,R,⟨rfl,rfl⟩,Rel.bk .nil,hg,Step.refl _ _ _ _⟩
    ·have pn:0 < es.length:=ace.2 he;cases r1 with
     |iV _ _=>omega
     | @eu _ _ _ _ _ cap b o' ro b6 eJ hU=>
     subst hf; subst tE;obtain ⟨b',c',cur,vs,rfl,g1,g2,g3,g4,g5,g6,g7,g8,g9⟩:=lH hg hid b6 (fun k=>by subst k; exact eJ);obtain ⟨rfl,HI,tS⟩:=eJ.2 rfl;have oP:o'=0:=by
      rcases tS with tS|tS
      ·rw [tS,ach]
      ·omega
     subst oP
     -- the elements by their leaves
     have vZ:=EI hC.flat es wh;generalize Pp:es.map p.bA=xs at vZ;have hlen:xs.length=es.length:=by rw [← Pp,aaH]
     have UJ:∀ (ys:List p.T),∀ a∈aq (ys.map p.enc),gj a=true:=fun ys=>by
      induction ys with
      |nil=>intro a ha; simp [aq] at ha
      |cons y ys ih=>
       intro a ha;rw [aab,aq] at ha;rcases abJ.1 ha with ha|ha
       ·exact hC.G3 y a ha
       ·exact ih a ha
     have Vv:vs=xs.flatMap (gy p):=by
      rw [vZ] at g7;rw [uL (UJ xs) g7,sd]
     have hd:(xs.toArray).size=es.length:=by simpa using hlen
     have aaN:(flatK (gy p) qS xs.toArray).toList=vs:=by rw [Bw (zu hC),Vv]
     have Y2:(flatK (gy p) qS xs.toArray).size=es.length * qS:=by rw [size_flatK,hd]
     have jm:cur.toList.length=c' * qS:=by rw [show cur.toList.length=cur.size from abN,g5]
     have hle:es.length * qS≤c' * qS:=Nat.mul_le_mul_right _ g3;have hH:HoldsK (gy p) qS w b 0 xs.toArray:=by
      intro j hj;rw [Y2] at hj;refine ⟨?_,?_⟩
      ·have WR:j < (flatK (gy p) qS xs.toArray).size:=by rw [Y2]; exact hj
       rw [getElem!_pos (flatK (gy p) qS xs.toArray) j WR,aa5,cell_of_row w b j cur Sr (0,0) g2];have h1:cur[j]?=vs[j]?:=by
        rw [← g9,abP,if_pos hj,← aax]
       rw [h1,← aaN,aax,aaR WR];rfl
      ·unfold World.frozen?;rw [g2];simp
     have hCL:=NG PQ hC hg g2 g6 xs.toArray.size;have key:=AnyQ.slices_SortFunc_total L qS aE zE (gy p) (zu hC) (fun x v hv=>by
      obtain ⟨a,ha,rfl⟩:=abK.1 hv;exact zr (hC.G3 x a ha)) cf hC.swo c #[] b 0 cap xs.toArray w (nT hc) hCL hH (bi g2) (by rw [hd]; omega) hC.tot
     rw [hd] at key;refine key.mono fun e w' ⟨e1,n,os,e2⟩=>?_
     subst e1
     -- the world behind
     have e3:putRowK (gy p) qS (aaa w n) b 0 (xs.mergeSort fun x y=>!(ltOf cf) y x).toArray=(aaa w n).setRow b (putCells (fun v=>v) 0 (flatK (gy p) qS (xs.mergeSort fun x y=>!(ltOf cf) y x).toArray) cur):=om (w:=aaa w n) g2 _;have e4:w'=abu ((aaa w n).setRow b (putCells (fun v=>v) 0 (flatK (gy p) qS (xs.mergeSort fun x y=>!(ltOf cf) y x).toArray) cur)) os:=by
      rw [e2];unfold sortWorldK;rw [e3]
     clear e2 e3 key;generalize Pq:(xs.mergeSort fun x y=>!(ltOf cf) y x)=ys at e4;have Yc:ys.length=es.length:=by rw [← Pq,abZ,hlen]
     have hso:gD p cf es=ys.map p.enc:=by unfold gD; rw [Pp,Pq]
     rw [hso];have hfy:(flatK (gy p) qS ys.toArray).toList=ys.flatMap (gy p):=by rw [Bw (zu hC)]
     have aaO:(flatK (gy p) qS ys.toArray).size=es.length * qS:=by rw [size_flatK]; simp [Yc]
     have G4:(putCells (fun v=>v) 0 (flatK (gy p) qS ys.toArray) cur).size=cur.size:=by simp [putCells]
     have Fb:(putCells (fun v=>v) 0 (flatK (gy p) qS ys.toArray) cur).toList.take (es.length * qS)=ys.flatMap (gy p):=by
      rw [← hfy];apply abS;intro t;rw [abP];by_cases ht:t < es.length * qS
      ·have h1:t < (flatK (gy p) qS ys.toArray).size:=by rw [aaO]; exact ht
       have h2:t < cur.size:=by rw [g5]; omega
       rw [if_pos ht,aax,aax,aaR h1,aaR (by rw [G4]; exact h2)];simp only [putCells,acb,ab7,aa5,h1,and_self,if_true,aci];rw [getElem!_pos (flatK (gy p) qS ys.toArray) t h1]
      ·rw [if_neg ht,aa6 (by rw [abN,aaO]; omega)]
     generalize putCells (fun v=>v) 0 (flatK (gy p) qS ys.toArray) cur=cur2 at e4 G4 Fb;have F9:∀ v∈ys.flatMap (gy p),v.oneCell'=true:=fun v hv=>by
      obtain ⟨y,_,hy⟩:=List.mem_flatMap.1 hv;obtain ⟨a,ha,rfl⟩:=abK.1 hy;exact zr (hC.G3 y a ha)
     have qj:dM qS (ys.map p.enc):=fun a ha=>by
      obtain ⟨y,_,rfl⟩:=abK.1 ha;refine ⟨hC.size y,?_⟩;obtain ⟨cs,ql⟩:=hC.agg y;rw [ql]; rfl
     have ej:aK R w (aq (ys.map p.enc)) (ys.flatMap (gy p)):=by
      rw [← sd];exact qD (UJ ys)
     have cR:bl E R w (fun _=>0) ⟨[],[],G,[],none,0⟩ (⟨#[],[]⟩:Act):=
      ⟨hg,⟨fun k cs h=>by simp [dy] at h,fun k k' cs cs' h=>by simp [dy] at h⟩,fun i hi=>absurd rfl hi,rfl,trivial⟩
     obtain ⟨k1,k2⟩:=cR.B5 (es':=ys.map p.enc) hid b6 g2 (by rw [aaH,Yc]) qj G4 ej F9 Fb;have EH:Below (w.setRow b cur2).heap.size (w.setRow b cur2) w':=by
      rw [e4];refine ⟨rfl,rfl,rfl,?_,fun i hi=>?_⟩
      ·show _≤((w.setRow b cur2).heap++os).size;rw [abU]; exact ab4 _ _
      ·show ((w.setRow b cur2).heap++os)[i]?=_;rw [aaM hi]
     exact ⟨.bk [],_,R,⟨rfl,rfl⟩,Rel.bk .nil,Below.JI EH k1.g hE,k2.trans (Below.Bs EH k1.g.wf)⟩
   ·cases h
  ·cases h
 ·cases h
end
end Go.Am
namespace Go.Am
open Go Go.RowKit Go.Proofs Go.Shelf Go.Sort
def isInt:AV→Bool
 |.int .i64 _=>true
 |_=>false
def CL:AV→Int
 |.int _ n=>n
 |_=>0
def kX (n:Int):AV:=.int .i64 n
def Bz (es:List AV):List AV:=((es.map CL).mergeSort fun x y=>decide (x≤y)).map kX
def CM:List AV→Bool
 |[]=>true
 |a :: l=>isInt a&&CM l
def G9 (el:TypeId):List AV→List GO→Option (Bool × AV × List GO)
 |[.eu id f off sz1 len],G=>match nth G id with
  |some (.dV es qS Sr)=>if abY off 0&&abY sz1 1&&abY qS 1&&abY Sr el then
    some (decide (f=es.length)&&decide (len=es.length)&&decide (es.length≤140737488355328)&&CM es,.bk [],aF G id (.dV (Bz es) 1 el)) else none
  |_=>none
 |_,_=>none
theorem zC:∀ es:List AV,CM es=true→es=(es.map CL).map kX
 |[],_=>rfl
 |a :: es,h=>by
  simp only [CM,aa3] at h;have ih:=zC es h.2;have ha:a=kX (CL a):=by
   have:=h.1;unfold isInt at this;split at this
   ·rfl
   ·cases this
  rw [aab,aab,← ih,← ha]
theorem oo:∀ zs:List Int,aq (zs.map kX)=zs.map kX
 |[]=>rfl
 |z :: zs=>by
  show [kX z]++aq (zs.map kX)=kX z :: zs.map kX;rw [oo zs];rfl
theorem uM:∀ zs:List Int,(zs.map kX).map EG=zs.map (aaZ .i64)
 |[]=>rfl
 |z :: zs=>by rw [aab,aab,uM zs]; rfl
section
variable {E:Env} {ρ:Ren}
theorem NO (L:Lays.n189 E.P ρ) (hp:Plain E.P (ρ.f 189)) (hE:E.lo=0) {el:TypeId} :
  ∀ (args:List AV) (G:List GO) (r:AV) (G':List GO),G9 el args G=some (true,r,G')→cB E (ρ.f 189) args G (fun r' Bn=>r'=r∧Bn=G'):=by
 intro args G r G' h;unfold G9 at h;split at h
 ·rename_i G1 oid f off sz1 len;split at h
  ·rename_i es qS Sr hid;split at h
   ·rename_i cL;simp only [aa3] at cL;obtain ⟨⟨⟨q2,q3⟩,q4⟩,q5⟩:=cL;have q2:=aaB q2;have q3:=aaB q3;have q4:=aaB q4;have q5:=aaB q5;subst q2; subst q3; subst q4; subst q5;injection h with h;injection h with h1 h;injection h with h2 h3;subst h2; subst h3;simp only [aa3,decide_eq_true_eq] at h1;obtain ⟨⟨⟨hf,tE⟩,hbig⟩,wh⟩:=h1;refine ⟨hp,fun R w cs hg hl=>callsIn_wide.2 ?_⟩;cases hl with
    | @cons _ cv _ _ r1 hl=>
    cases hl;by_cases he:es=[]
    ·subst he;obtain ⟨pa,cap,rfl⟩:∃ pa cap,cv=.slice pa 0 cap:=by
      have tE:len=0:=tE;subst tE;cases r1 with
      |iV _ _=>exact ⟨_,_,rfl⟩
      |eu _ _ _=>exact ⟨_,_,rfl⟩
     refine (Any.slices_Sort_int_none (P:=E.P) (ρ:=ρ) L pa cap w).mono fun e w' ⟨e1,e2⟩=>?_
     subst e1; subst e2;have NH:Bz []=[]:=by simp [Bz]
     have hG:aF G oid (.dV (Bz []) 1 Sr)=G:=by rw [NH]; exact ju hid
     rw [hG];exact ⟨.bk [],G,R,⟨rfl,rfl⟩,Rel.bk .nil,hg,Step.refl _ _ _ _⟩
    ·have pn:0 < es.length:=ace.2 he;cases r1 with
     |iV _ _=>omega
     | @eu _ _ _ _ _ cap b o' ro b6 eJ hU=>
     subst hf; subst tE;obtain ⟨b',c',cur,vs,rfl,g1,g2,g3,g4,g5,g6,g7,g8,g9⟩:=lH hg hid b6 (fun k=>by subst k; exact eJ);obtain ⟨rfl,HI,tS⟩:=eJ.2 rfl;have oP:o'=0:=by
      rcases tS with tS|tS
      ·rw [tS,ach]
      ·omega
     subst oP
     -- the elements by their leaves
     have vZ:=zC es wh;generalize Pp:es.map CL=xs at vZ;have hlen:xs.length=es.length:=by rw [← Pp,aaH]
     have UJ:∀ (ys:List Int),∀ a∈aq (ys.map kX),gj a=true:=fun ys a ha=>by
      rw [oo] at ha;obtain ⟨y,_,rfl⟩:=abK.1 ha;rfl
     have Vv:vs=xs.map (aaZ .i64):=by
      rw [vZ] at g7;rw [uL (UJ xs) g7,oo,uM]
     have hd:(xs.toArray).size=es.length:=by simpa using hlen
     have jm:cur.toList.length=c':=by rw [show cur.toList.length=cur.size from abN,g5,Nat.mul_one]
     have hH:Holds (aaZ .i64) w b 0 xs.toArray:=by
      intro j hj;rw [hd] at hj;refine ⟨?_,?_⟩
      ·have WR:j < xs.length:=by omega
       have hj3:j < xs.toArray.size:=by rw [hd]; exact hj
       rw [getElem!_pos xs.toArray j hj3,aa5,cell_of_row w b j cur Sr (0,0) g2];have h1:cur[j]?=vs[j]?:=by
        rw [← g9,abP,if_pos (by omega),← aax]
       rw [h1,Vv,abT,aac WR];rfl
      ·unfold World.frozen?;rw [g2];simp
     have key:=Any.slices_Sort_int L b 0 cap xs w hH (bi g2) (by omega);rw [hlen] at key;refine key.mono fun e w' ⟨e1,n,os,e2⟩=>?_
     subst e1
     -- the world behind
     have e3:putRow (aaZ .i64) (aaa w n) b 0 (xs.mergeSort fun x y=>decide (x≤y)).toArray=(aaa w n).setRow b (putCells (aaZ .i64) 0 (xs.mergeSort fun x y=>decide (x≤y)).toArray cur):=om (w:=aaa w n) g2 _;have e4:w'=abu ((aaa w n).setRow b (putCells (aaZ .i64) 0 (xs.mergeSort fun x y=>decide (x≤y)).toArray cur)) os:=by
      rw [e2,e3]
     clear e2 e3 key;generalize Pq:(xs.mergeSort fun x y=>decide (x≤y))=ys at e4;have Yc:ys.length=es.length:=by rw [← Pq,abZ,hlen]
     have hso:Bz es=ys.map kX:=by unfold Bz; rw [Pp,Pq]
     rw [hso];have G4:(putCells (aaZ .i64) 0 ys.toArray cur).size=cur.size:=by simp [putCells]
     have Fb:(putCells (aaZ .i64) 0 ys.toArray cur).toList.take (es.length * 1)=ys.map (aaZ .i64):=by
      apply abS;intro t;rw [abP,Nat.mul_one];by_cases ht:t < es.length
      ·have h1:t < ys.length:=by omega
       have h2:t < cur.size:=by rw [g5]; omega
       have h3:t < ys.toArray.size:=by simpa using h1
       rw [if_pos ht,aax,aaR (by rw [G4]; exact h2),abT,aac h1];simp only [putCells,acb,ab7,aa5,h3,and_self,if_true,aci];rw [getElem!_pos ys.toArray t h3];rfl
      ·rw [if_neg ht,aa6 (by rw [aaH]; omega)]
     generalize putCells (aaZ .i64) 0 ys.toArray cur=cur2 at e4 G4 Fb;have F9:∀ v∈ys.map (aaZ .i64),v.oneCell'=true:=fun v hv=>by
      obtain ⟨y,_,rfl⟩:=abK.1 hv;rfl
     have qj:dM 1 (ys.map kX):=fun a ha=>by
      obtain ⟨y,_,rfl⟩:=abK.1 ha;exact ⟨rfl,rfl⟩
     have ej:aK R w (aq (ys.map kX)) (ys.map (aaZ .i64)):=by
      rw [← uM];have:=qD (R:=R) (w:=w) (UJ ys);rw [oo] at this ⊢;exact this
     have cR:bl E R w (fun _=>0) ⟨[],[],G,[],none,0⟩ (⟨#[],[]⟩:Act):=
      ⟨hg,⟨fun k cs h=>by simp [dy] at h,fun k k' cs cs' h=>by simp [dy] at h⟩,fun i hi=>absurd rfl hi,rfl,trivial⟩
     obtain ⟨k1,k2⟩:=cR.B5 (es':=ys.map kX) hid b6 g2 (by rw [aaH,Yc]) qj G4 ej F9 Fb;have EH:Below (w.setRow b cur2).heap.size (w.setRow b cur2) w':=by
      rw [e4];refine ⟨rfl,rfl,rfl,?_,fun i hi=>?_⟩
      ·show _≤((w.setRow b cur2).heap++os).size;rw [abU]; exact ab4 _ _
      ·show ((w.setRow b cur2).heap++os)[i]?=_;rw [aaM hi]
     exact ⟨.bk [],_,R,⟨rfl,rfl⟩,Rel.bk .nil,Below.JI EH k1.g hE,k2.trans (Below.Bs EH k1.g.wf)⟩
   ·cases h
  ·cases h
 ·cases h
end
end Go.Am
namespace Go.Am
open Go Go.RowKit Go.Proofs Go.Shelf Go.Lib
def NP (sz oZ:Nat) (el:TypeId):List AV→List GO→Option (Bool × AV × List GO)
 |[.list .nil _ [],.int .i64 n],G=>some (decide (0≤n∧n * (oZ:Int)≤140737488355328∧n≤4611686018427387904),.eu G.length 0 0 sz 0,G++[.dV [] sz el])
 |_,_=>none
section
variable {E:Env} {ρ:Ren}
theorem NQ (L:Lays8.n4 E.P ρ) (hp:Plain E.P (ρ.f 4)) (i0:TypeInfo) (z:Value) (hi0:E.P.info? (ρ.t 25)=some i0) (hz0:i0.zero=some z) (NH:0 < i0.size) (hzs:z.cells.size=i0.size) :
  ∀ (args:List AV) (G:List GO) (r:AV) (G':List GO),NP i0.size i0.bytes (ρ.t 25) args G=some (true,r,G')→cB E (ρ.f 4) args G (fun r' Bn=>r'=r∧Bn=G'):=by
 intro args G r G' h;unfold NP at h;split at h
 ·rename_i G1 sz0 n;injection h with h;injection h with h1 h;injection h with h2 h3;subst h2; subst h3;have h1:=of_decide_eq_true h1;obtain ⟨BX,Va,ajt⟩:=h1;refine ⟨hp,fun R w cs hg hl=>callsIn_wide.2 ?_⟩;cases hl with
  | @cons _ cv _ _ r1 hl=>
  cases hl with
  | @cons _ nv _ _ r2 hl=>
  cases hl;cases r2;have E8:∃ c0,cv=.slice none 0 c0∧c0=0:=by
   cases r1 with
   |kz=>exact ⟨_,rfl,rfl⟩
   |list _ _ _ hk=>exact hk.elim
  obtain ⟨c0,rfl,rfl⟩:=E8;obtain ⟨m,rfl⟩:∃ m:Nat,n=(m:Int):=⟨n.toNat,by omega⟩;have cR:bl E R w (fun _=>0) ⟨[],[],G,[],none,0⟩ (⟨#[],[]⟩:Act):=
   ⟨hg,⟨fun k cs h=>by simp [dy] at h,fun k k' cs cs' h=>by simp [dy] at h⟩,fun i hi=>absurd rfl hi,rfl,trivial⟩
  by_cases hm:m=0
  ·subst hm;refine (Any8.slices_Grow_room (P:=E.P) (ρ:=ρ) L none 0 0 0 w (abq _) (by omega) (by omega) (by omega)).mono fun e w' ⟨e1,e2⟩=>?_
   have e2:=e2.symm;subst e1; subst e2;obtain ⟨k1,k2⟩:=cR.HP (i0.size+65536) (ρ.t 25);have hn:nth (hZ R).obj G.length=some .bO:=by rw [← hg.len]; exact eM _ _
   have ev:Vb G.length (i0.size+65536)=.eu G.length 0 0 i0.size 0:=by
    unfold Vb;rw [ab9 (Nat.le_add_left _ _),Nat.add_sub_cancel];rfl
   have eo:Lf (i0.size+65536) (ρ.t 25)=.dV [] i0.size (ρ.t 25):=by
    unfold Lf;rw [ab9 (Nat.le_add_left _ _),Nat.add_sub_cancel];rfl
   have hv:Rel (hZ R) w (.eu G.length 0 0 i0.size 0) (.slice none 0 0):=by
    rw [← ev]; exact HO hn
   have NR:=k1.g;have eG:((⟨[],[],G,[],none,0⟩:St).dQ (Lf (i0.size+65536) (ρ.t 25))).G=G++[.dV [] i0.size (ρ.t 25)]:=by
    show G++[Lf (i0.size+65536) (ρ.t 25)]=_;rw [eo]
   rw [eG] at NR;exact ⟨_,_,hZ R,⟨rfl,rfl⟩,hv,NR,k2⟩
  ·have WS:(0+m) * i0.bytes≤140737488355328:=by
    rw [aa5];have:((m * i0.bytes:Nat):Int)≤140737488355328:=by rw [Int.natCast_mul]; exact Va
    omega
   have key:=Any8.slices_Grow_grow (P:=E.P) (ρ:=ρ) L i0 z hi0 hz0 NH none 0 0 m [] w (abq _) (by omega) WS (by omega) (by simp) (fun _=>rfl) (fun a h=>by cases h);refine key.mono fun e w' ⟨e1,e2⟩=>?_
   have mz:=grownCap_ge w (0+m) 0 (ρ.t 25);have YW:=grownCap_le_maxLen w (0+m) 0 (ρ.t 25) (by unfold maxLen; omega);generalize grownCap w (0+m) 0 (ρ.t 25)=cap at *;subst e1; subst e2;obtain ⟨d1,d2⟩:=cR.drew;have eY:(([]:List Value).toArray++aaC z.cells (0+m - 0)++aaC z.cells (cap - (0+m))).size=cap * i0.size:=by
    simp only [abU,List.size_toArray,size_zeroCells,hzs,List.length_nil,aa5,aci,← Nat.add_mul];congr 1;omega
   have r1:=d1.FK (cur:=([]:List Value).toArray++aaC z.cells (0+m - 0)++aaC z.cells (cap - (0+m))) (vs:=[]) (es:=[]) (elem:=ρ.t 25) (sz:=i0.size) (cap:=cap) (ab7 _) YW eY (fun e he=>by cases he) .nil (fun v hv=>by cases hv) (by simp);have st:=d2.trans (cZ d1 (.cells (([]:List Value).toArray++aaC z.cells (0+m - 0)++aaC z.cells (cap - (0+m))) (ρ.t 25)) (.tok 0 w.drew.heap.size cap) (by exact fun _ h=>h));have hv:Rel (R.add (.tok 0 w.heap.size cap)) (w.drew.alloc (.cells (([]:List Value).toArray++aaC z.cells (0+m - 0)++aaC z.cells (cap - (0+m))) (ρ.t 25))) (.eu G.length 0 0 i0.size 0) (.slice (some ⟨w.heap.size,0,none⟩) 0 cap):=
    Rel.eu (gq cR _) ⟨abq _,fun _=>⟨rfl,aa5 _,.inl (ach _).symm⟩⟩ (ab7 _)
   exact ⟨_,_,_,⟨rfl,rfl⟩,hv,r1.g,st⟩
 ·cases h
end
end Go.Am
namespace Go.Am
open Go Go.Sort
section
variable {α:Type} [DecidableEq α] {lt:α→α→Bool}
def Pb (lt:α→α→Bool) (l:List α):Prop:=l.Pairwise fun x y=>lt x y=true
omit [DecidableEq α] in
theorem CR (hw:SWO lt):∀ {a b:List α},Pb lt a→Pb lt b→(∀ x,x∈a↔x∈b)→a=b
 |[],[],_,_,_=>rfl
 |[],y :: b,_,_,h=>by have:=(h y).2 (by simp); simp at this
 |x :: a,[],_,_,h=>by have:=(h x).1 (by simp); simp at this
 |x :: a,y :: b,ha,hb,h=>by
  have ha':=ab0.1 ha;have gL:=ab0.1 hb;have vP:x=y:=by
   have h1:=(h x).1 (by simp);have h2:=(h y).2 (by simp);rcases aa9.1 h1 with h1|h1
   ·exact h1
   ·rcases aa9.1 h2 with h2|h2
    ·exact h2.symm
    ·have l1:=gL.1 x h1;have l2:=ha'.1 y h2;have:=hw.trans _ _ _ l1 l2;rw [hw.irrefl] at this;cases this
  subst vP;congr 1;refine CR hw ha'.2 gL.2 fun z=>?_
  constructor
  ·intro hz;rcases aa9.1 ((h z).1 (by simp [hz])) with rfl|h2
   ·have:=ha'.1 z hz;rw [hw.irrefl] at this;cases this
   ·exact h2
  ·intro hz;rcases aa9.1 ((h z).2 (by simp [hz])) with rfl|h2
   ·have:=gL.1 z hz;rw [hw.irrefl] at this;cases this
   ·exact h2
def zL (d:α) (l:List α):Nat→List α
 |0=>[]
 |m+1=>if 0 < m∧l.getD m d=l.getD (m - 1) d then zL d l m else zL d l m++[l.getD m d]
theorem tK (d:α) (l:List α):∀ m,m≤l.length→(∀ k,0 < k→k < m→l.getD k d≠l.getD (k - 1) d)→zL d l m=l.take m
 |0,_,_=>by simp [zL]
 |m+1,hm,h=>by
  have e:l.getD m d=l[m]:=by simp [show m < l.length by omega]
  unfold zL;rw [if_neg (fun c=>h m c.1 (by omega) c.2),tK d l m (by omega) fun k h1 h2=>h k h1 (by omega),e,List.take_succ,aac (by omega)];rfl
theorem CS (d:α) (l:List α):∀ m,m≤l.length→∀ x,x∈zL d l m↔x∈l.take m
 |0,_,x=>by simp [zL]
 |m+1,hm,x=>by
  have e:l.getD m d=l[m]:=by simp [show m < l.length by omega]
  have ih:=CS d l m (by omega);have et:l.take (m+1)=l.take m++[l[m]]:=by rw [List.take_succ,aac (by omega)]; rfl
  unfold zL;rw [et];split
  ·rename_i hc;rw [ih,abJ,ab1];constructor
   ·exact .inl
   ·rintro (h|rfl)
    ·exact h
    ·have e2:l.getD (m - 1) d=l[m - 1]:=by simp [show m - 1 < l.length by omega]
     rw [e,e2] at hc;rw [hc.2,abO];exact ⟨m - 1,by omega,rfl⟩
  ·rw [abJ,abJ,ih,e]
theorem Iz (hw:SWO lt) (ht:∀ x y,lt x y=false→lt y x=false→x=y) (d:α) (l:List α) (hs:l.Pairwise fun x y=>lt y x=false):∀ m,m≤l.length→Pb lt (zL d l m)
 |0,_=>acn
 |m+1,hm=>by
  have ih:=Iz hw ht d l hs m (by omega);have e:l.getD m d=l[m]:=by simp [show m < l.length by omega]
  unfold zL;split
  ·exact ih
  ·rename_i hc;refine acd.2 ⟨ih,List.pairwise_singleton _ _,fun x hx y hy=>?_⟩;rw [ab1] at hy;subst hy;have oJ:=(CS d l m (by omega) x).1 hx;obtain ⟨k,hk,rfl⟩:=abO.1 oJ;have NR:k < m:=by omega
   rw [e] at hc ⊢;have h1:lt l[m] l[k]=false:=aba.1 hs k m (by omega) (by omega) NR;cases hl:lt l[k] l[m] with
   |true=>rfl
   |false=>
    exfalso;have lG:=ht _ _ hl h1
    -- the one before is between
    have h0:0 < m:=by omega
    have e2:l.getD (m - 1) d=l[m - 1]:=by simp [show m - 1 < l.length by omega]
    rw [e2] at hc;apply hc;refine ⟨h0,?_⟩;have h2:lt l[m] l[m - 1]=false:=aba.1 hs (m - 1) m (by omega) (by omega) (by omega);refine ht _ _ h2 ?_;by_cases hkm:k=m - 1
    ·subst hkm; exact hl
    ·have h3:lt l[m - 1] l[k]=false:=aba.1 hs k (m - 1) (by omega) (by omega) (by omega);rw [← lG];exact h3
def uR (lt:α→α→Bool) (d:α) (k:α) (l:List α):List α:=
 let at_:=(l.takeWhile fun x=>lt x k).length
 if at_=l.length∨l.getD at_ d≠k then l.take at_++[k]++l.drop at_ else l
omit [DecidableEq α] in
theorem gX (p:α→Bool):∀ l:List α,(∀ x∈l.take (l.takeWhile p).length,p x=true)∧∀ h:(l.takeWhile p).length < l.length,p l[(l.takeWhile p).length]=false
 |[]=>by simp
 |a :: l=>by
  obtain ⟨h1,h2⟩:=gX p l;by_cases ha:p a=true
  ·simp only [acf,ha,if_true,abW,List.take_succ_cons,aa9,forall_eq_or_imp,true_and,List.getElem_cons_succ];exact ⟨h1,fun h=>h2 (by omega)⟩
  ·simp only [acf,if_neg ha,List.length_nil,List.take_zero];refine ⟨by simp,fun _=>?_⟩;rw [List.getElem_cons_zero];exact Bool.eq_false_iff.2 ha
theorem N2 (d:α) (k:α) (l:List α) (x:α):x∈uR lt d k l↔x=k∨x∈l:=by
 unfold uR;simp only;have hle:(l.takeWhile fun x=>lt x k).length≤l.length:=(abV _).length_le;generalize (l.takeWhile fun x=>lt x k).length=a at *;have e:x∈l↔x∈l.take a∨x∈l.drop a:=by rw [← abJ,List.take_append_drop]
 split
 ·simp only [abJ,ab1];rw [e];constructor
  ·rintro ((h|h)|h)
   ·exact .inr (.inl h)
   ·exact .inl h
   ·exact .inr (.inr h)
  ·rintro (h|h|h)
   ·exact .inl (.inr h)
   ·exact .inl (.inl h)
   ·exact .inr h
 ·rename_i h;rw [not_or,Decidable.not_not] at h;constructor
  ·exact .inr
  ·rintro (rfl|h2)
   ·have hl:a < l.length:=by omega
    have e2:l.getD a d=l[a]:=by simp [hl]
    rw [e2] at h;rw [← h.2];exact List.getElem_mem hl
   ·exact h2
theorem N3 (hw:SWO lt) (ht:∀ x y,lt x y=false→lt y x=false→x=y) (d:α) (k:α) (l:List α) (hl:Pb lt l):Pb lt (uR lt d k l):=by
 unfold uR;simp only;obtain ⟨h1,h2⟩:=gX (fun x=>lt x k) l;have hle:(l.takeWhile fun x=>lt x k).length≤l.length:=(abV _).length_le;generalize (l.takeWhile fun x=>lt x k).length=a at *;have hp:=aba.1 hl;split
 ·rename_i hc;have I0:∀ y∈l.drop a,lt k y=true:=by
   intro y hy;obtain ⟨j,hj,rfl⟩:=List.getElem_of_mem hy;rw [List.length_drop] at hj;rw [List.getElem_drop];have Az:a < l.length:=by omega
   have e2:l.getD a d=l[a]:=by simp [Az]
   have hka:lt k l[a]=true:=by
    cases hh:lt k l[a] with
    |true=>rfl
    |false=>
     have:=ht _ _ (h2 Az) hh;rcases hc with hc|hc
     ·omega
     ·rw [e2] at hc; exact absurd this hc
   by_cases h0:j=0
   ·subst h0; simpa using hka
   ·exact hw.trans _ _ _ hka (hp a (a+j) Az (by omega) (by omega))
  unfold Pb;rw [List.append_assoc,acd];refine ⟨hl.take,?_,fun x hx y hy=>?_⟩
  ·rw [aca,ab0];exact ⟨I0,hl.drop⟩
  ·rw [aca] at hy;have hxk:=h1 x hx;rcases aa9.1 hy with rfl|hy
   ·exact hxk
   ·exact hw.trans _ _ _ hxk (I0 y hy)
 ·exact hl
def J5 (lt:α→α→Bool) (d:α) (l:List α):List α:=l.foldl (fun s k=>uR lt d k s) []
theorem BC (hw:SWO lt) (ht:∀ x y,lt x y=false→lt y x=false→x=y) (d:α) (l:List α):Pb lt (J5 lt d l)∧∀ x,x∈J5 lt d l↔x∈l:=by
 have gen:∀ (l s:List α),Pb lt s→Pb lt (l.foldl (fun s k=>uR lt d k s) s)∧∀ x,x∈l.foldl (fun s k=>uR lt d k s) s↔x∈s∨x∈l:=by
  intro l
  induction l with
  |nil=>intro s hs; exact ⟨hs,fun x=>by simp⟩
  |cons k l ih=>
   intro s hs;rw [List.foldl_cons];obtain ⟨h1,h2⟩:=ih _ (N3 hw ht d k s hs);refine ⟨h1,fun x=>?_⟩;rw [h2,N2,aa9];constructor
   ·rintro ((h|h)|h)
    ·exact .inr (.inl h)
    ·exact .inl h
    ·exact .inr (.inr h)
   ·rintro (h|h|h)
    ·exact .inl (.inr h)
    ·exact .inl (.inl h)
    ·exact .inr h
 obtain ⟨h1,h2⟩:=gen l [] acn;exact ⟨h1,fun x=>by rw [show J5 lt d l=l.foldl (fun s k=>uR lt d k s) [] from rfl,h2]; simp⟩
theorem N4 (d:α) (k:α) (l:List α):(uR lt d k l).length≤l.length+1:=by
 unfold uR;simp only;split
 ·simp; omega
 ·omega
omit [DecidableEq α] in
theorem EM (hw:SWO lt) (l:List α):(l.mergeSort fun x y=>!lt y x).Pairwise (fun x y=>lt y x=false)∧∀ x,x∈(l.mergeSort fun x y=>!lt y x)↔x∈l:=by
 refine ⟨?_,fun x=>(List.mergeSort_perm l _).mem_iff⟩;have h:=List.pairwise_mergeSort (le:=fun x y=>!lt y x) (fun a b c h1 h2=>by
  simp only [Bool.not_eq_true'] at h1 h2 ⊢;exact hw.ntrans _ _ _ h2 h1) (fun a b=>by
  simp only [Bool.or_eq_true,Bool.not_eq_true'];cases h1:lt b a with
  |false=>exact .inl rfl
  |true=>
   right;cases h2:lt a b with
   |false=>rfl
   |true=>
    have:=hw.trans _ _ _ h1 h2;rw [hw.irrefl] at this;cases this) l
 exact h.imp fun hab=>by simpa using hab
theorem Xw (hw:SWO lt) (ht:∀ x y,lt x y=false→lt y x=false→x=y) (d:α) (l:List α):zL d (l.mergeSort fun x y=>!lt y x) l.length=J5 lt d l:=by
 obtain ⟨s1,s2⟩:=EM hw l;have hlen:(l.mergeSort fun x y=>!lt y x).length=l.length:=abZ _;obtain ⟨i1,i2⟩:=BC hw ht d l;refine CR hw (Iz hw ht d _ s1 _ (ack hlen.symm)) i1 fun x=>?_
 rw [CS d _ _ (ack hlen.symm),List.take_of_length_le (ack hlen),s2,i2]
end
theorem BD {V X S:Type} {rd:V→Option (V ⊕ X)} (m:Nat) (E:S→Nat→V) (P:S→Nat→Prop) (Q:X→Prop)
  (h:∀ s k,k < m→P s k→∃ s',rd (E s k)=some (.inl (E s' (k+1)))∧P s' (k+1))
  (h0:∀ s,P s m→∃ x,rd (E s m)=some (.inr x)∧Q x) :
  ∀ n s k,k≤m→m < n+k→P s k→∃ x,aH rd n (E s k)=some x∧Q x
 |0,s,k,hk,hn,_=>by omega
 |n+1,s,k,hk,hn,hP=>by
  rw [bF];by_cases bZ:k < m
  ·obtain ⟨s',e,hP'⟩:=h s k bZ hP;rw [e];exact BD m E P Q h h0 n s' (k+1) bZ (by omega) hP'
  ·obtain rfl:k=m:=by omega
   obtain ⟨x,e,hQ⟩:=h0 s hP;rw [e];exact ⟨x,rfl,hQ⟩
theorem BE {V X S:Type} {rd:V→Option (V ⊕ X)} (m:Nat) (E:S→Nat→V) (P:S→Nat→Prop) (Q:X→Prop)
  (h:∀ s k,k < m→P s k→(∃ s',rd (E s k)=some (.inl (E s' (k+1)))∧P s' (k+1))∨∃ x,rd (E s k)=some (.inr x)∧Q x)
  (h0:∀ s,P s m→∃ x,rd (E s m)=some (.inr x)∧Q x) :
  ∀ n s k,k≤m→m < n+k→P s k→∃ x,aH rd n (E s k)=some x∧Q x
 |0,s,k,hk,hn,_=>by omega
 |n+1,s,k,hk,hn,hP=>by
  rw [bF];by_cases bZ:k < m
  ·rcases h s k bZ hP with ⟨s',e,hP'⟩|⟨x,e,hQ⟩
   ·rw [e];exact BE m E P Q h h0 n s' (k+1) bZ (by omega) hP'
   ·rw [e];exact ⟨x,rfl,hQ⟩
  ·obtain rfl:k=m:=by omega
   obtain ⟨x,e,hQ⟩:=h0 s hP;rw [e];exact ⟨x,rfl,hQ⟩
theorem S6 {α:Type} (l:List α) (p:α→Bool) (d:α):(match (List.range l.length).find? fun j=>!p (l.getD j d) with | some j=>(j:Int) | none=>(l.length:Int))=((l.takeWhile p).length:Int):=by
 obtain ⟨h1,h2⟩:=gX p l;have hle:(l.takeWhile p).length≤l.length:=(abV _).length_le;generalize (l.takeWhile p).length=a at *;have af3:∀ j,j < a→p (l.getD j d)=true:=fun j hj=>by
  have e:l.getD j d=l[j]:=by simp [show j < l.length by omega]
  rw [e];exact h1 _ (abO.2 ⟨j,by omega,rfl⟩)
 cases hf:(List.range l.length).find? fun j=>!p (l.getD j d) with
 |none=>
  rw [List.find?_eq_none] at hf;have:¬ a < l.length:=fun bZ=>by
   have e:l.getD a d=l[a]:=by simp [bZ]
   have:=hf a (List.mem_range.2 bZ);rw [e,h2 bZ] at this;simp at this
  show (l.length:Int)=(a:Int);omega
 |some j=>
  have hj:=List.mem_range.1 (List.mem_of_find?_eq_some hf);have hp:=List.find?_some hf;have hja:a≤j:=by
   by_cases hc:a≤j
   ·exact hc
   ·have:=af3 j (by omega);rw [this] at hp;simp at hp
  have Xx:=(List.find?_eq_some_iff_getElem.1 hf).2;obtain ⟨i,hi,hij,oK⟩:=Xx;rw [List.getElem_range] at hij;subst hij;show (i:Int)=(a:Int);by_cases hc:i=a
  ·rw [hc]
  ·have hai:a < i:=by omega
   have:=oK a hai;rw [List.getElem_range] at this;have e:l.getD a d=l[a]:=by simp [show a < l.length by omega]
   rw [e,h2 (by omega)] at this;simp at this
end Go.Am
