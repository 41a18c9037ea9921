/- The abstract machine: what it does is what the model does: slices that are cut,made,measured. -/
import Derived.Test.YtldcljfjjoidhaaGreatDoorAmKB
set_option linter.all false
open Array renaming length_toList→abx, getElem?_toList→abS
open Bool renaming and_eq_true→abi
open Go.Builtin renaming len_→abp, min2→abK
open Go.Instr renaming sliceAt→abq, slice→abv, sureAddr→abG, sliceBound→abI, makeSlice→abO
open Go.Op renaming bytesLess→abV
open Go.Result renaming andThen_ok→aad
open Go.Sem renaming run_bind→aau, run_pure→abt
open List renaming mem_of_mem_take→aaO, replicate→abn, length_nil→abo, mem_of_mem_drop→abr, length_take→abu, getElem?_take→aby, drop_of_length_le→abz, length_append→abC, length_drop→abE, nil_append→abF, foldlM_cons→abJ, getElem?_eq_getElem→abL, mem_append→abP, length_replicate→abT, toList_toArray→abU
open Nat renaming eq_of_beq_eq_true→aao, le_refl→aaB, mul_le_mul_right→abj, succ_mul→abw, le_succ_of_le→abA, le_zero_eq→abB, add_sub_cancel_left→abD, zero_add→abM, add_mul→abQ, le_of_ble_eq_true→abR, zero_mul→abX
open Ne renaming symm→abH
open Option renaming map_none→aaY, map_some→abN
namespace Go.Am
open Go
section ops
variable {E:Env} {R:ak} {w:World} {β:Nat→Nat} {s:St} {a:Act} {o:Oper}
def XW (R:ak) (w:World) (β:Nat→Nat):Option SV→Option Value→Prop
 |none,none=>True
 |some x,some c=>si R w β x c
 |_,_=>False
theorem Cp {y y' n:Nat} {x:SV} {c:Value} (hx:si R w β x c) (hb:Dv y x=some (true,n)) (hy:y≤y') (code:BoundsCode) :
  (abI c y' code).run E.P w=.ok n w∧n≤y:=by
 unfold Dv at hb;split at hb
 ·rename_i k m;injection hb with hb;injection hb with h1 h2;subst h2;obtain ⟨h0,h3⟩:=of_decide_eq_true h1;have so:Rel R w (.int k m) c:=hx;cases so;exact ⟨run_sliceBound (P:=E.P) w k m y' code h0 (by omega),by omega⟩
 ·cases hb
theorem fw (isS:Bool) {len cap l h:Nat} (Jr:len≤cap) {lo hi:Option SV} {lv hv:Option Value} (hl:XW R w β lo lv) (hh:XW R w β hi hv) (hb:Hn len lo hi=some (true,l,h)) :
  (Instr.sliceBounds isS len cap lv hv none).run E.P w=.ok (l,h,cap) w∧l≤h∧h≤len:=by
 unfold Hn at hb;split at hb
 ·cases hb
 ·rename_i c1 h' nX;split at hb
  ·cases hb
  ·rename_i c2 l' XX;injection hb with hb;injection hb with hc hb;injection hb with e1 e2;subst e1; subst e2;simp only [abi] at hc;obtain ⟨rfl,rfl⟩:=hc;have H:∃ _:True,(match hv with | some v=>abI v cap (if isS=true then .sliceAcap else .sliceAlen) | none=>pure len).run E.P w=.ok h' w∧h'≤len:=by
    refine ⟨trivial,?_⟩;cases hi with
    |none=>cases hv with
     |none=>simp at nX; subst nX; exact ⟨rfl,aaB _⟩
     |some v=>exact hh.elim
    |some x=>cases hv with
     |none=>exact hh.elim
     |some v=>exact Cp (E:=E) hh nX Jr _
   have L:∃ _:True,(match lv with | some v=>abI v h' .sliceB | none=>pure 0).run E.P w=.ok l' w∧l'≤h':=by
    refine ⟨trivial,?_⟩;cases lo with
    |none=>cases lv with
     |none=>simp at XX; subst XX; exact ⟨rfl,Nat.zero_le _⟩
     |some v=>exact hl.elim
    |some x=>cases lv with
     |none=>exact hl.elim
     |some v=>exact Cp (E:=E) hl XX (aaB _) _
   obtain ⟨_,H1,H2⟩:=H;obtain ⟨_,L1,L2⟩:=L;refine ⟨?_,L2,H2⟩;cases hv <;> cases lv <;> simp_all [Instr.sliceBounds]
theorem E5 (h:bq E R w β s a) {x:Option Operand} {y:Option SV} (hx:oU E s.ab x=some y):XW R w β y (x.map a.eval):=by
 cases x with
 |none=>simp [oU] at hx; subst hx; trivial
 |some x=>simp [oU] at hx; subst hx; exact aY h x
theorem qv {α:Type} {l:List α} {lo hi:Nat} (h:hi≤l.length):(gJ lo hi l).length=hi - lo:=by
 simp [gJ];omega
theorem BH (l:List UInt8) (lo hi:Nat):(⟨⟨l⟩⟩:ByteArray).extract lo hi=⟨⟨gJ lo hi l⟩⟩:=by
 apply ByteArray.ext;rw [ByteArray.data_extract];apply Array.ext';simp [List.extract_eq_take_drop,gJ,List.drop_take]
theorem Js {ag:Bool} {b sz:Nat} (gi:(ag || Nat.beq sz 1)=true):∀ (n:Nat) {cs:List AV} {o:Nat},fk R w b o cs→n * sz≤cs.length→allFit (Ho ag) (jd ag sz n cs)=true→iu R w b o sz (jd ag sz n cs)
 |0,_,_,_,_,_=>.nil
 |n+1,cs,o,hc,hl,hf=>by
  simp only [jd,allFit,abi] at hf;obtain ⟨MV,hf2⟩:=hf;unfold Ho at MV;simp only [abi] at MV;obtain ⟨⟨h1,h2⟩,h3⟩:=MV;have hle:sz≤cs.length:=by rw [abw] at hl; omega
  have nG:(mkD ag (cs.take sz)).cells=cs.take sz:=by
   cases ag with
   |true=>rfl
   |false=>
    have WE:sz=1:=by simpa using gi
    subst WE
    match cs,hle with
    |a :: cs,_=>
     show AV.cells a=[a];have ho:a.one=true:=by simpa [mkD,fH] using h2
     cases a <;> first | rfl | simp [AV.one] at ho
  obtain ⟨vs,k1,k2,k3,k4⟩:=hc.get;have hA:fk R w b o (cs.take sz):=fk.make (k1.take sz) (fun v hv=>k2 v (aaO hv)) (fun j v hv=>k3 j v (by
   rw [aby] at hv;split at hv
   ·exact hv
   ·cases hv)) (fun j hj=>k4 j (by rw [abu] at hj; omega))
  exact .cons (by rw [nG,abu,Nat.min_eq_left hle]) h1 h3 (by rw [nG]; exact hA) (Js gi n (hc.drop sz) (by rw [abE]; rw [abw] at hl; omega) hf2)
theorem sy (ag:Bool) (sz:Nat):∀ (n:Nat) (cs:List AV),(jd ag sz n cs).length=n
 |0,_=>rfl
 |n+1,cs=>by simp [jd,sy ag sz n]
theorem HC (h:bq E R w β s a) (t:TypeId) (x:Operand) (lo hi:Option Operand) (ho:o.op=.slice t x lo hi none) {l h':Option SV} (hl:oU E s.ab lo=some l) (hh:oU E s.ab hi=some h') {v:AV} (hv:Dw E t (bQ E s.ab x) l h' none=some (true,v)) :
  cz E R w β s a o (s.put o.dst (.v v)):=by
 have rx:=aY h x;have rl:=E5 h hl;have rh:=E5 h hh;unfold Dw at hv;split at hv
 ·rename_i i sS hmx;obtain ⟨je,u,e1,e2,e3,e4,e5,e6⟩:=cJ E sS;split at hv
  ·-- a string
   rename_i bs hk hx;rw [hx] at rx;have fe:Rel R w (.str bs) (a.eval x):=rx;generalize gE:a.eval x=xv at fe;cases fe;rw [hk] at e5;have:=mc e5;subst this;split at hv
   ·rename_i c p q hb;injection hv with hv;injection hv with h1 h2;subst h1; subst h2;obtain ⟨k1,k2,k3⟩:=fw (E:=E) false (aaB _) rl rh hb;refine ap h (c:=.string ⟨⟨gJ p q bs⟩⟩) ?_ (Rel.str _);rw [← BH];simp only [execOp,ho,abq,aau,run_underlying e2,aad,abv,gE,aaY,Option.isSome_none,Bool.false_eq_true,if_false,size_bytes,k1,abt]
   ·cases hv
  ·-- a list
   rename_i elem esz ag qp z k sz es hk hx;rw [hx] at rx;rw [hk] at e5;obtain ⟨ie,ue,rfl,f1,f2,f3,f4,f5,f6⟩:=fB e5;split at hv
   ·rename_i gi;split at hv
    ·rename_i c p q hb;injection hv with hv;injection hv with h1 h2;subst h1; subst h2;have fe:Rel R w (.list k sz es) (a.eval x):=rx;generalize gE:a.eval x=xv at fe;cases fe with
     |mb=>
      obtain ⟨k1,k2,k3⟩:=fw (E:=E) true (aaB _) rl rh hb;simp only [abo,abB] at k3;subst k3;have:p=0:=by omega
      subst this;refine ap h (c:=.slice none 0 0) ?_ ?_
      ·simp only [execOp,ho,abq,aau,run_underlying e2,aad,abv,gE,aaY];simp only [abo] at k1;simp [k1,run_sizeOf w f1]
      ·exact Rel.mb
     |j9=>
      obtain ⟨k1,k2,k3⟩:=fw (E:=E) true (aaB _) rl rh hb;simp only [abo,abB] at k3;subst k3;have:p=0:=by omega
      subst this;refine ap h (c:=.slice none 0 0) ?_ ?_
      ·simp only [execOp,ho,abq,aau,run_underlying e2,aad,abv,gE,aaY];simp only [abo] at k1;simp [k1,run_sizeOf w f1]
      ·exact Rel.j9
     | @oW _ ad=>
      obtain ⟨k1,k2,k3⟩:=fw (E:=E) true (aaB _) rl rh hb;simp only [abo,abB] at k3;subst k3;have:p=0:=by omega
      subst this;refine ap h (c:=.slice (some ad) 0 0) ?_ ?_
      ·simp only [execOp,ho,abq,aau,run_underlying e2,aad,abv,gE,aaY];simp only [abo] at k1;simp [k1,run_sizeOf w f1]
      ·exact Rel.oW
     |oa h0 h00=>
      obtain ⟨k1,k2,k3⟩:=fw (E:=E) true (aaB _) rl rh hb;simp only [abo,abB] at k3;subst k3;have:p=0:=by omega
      subst this;refine ap h (c:=.slice none 0 0) ?_ ?_
      ·simp only [execOp,ho,abq,aau,run_underlying e2,aad,abv,gE,aaY];simp only [abo] at k1;simp [k1,run_sizeOf w f1]
      ·exact Rel.j9
     |oX h0 h00=>
      obtain ⟨k1,k2,k3⟩:=fw (E:=E) true (aaB _) rl rh hb;simp only [abo,abB] at k3;subst k3;have:p=0:=by omega
      subst this;refine ap h (c:=.slice none 0 0) ?_ ?_
      ·simp only [execOp,ho,abq,aau,run_underlying e2,aad,abv,gE,aaY];simp only [abo] at k1;simp [k1,run_sizeOf w f1]
      ·exact Rel.j9
     | @list _ _ _ b o' len cap hr hlen jK MP=>
      subst hlen;obtain ⟨k1,k2,k3⟩:=fw (E:=E) true jK rl rh hb;have acs:es≠[]→sz=esz:=fun cK=>by
       simp only [Bool.or_eq_true] at gi;rcases gi with hc|hc
       ·exact aao hc
       ·simp at hc; exact absurd hc cK
      have bK:(execOp a.eval o).run E.P w=.ok (.value (.slice (if cap=p then some ⟨b,o',none⟩ else some ⟨b,o'+p * esz,none⟩) (q - p) (cap - p))) w:=by
       simp only [execOp,ho,abq,aau,run_underlying e2,aad,abv,gE,aaY,k1,run_sizeOf w f1,f2,abt,abN,cZ]
      have yo:∀ b2 o2,Dx R (match k with | .nil=>LK.nil | .full=>(match h' with | none=>LK.full | some _=>LK.lM) | _=>LK.lM) b2 o2 (q - p) (cap - p):=by
       intro b2 o2;cases k with
       |nil=>exact MP.elim
       |lM=>trivial
       |own id=>trivial
       |bF id j=>trivial
       |full=>
        have hc:cap=es.length:=MP;cases h' with
        |some _=>trivial
        |none=>
         have hq:q=es.length:=by
          unfold Hn at hb;simp only at hb;split at hb
          ·cases hb
          ·injection hb with hb;injection hb with _ hb;injection hb with _ hb;exact hb.symm
         show cap - p=q - p;omega
      by_cases hcp:cap=p
      ·refine ap h (c:=.slice (some ⟨b,o',none⟩) (q - p) (cap - p)) (by rw [bK,if_pos hcp]) ?_;have he:gJ p q es=[]:=List.eq_nil_of_length_eq_zero (by rw [qv k3]; omega);exact Rel.list (by rw [he]; exact .nil) (by rw [qv k3]) (by omega) (yo _ _)
      ·refine ap h (c:=.slice (some ⟨b,o'+p * esz,none⟩) (q - p) (cap - p)) (by rw [bK,if_neg hcp]) ?_;refine Rel.list ?_ (by rw [qv k3]) (by omega) (yo _ _);by_cases cK:es=[]
       ·subst cK;simp [gJ];exact .nil
       ·have:=acs cK;subst this;exact Cn p (vr q hr)
    ·cases hv
   ·cases hv
  ·-- a heap slice
   rename_i elem esz ag qp z id off sz len cap hk hx;rw [hx] at rx;rw [hk] at e5;obtain ⟨ie,ue,rfl,f1,f2,f3,f4,f5,f6⟩:=fB e5;split at hv
   ·rename_i gi;have gi:=aao gi;subst gi;split at hv
    ·rename_i c p q hb;injection hv with hv;injection hv with h1 h2;subst h1; subst h2;have fe:Rel R w (.lz id off sz len cap) (a.eval x):=rx;generalize gE:a.eval x=xv at fe;cases fe with
     | @lz _ _ _ _ _ b hbk jK=>
      obtain ⟨k1,k2,k3⟩:=fw (E:=E) true jK rl rh hb;refine ap h (c:=.slice (some ⟨b,bif Nat.beq cap p then off else off+p * sz,none⟩) (q - p) (cap - p)) ?_ (Rel.lz hbk (by omega));have hb:(bif Nat.beq cap p then off else off+p * sz)=if cap=p then off else off+p * sz:=by
       by_cases e:cap=p
       ·rw [if_pos e,e,show Nat.beq p p=true from Nat.beq_refl p]; rfl
       ·rw [if_neg e];cases hq:Nat.beq cap p with
        |true=>exact absurd (aao hq) e
        |false=>rfl
      rw [hb];simp only [execOp,ho,abq,aau,run_underlying e2,aad,abv,gE,aaY,k1,run_sizeOf w f1,f2,abt,abN,cZ];split <;> rfl
    ·cases hv
   ·cases hv
  ·-- a slice that grows
   rename_i elem esz ag qp z id f' off sz len hk hx;rw [hx] at rx;rw [hk] at e5;obtain ⟨ie,ue,rfl,f1,f2,f3,f4,f5,f6⟩:=fB e5;split at hv
   ·rename_i gi;have gi:=aao gi;subst gi;split at hv
    ·rename_i c p q hb;injection hv with hv;injection hv with h1 h2;subst h1; subst h2;have fe:Rel R w (.dM id f' off sz len) (a.eval x):=rx;generalize gE:a.eval x=xv at fe;cases fe with
     |jX h0 h00=>
      obtain ⟨k1,k2,k3⟩:=fw (E:=E) true (aaB _) rl rh hb;simp only [abB] at k3;subst k3;have:p=0:=by omega
      subst this;refine ap h (c:=.slice none 0 0) ?_ ?_
      ·simp only [execOp,ho,abq,aau,run_underlying e2,aad,abv,gE,aaY];simp [k1,run_sizeOf w f1]
      ·exact Rel.jX h0 h00
     | @dM _ _ _ _ _ cap b o' ro ca dS jK=>
      obtain ⟨k1,k2,k3⟩:=fw (E:=E) true jK rl rh hb;have bK:(execOp a.eval o).run E.P w=.ok (.value (.slice (if cap=p then some ⟨b,o',none⟩ else some ⟨b,o'+p * sz,none⟩) (q - p) (cap - p))) w:=by
       simp only [execOp,ho,abq,aau,run_underlying e2,aad,abv,gE,aaY,k1,run_sizeOf w f1,f2,abt,abN,cZ]
      have XY:∀ o2,(o2=o'+p * sz∨cap=p)→KV b o2 f' (off+p) sz (cap - p) ro:=fun o2 h2=>by
       cases ro with
       |none=>trivial
       |bS=>exact dS.elim
       |ck _=>exact dS.elim
       |bF _=>exact dS.elim
       |tok f1 b1 c1=>
        refine ⟨dS.1,fun e=>?_⟩;obtain ⟨q1,q2,q3⟩:=dS.2 e;refine ⟨q1,by omega,?_⟩;rcases h2 with h2|h2
        ·rcases q3 with q3|q3
         ·exact .inl (by rw [h2,q3,abQ])
         ·exact .inr (by omega)
        ·exact .inr (by omega)
      by_cases hcp:cap=p
      ·exact ap h (c:=.slice (some ⟨b,o',none⟩) (q - p) (cap - p)) (by rw [bK,if_pos hcp]) (Rel.dM ca (XY _ (.inr hcp)) (by omega))
      ·exact ap h (c:=.slice (some ⟨b,o'+p * sz,none⟩) (q - p) (cap - p)) (by rw [bK,if_neg hcp]) (Rel.dM ca (XY _ (.inl rfl)) (by omega))
    ·cases hv
   ·cases hv
  ·-- an array that never changes again
   rename_i len esz ag cs hk hx;rw [hx] at rx;rw [hk] at e5;obtain ⟨e,ie,ue,rfl,f1,f2,f3,f4⟩:=qn e5;split at hv
   ·split at hv
    ·rename_i c8;simp only [abi] at c8;obtain ⟨⟨⟨c1,c2⟩,c3⟩,c4⟩:=c8;injection hv with hv;injection hv with _ h2;subst h2;have fe:Rel R w (.ep cs) (a.eval x):=rx;generalize gE:a.eval x=xv at fe;cases fe with
     | @ep _ b o' hr=>
     obtain ⟨k1,_,_⟩:=fw (E:=E) (w:=w) (R:=R) (β:=β) (l:=0) (h:=len) false (aaB len) rl rh rfl;refine ap h (c:=.slice (some ⟨b,o',none⟩) len len) ?_ (Rel.list (Js c3 len hr (abR c1) c4) (sy _ _ _ _).symm (aaB _) rfl);simp only [execOp,ho,abq,aau,run_underlying e2,aad,gE,abG,aaY,k1,run_sizeOf w f1,f2,abt];by_cases zl:len=0
     ·subst zl;simp
     ·simp [zl,cZ]
    ·cases hv
   ·cases hv
  ·cases hv
 ·cases hv
theorem DG (h:bq E R w β s a) (t:TypeId) (ho:o.op=.makeMap t none):cz E R w β s a o ((s.fj (.map [])).put o.dst (.v (.map s.G.length))):=by
 have jH:iP (R.add (.ck w.heap.size)) (w.alloc (.map #[] 0)) (.map []) (.ck w.heap.size):=⟨#[],0,heap_alloc_new w _,trivial,rfl,fun i e he=>by simp at he⟩;refine ⟨_,.map (some w.heap.size),w.alloc (.map #[] 0),R.add (.ck w.heap.size),β,?_,.inl rfl,(h.nE (.map #[] 0) (.map []) (.ck w.heap.size) (by exact fun _ h=>h) jH).put o.dst (x:=.v (.map s.G.length)) (Rel.map (iy h _)),by rw [bf]; exact dD h _ _ (by exact fun _ h=>h)⟩;simp only [execOp,ho,Instr.makeMap,aaY,aau,run_newObj,aad,abt];rfl
theorem sA (h:bq E R w β s a) (t:TypeId) (x y:Operand) (ho:o.op=.makeSlice t x y) {i:TI} (hi:E.ti t=some i) {k k':IntKind} {n m:Int} (hx:bQ E s.ab x=.v (.int k n)) (hy:bQ E s.ab y=.v (.int k' m))
  {elem esz qp:Nat} {ag:Bool} {z:AV} (hk:i.k=.sl elem esz ag qp (some z)) (hz:z.cells.length=esz) (K6:1≤esz) (tF:z.ba=true) (hc:0≤n∧n≤m∧m≤140737488355328∧m * qp≤140737488355328) :
  ∃ us,aP R w (aq (abn m.toNat z)) us∧(∀ v∈us,v.oneCell'=true)∧(execOp a.eval o).run E.P w=.ok (.value (.slice (some ⟨w.heap.size,0,none⟩) n.toNat m.toNat)) (w.alloc (.cells ⟨us⟩ elem)):=by
 have rx:=aY h x;have ry:=aY h y;rw [hx] at rx;rw [hy] at ry;have fe:Rel R w (.int k n) (a.eval x):=rx;have sx:Rel R w (.int k' m) (a.eval y):=ry;generalize gE:a.eval x=xv at fe;generalize hyv:a.eval y=yv at sx;cases fe;cases sx;obtain ⟨c1,c2,c3,c4⟩:=hc;obtain ⟨je,u,e1,e2,e3,e4,e5,e6⟩:=cJ E hi;rw [hk] at e5;obtain ⟨ie,ue,rfl,f1,f2,f3,f4,f5,f6⟩:=fB e5;obtain ⟨zc,vf,Hc⟩:=dR f6;have WH:=Hc R w;obtain ⟨d1,d2⟩:=Rel.cells WH tF;have rJ:zc.cells.size=esz:=by rw [← hz,d1.length]; simp
 obtain ⟨z1,z2⟩:=oo WH tF m.toNat;have zk:((Array.range (m.toNat * esz)).map fun i=>zc.cells[i % zc.cells.size]!)=⟨(abn m.toNat zc.cells.toList).flatten⟩:=by
  apply Array.ext';rw [← rJ];exact qu zc.cells m.toNat
 have wn:IntKind.i64.wrap n=n:=IntWalk.i64_in n (by omega);have wm:IntKind.i64.wrap m=m:=IntWalk.i64_in m (by omega);have bK:(abO t (.int k n) (.int k' m)).run E.P w=.ok (.slice (some ⟨w.heap.size,0,none⟩) n.toNat m.toNat) (w.alloc (.cells ⟨(abn m.toNat zc.cells.toList).flatten⟩ elem)):=by
  have hby:(ie.bytes:Int) * m≤281474976710656:=by rw [f3,Int.mul_comm]; omega
  have acu:¬ 281474976710656 < (ie.bytes:Int) * m:=by omega
  have h1:¬ m < 0:=by omega
  have h2:¬ n < 0:=by omega
  have h3:¬ m < n:=by omega
  have XZ:(typeInfo elem).run E.P w=.ok ie w:=by simp [typeInfo,f1]
  by_cases h0:m.toNat * esz=0
  ·have hm0:m.toNat=0:=by
    rcases Nat.mul_eq_zero.1 h0 with h0|h0 <;> omega
   have E4:∀ f:Nat→Value,Array.map f (Array.range 0)=#[]:=fun f=>by simp
   simp [abO,run_underlying e2,asInt,asIntOf,XZ,wn,wm,h1,h2,h3,acu,run_sizeOf w f1,f2,hm0,newRow];rw [E4]
  ·simp [abO,run_underlying e2,asInt,asIntOf,XZ,wn,wm,h1,h2,h3,acu,run_sizeOf w f1,f2,h0,iQ w f1 vf,newRow];rw [← zk]
 refine ⟨_,z1,z2,?_⟩;simp only [execOp,ho,gE,hyv,aau,bK,aad,abt]
theorem zm (h:bq E R w β s a) (t:TypeId) (x y:Operand) (ho:o.op=.makeSlice t x y) {i:TI} (hi:E.ti t=some i) {k k':IntKind} {n m:Int} (hx:bQ E s.ab x=.v (.int k n)) (hy:bQ E s.ab y=.v (.int k' m))
  {elem esz qp:Nat} {ag:Bool} {z:AV} (hk:i.k=.sl elem esz ag qp (some z)) (hz:z.cells.length=esz) (K6:1≤esz) (tF:z.ba=true) (hc:0≤n∧n≤m∧m≤140737488355328∧m * qp≤140737488355328) :
  cz E R w β s a o ((s.fj (.row (aq (abn m.toNat z)) elem)).put o.dst (.v (.lz s.G.length 0 esz n.toNat m.toNat))):=by
 obtain ⟨us,z1,z2,bK⟩:=sA h t x y ho hi hx hy hk hz K6 tF hc;have e:=iV (R:=R) (w:=w) h.g.wf (.cells ⟨us⟩ elem) (.ck w.heap.size);have jH:iP (R.add (.ck w.heap.size)) (w.alloc (.cells ⟨us⟩ elem)) (.row (aq (abn m.toNat z)) elem) (.ck w.heap.size):=
  ⟨_,heap_alloc_new w _,z1.mono e,z2,fun o' hi=>by have:=h.g.wf _ _ hi; omega⟩
 exact ⟨_,.slice (some ⟨w.heap.size,0,none⟩) n.toNat m.toNat,_,R.add (.ck w.heap.size),β,bK,.inl rfl,(h.nE _ _ (.ck w.heap.size) (by exact fun _ h=>h) jH).put o.dst (x:=.v (.lz s.G.length 0 esz n.toNat m.toNat)) (Rel.lz (iy h _) (by omega)),by rw [bf]; exact dD h _ _ (by exact fun _ h=>h)⟩
end ops
end Go.Am
namespace Go.Am
open Go
section ops
variable {E:Env} {R:ak} {w:World} {β:Nat→Nat} {s:St} {a:Act} {o:Oper}
theorem me (x:Array Operand) (f:Operand→Value):x.map f=⟨x.toList.map f⟩:=Array.ext' (by simp)
theorem gu {b:Builtin} {args:Array Operand} {tys:Array TypeId} (ho:o.op=.call { callee:=.builtin b,args:=args,argTypes:=tys }) (vs:List Value) (hv:args.toList.map a.eval=vs) :
  (execOp a.eval o).run E.P w=(builtin b tys o.type (args.map fun | .const _=>true | _=>false) ⟨vs⟩).run E.P w:=by
 simp only [execOp,ho,resolve,aau,abt,aad,invoke,me args a.eval,hv];rfl
theorem eH.length:∀ {l:List (AV × AV)} {es:List MapEntry},eH R w l es→l.length=es.length
 |[],[],_=>rfl
 |_ :: _,_ :: _,h=>by simp [eH.length h.2.2]
 |[],_ :: _,h=>h.elim
 |_ :: _,[],h=>h.elim
theorem MW (h:bq E R w β s a) {args:Array Operand} {tys:List TypeId} (ho:o.op=.call { callee:=.builtin .len,args:=args,argTypes:=⟨tys⟩ }) {l:List AV} (hl:oR E s.ab args.toList=some l) {s':St} (hs:bU E s o.dst .len l tys=some (true,s')) :
  cz E R w β s a o s':=by
 have hr:=iW h hl;generalize hv:args.toList.map a.eval=vs at hr;have hx:=gu (E:=E) (w:=w) ho vs hv;unfold bU at hs;split at hs <;> first | (rename_i h1; cases h1; done) | skip
 ·rename_i x;cases hr with
  |cons h0 h1=>
  cases h1;split at hs
  ·rename_i t tl;split at hs
   ·rename_i i hi;obtain ⟨je,u,e1,e2,e3,e4,e5,e6⟩:=cJ E hi;split at hs
    ·rename_i bs hk;cases hs;cases h0;rw [hk] at e5;have:=mc e5;subst this;refine ap h (c:=.int .i64 bs.length) ?_ (Rel.int _ _);rw [hx];simp [builtin,abp,run_underlying e2,goInt,size_bytes]
    ·rename_i kk sz es hk;cases hs;rw [hk] at e5;obtain ⟨ie,ue,rfl,_⟩:=fB e5;refine ap h (c:=.int .i64 es.length) ?_ (Rel.int _ _);rw [hx];cases h0 with
     |mb=>simp [builtin,abp,run_underlying e2,goInt]
     |j9=>simp [builtin,abp,run_underlying e2,goInt]
     |oW=>simp [builtin,abp,run_underlying e2,goInt]
     |oa=>simp [builtin,abp,run_underlying e2,goInt]
     |oX=>simp [builtin,abp,run_underlying e2,goInt]
     |list _ hlen _ _=>subst hlen; simp [builtin,abp,run_underlying e2,goInt]
    ·rename_i id off sz len cap hk;cases hs;rw [hk] at e5;obtain ⟨ie,ue,rfl,_⟩:=fB e5;refine ap h (c:=.int .i64 len) ?_ (Rel.int _ _);rw [hx];cases h0;simp [builtin,abp,run_underlying e2,goInt]
    ·rename_i id f' off sz len hk;cases hs;rw [hk] at e5;obtain ⟨ie,ue,rfl,_⟩:=fB e5;refine ap h (c:=.int .i64 len) ?_ (Rel.int _ _);rw [hx];cases h0 <;> simp [builtin,abp,run_underlying e2,goInt]
    ·rename_i n esz ag hk;cases hs;rw [hk] at e5;obtain ⟨e,ie,ue,rfl,_⟩:=qn e5;refine ap h (c:=.int .i64 n) ?_ (Rel.int _ _);rw [hx];simp [builtin,abp,run_underlying e2,goInt]
    ·rename_i hk;cases hs;rw [hk] at e5;obtain ⟨rfl,_⟩:=og e5;refine ap h (c:=.int .i64 0) ?_ (Rel.int _ _);rw [hx];cases h0;simp [builtin,abp,run_underlying e2,goInt]
    ·rename_i id hk;split at hs
     ·rename_i es hg;cases hs;rw [hk] at e5;obtain ⟨rfl,_⟩:=og e5;cases h0 with
      | @map _ b hb=>
      obtain ⟨ax,clock,g1,g2,g3⟩:=h.g.obj id _ _ hg hb;refine ap h (c:=.int .i64 es.length) ?_ (Rel.int _ _);rw [hx];have jH:(getObj b).run E.P w=.ok (.map ax clock) w:=by simp [getObj,Sem.run,g1]
      simp [builtin,abp,run_underlying e2,goInt,jH,g2.length]
     ·cases hs
    ·cases hs
   ·cases hs
  ·cases hs
 ·cases hs
theorem Jt {b:Bool}:∀ {l:List AV} {x v:AV} {c:Value} {cs:List Value},Rel R w x c→aP R w l cs→KT x l=some v→∃ c',(cs.foldlM Builtin.max2 c).run E.P w=.ok c' w∧Rel R w v c'
 |[],x,v,c,cs,hr,hl,hv=>by
  cases hl;simp only [KT] at hv;cases hv;exact ⟨c,rfl,hr⟩
 |y :: l,x,v,c,cs,hr,hl,hv=>by
  cases hl with
  |cons hy hl=>
  unfold KT at hv;split at hv
  ·rename_i nX; cases nX
  ·rename_i k n k' m l' nX;cases nX;split at hv
   ·rename_i hk;subst hk;cases hr;cases hy;obtain ⟨c',h1,h2⟩:=Jt (b:=b) (Rel.int k (if m > n then m else n)) hl hv;refine ⟨c',?_,h2⟩;simp only [abJ,aau,Builtin.max2,abt,aad];exact h1
   ·cases hv
  ·cases hv
theorem DH {b:Bool}:∀ {l:List AV} {x v:AV} {c:Value} {cs:List Value},Rel R w x c→aP R w l cs→Hp x l=some v→∃ c',(cs.foldlM abK c).run E.P w=.ok c' w∧Rel R w v c'
 |[],x,v,c,cs,hr,hl,hv=>by
  cases hl;simp only [Hp] at hv;cases hv;exact ⟨c,rfl,hr⟩
 |y :: l,x,v,c,cs,hr,hl,hv=>by
  cases hl with
  |cons hy hl=>
  unfold Hp at hv;split at hv
  ·rename_i nX; cases nX
  ·rename_i k n k' m l' nX;cases nX;split at hv
   ·rename_i hk;subst hk;cases hr;cases hy;obtain ⟨c',h1,h2⟩:=DH (b:=b) (Rel.int k (if m < n then m else n)) hl hv;refine ⟨c',?_,h2⟩;simp only [abJ,aau,abK,abt,aad];exact h1
   ·cases hv
  ·rename_i n m l' nX;cases nX;cases hr;cases hy;obtain ⟨c',h1,h2⟩:=DH (b:=b) (Rel.str (bif abV n m || n == m then n else m)) hl hv;refine ⟨c',?_,h2⟩;have e:(abK (.string ⟨⟨n⟩⟩) (.string ⟨⟨m⟩⟩)).run E.P w=.ok (.string ⟨⟨bif abV n m || n == m then n else m⟩⟩) w:=by
    simp only [abK,Op.stringOp,aau,abt,aad];show Result.andThen ((asBool _).run E.P w) _=_;cases hb:(abV n m || n == m) <;> simp_all [asBool]
   simp only [abJ,aau,e,aad];exact h1
  ·cases hv
theorem MX (h:bq E R w β s a) {args:Array Operand} {tys:Array TypeId} (ho:o.op=.call { callee:=.builtin .max,args:=args,argTypes:=tys }) {x v:AV} {l:List AV} (hl:oR E s.ab args.toList=some (x :: l)) (hm:KT x l=some v) :
  cz E R w β s a o (s.put o.dst (.v v)):=by
 have hr:=iW h hl;generalize hv:args.toList.map a.eval=vs at hr;have hx:=gu (E:=E) (w:=w) ho vs hv;cases hr with
 |cons h0 h1=>
 obtain ⟨c',k1,k2⟩:=Jt (E:=E) (b:=true) h0 h1 hm;refine ap h (c:=c') ?_ k2;rw [hx];simp [builtin,Builtin.max_,k1]
theorem MY (h:bq E R w β s a) {args:Array Operand} {tys:Array TypeId} (ho:o.op=.call { callee:=.builtin .min,args:=args,argTypes:=tys }) {x v:AV} {l:List AV} (hl:oR E s.ab args.toList=some (x :: l)) (hm:Hp x l=some v) :
  cz E R w β s a o (s.put o.dst (.v v)):=by
 have hr:=iW h hl;generalize hv:args.toList.map a.eval=vs at hr;have hx:=gu (E:=E) (w:=w) ho vs hv;cases hr with
 |cons h0 h1=>
 obtain ⟨c',k1,k2⟩:=DH (E:=E) (b:=true) h0 h1 hm;refine ap h (c:=c') ?_ k2;rw [hx];simp [builtin,Builtin.min_,k1]
end ops
end Go.Am
namespace Go.Am
open Go
section ops
variable {E:Env} {R:ak} {w:World} {β:Nat→Nat} {s:St} {a:Act} {o:Oper}
def ak.upto (R:ak) (g n:Nat) (obj:List RO):ak:=⟨fun b o=>R.I b o∨(b=g∧o < n),obj⟩
theorem aJ {l:List RO} {id i:Nat} {x r y:RO} (akW:nth l id=some y) (h:nth (aG l id x) i=some r):(i=id∧r=x)∨(i≠id∧nth l i=some r):=by
 rcases dW h with ⟨rfl,rfl,_⟩|⟨cK,h⟩
 ·exact .inl ⟨rfl,rfl⟩
 ·exact .inr ⟨abH cK,h⟩
theorem HD (wf:∀ b o,R.I b o→b < w.heap.size) (x:Obj) (n:Nat) (ro:RO):Ext R w (R.upto w.heap.size n (R.obj++[ro])) (w.drew.alloc x):=
 ⟨fun _ _ h=>.inl h,fun b o h=>cm (heap_alloc_old w.drew x b (wf b o h)) o,fun _ r h=>⟨r,dX h,cV.refl r⟩,.old fun b hb=>heap_alloc_old w.drew x b hb⟩
theorem HE (wf:∀ b o,R.I b o→b < w.heap.size) (x:Obj) {n id m:Nat} {r0:RO} (hid:nth R.obj id=some r0) (b' c':Nat) (bY:cV r0 (.tok m b' c')):Ext R w (R.upto w.heap.size n (aG R.obj id (.tok m b' c'))) (w.drew.alloc x):=
 ⟨fun _ _ h=>.inl h,fun b o h=>cm (heap_alloc_old w.drew x b (wf b o h)) o,fun i r h=>by
  by_cases e:id=i
  ·subst e;rw [hid] at h;cases h;exact ⟨_,aV hid,bY⟩
  ·exact ⟨r,by rw [ak.upto,cp e]; exact h,cV.refl r⟩,.old fun b hb=>heap_alloc_old w.drew x b hb⟩
theorem bq.X0 (h:bq E R w β s a) {cur:Array Value} {elem:TypeId} {n sz cap:Nat} (hn:n≤cap) (hm:cap≤maxLen) (hs:cur.size=cap * sz) :
  bq E (R.upto w.heap.size (n * sz) (R.obj++[.tok n w.heap.size cap])) (w.drew.alloc (.cells cur elem)) β (s.fj (.tok n sz elem)) a ∧
  Step R w β s.boxes (R.upto w.heap.size (n * sz) (R.obj++[.tok n w.heap.size cap])) (w.drew.alloc (.cells cur elem)) β s.boxes:=by
 have e:=HD (R:=R) (w:=w) h.g.wf (.cells cur elem) (n * sz) (.tok n w.heap.size cap);have old:∀ b,b < w.heap.size→(w.drew.alloc (.cells cur elem)).heap[b]?=w.heap[b]?:=fun b hb=>heap_alloc_old w.drew _ b hb
 have new:(w.drew.alloc (.cells cur elem)).heap[w.heap.size]?=some (.cells cur elem (0,0)):=heap_alloc_new w.drew _;have hI:∀ b o,b < w.heap.size→(R.upto w.heap.size (n * sz) (R.obj++[.tok n w.heap.size cap])).I b o→R.I b o:=fun b o hb hi=>by
  rcases hi with hi|⟨hi,_⟩
  ·exact hi
  ·omega
 refine ⟨⟨⟨by simp [St.fj,ak.upto,h.g.len],fun id g r h1 h2=>?_,fun i j ri rj b h1 h2 b1 b2=>?_,fun b o hi=>?_,fun g cs hg=>(h.g.cw g cs hg).mono e,by first | exact h.g.lo | exact abA h.g.lo⟩,?_,h.t.mono e,h.n,h.d.mono e⟩,?_⟩
 ·rcases av h2 with h2|⟨h3,rfl⟩
  ·have bY:=cg h2;rw [h.g.len] at bY;rcases av h1 with h1|⟨h4,_⟩
   ·exact (h.g.obj id g r h1 h2).mono e (fun b hb=>old b (h.g.cj ⟨id,r,h2,hb⟩)) (fun b o hb=>hI b o (h.g.cj ⟨id,r,h2,hb⟩))
   ·omega
  ·rcases av h1 with h1|⟨h4,rfl⟩
   ·have:=cg h1;rw [h3,h.g.len] at this;omega
   ·refine ⟨rfl,cur,new,hn,hm,hs,fun o' pf hi=>?_⟩;rcases hi with hi|⟨_,hi⟩
    ·have:=h.g.wf _ _ hi;omega
    ·omega
 ·rcases av h1 with g1|⟨h3,e1⟩
  ·rcases av h2 with g2|⟨h4,e2⟩
   ·exact h.g.inj i j ri rj b g1 g2 b1 b2
   ·have:=h.g.cj ⟨i,ri,g1,b1⟩;rw [e2] at b2;simp [RO.has] at b2;omega
  ·rcases av h2 with g2|⟨h4,e2⟩
   ·have:=h.g.cj ⟨j,rj,g2,b2⟩;rw [e1] at b1;simp [RO.has] at b1;omega
   ·omega
 ·rcases hi with hi|⟨rfl,_⟩
  ·have:=h.g.wf b o hi;simp;omega
  ·simp
 ·refine h.b.bJ e (fun k cs hk=>old _ (h.fE (.inr ⟨k,cs,hk,rfl⟩))) (fun k cs o hk=>hI _ o (h.fE (.inr ⟨k,cs,hk,rfl⟩))) (fun k cs hk hl=>?_);rcases oe (R:=R) (ro:=.tok n w.heap.size cap) hl with hl|hl
  ·exact hl
  ·have:=h.fE (.inr ⟨k,cs,hk,rfl⟩);simp [RO.has] at hl;omega
 ·refine ⟨e,rfl,rfl,rfl,by simp,fun b hb _=>old b hb,fun b hb ho=>?_,fun b o hi hb _=>hI b o hb hi⟩;rcases ho with ho|ho
  ·rcases oe (R:=R) (ro:=.tok n w.heap.size cap) ho with ho|ho
   ·exact .inl ho
   ·simp [RO.has] at ho;omega
  ·exact .inr ho
theorem E6 (wf:∀ b o,R.I b o→b < w.heap.size) (x:Obj) (n:Nat) (ro:RO):Ext R w (R.upto w.heap.size n (R.obj++[ro])) (w.alloc x):=
 ⟨fun _ _ h=>.inl h,fun b o h=>cm (heap_alloc_old w x b (wf b o h)) o,fun _ r h=>⟨r,dX h,cV.refl r⟩,.old fun b hb=>heap_alloc_old w x b hb⟩
theorem bq.RW (h:bq E R w β s a) {cur:Array Value} {elem:TypeId} {n sz cap:Nat} (hn:n≤cap) (hm:cap≤maxLen) (hs:cur.size=cap * sz) :
  bq E (R.upto w.heap.size (n * sz) (R.obj++[.tok n w.heap.size cap])) (w.alloc (.cells cur elem)) β (s.fj (.tok n sz elem)) a ∧
  Step R w β s.boxes (R.upto w.heap.size (n * sz) (R.obj++[.tok n w.heap.size cap])) (w.alloc (.cells cur elem)) β s.boxes:=by
 have e:=E6 (R:=R) (w:=w) h.g.wf (.cells cur elem) (n * sz) (.tok n w.heap.size cap);have old:∀ b,b < w.heap.size→(w.alloc (.cells cur elem)).heap[b]?=w.heap[b]?:=fun b hb=>heap_alloc_old w _ b hb
 have new:(w.alloc (.cells cur elem)).heap[w.heap.size]?=some (.cells cur elem (0,0)):=heap_alloc_new w _;have hI:∀ b o,b < w.heap.size→(R.upto w.heap.size (n * sz) (R.obj++[.tok n w.heap.size cap])).I b o→R.I b o:=fun b o hb hi=>by
  rcases hi with hi|⟨hi,_⟩
  ·exact hi
  ·omega
 refine ⟨⟨⟨by simp [St.fj,ak.upto,h.g.len],fun id g r h1 h2=>?_,fun i j ri rj b h1 h2 b1 b2=>?_,fun b o hi=>?_,fun g cs hg=>(h.g.cw g cs hg).mono e,by first | exact h.g.lo | exact abA h.g.lo⟩,?_,h.t.mono e,h.n,h.d.mono e⟩,?_⟩
 ·rcases av h2 with h2|⟨h3,rfl⟩
  ·have bY:=cg h2;rw [h.g.len] at bY;rcases av h1 with h1|⟨h4,_⟩
   ·exact (h.g.obj id g r h1 h2).mono e (fun b hb=>old b (h.g.cj ⟨id,r,h2,hb⟩)) (fun b o hb=>hI b o (h.g.cj ⟨id,r,h2,hb⟩))
   ·omega
  ·rcases av h1 with h1|⟨h4,rfl⟩
   ·have:=cg h1;rw [h3,h.g.len] at this;omega
   ·refine ⟨rfl,cur,new,hn,hm,hs,fun o' pf hi=>?_⟩;rcases hi with hi|⟨_,hi⟩
    ·have:=h.g.wf _ _ hi;omega
    ·omega
 ·rcases av h1 with g1|⟨h3,e1⟩
  ·rcases av h2 with g2|⟨h4,e2⟩
   ·exact h.g.inj i j ri rj b g1 g2 b1 b2
   ·have:=h.g.cj ⟨i,ri,g1,b1⟩;rw [e2] at b2;simp [RO.has] at b2;omega
  ·rcases av h2 with g2|⟨h4,e2⟩
   ·have:=h.g.cj ⟨j,rj,g2,b2⟩;rw [e1] at b1;simp [RO.has] at b1;omega
   ·omega
 ·rcases hi with hi|⟨rfl,_⟩
  ·have:=h.g.wf b o hi;simp;omega
  ·simp
 ·refine h.b.bJ e (fun k cs hk=>old _ (h.fE (.inr ⟨k,cs,hk,rfl⟩))) (fun k cs o hk=>hI _ o (h.fE (.inr ⟨k,cs,hk,rfl⟩))) (fun k cs hk hl=>?_);rcases oe (R:=R) (ro:=.tok n w.heap.size cap) hl with hl|hl
  ·exact hl
  ·have:=h.fE (.inr ⟨k,cs,hk,rfl⟩);simp [RO.has] at hl;omega
 ·refine ⟨e,rfl,rfl,rfl,by simp,fun b hb _=>old b hb,fun b hb ho=>?_,fun b o hi hb _=>hI b o hb hi⟩;rcases ho with ho|ho
  ·rcases oe (R:=R) (ro:=.tok n w.heap.size cap) ho with ho|ho
   ·exact .inl ho
   ·simp [RO.has] at ho;omega
  ·exact .inr ho
theorem vx (h:bq E R w β s a) (t:TypeId) (len:Nat) (parts:Array (Nat × Operand)) (ho:o.op=.buildSlice t len parts) {k:LK} {esz:Nat} {es:List AV} (hv:cn E s t len parts.toList=some (.list k esz es)) {i:TI} (hi:E.ti t=some i) {elem bT qp:Nat} {ag:Bool} {z:Option AV} (hk:i.k=.sl elem bT ag qp z) (hm:len≤65536) :
  cz E R w β s a o ((s.fj (.tok len esz elem)).put o.dst (.v (.list (.own s.G.length) esz es))):=by
 obtain ⟨es',XV,us,acv,hve,bK,g2,hlen,u2,u3,i',ag',by',z',sS,jf⟩:=jL h t len parts ho hv;cases hve;rw [hi] at sS;cases sS;rw [hk] at jf;cases jf;have hus:us.length=len * esz:=by rw [← u2.length,fg g2,hlen]
 obtain ⟨r1,r2⟩:=h.RW (cur:=⟨us⟩) (elem:=elem) (n:=len) (sz:=esz) (cap:=len) (aaB _) (by simp [maxLen]; omega) (by simpa using hus);refine ⟨_,.slice (some ⟨w.heap.size,0,none⟩) len len,_,_,β,bK,.inl rfl,r1.put o.dst (x:=.v (.list (.own s.G.length) esz es)) ?_,by rw [bf]; exact r2⟩;refine Rel.list (om g2 (fk.make (u2.mono r2.ext) u3 (fun j x hx=>?_) (fun j hj=>.inr ⟨rfl,?_⟩))) hlen.symm (aaB _) ⟨.tok len w.heap.size len,iy h _,?_⟩
 ·rw [kC (heap_alloc_new w _)];simpa using hx
 ·rw [fg g2,hlen] at hj;omega
 ·exact ⟨aaB _,fun _=>⟨rfl,rfl,rfl⟩⟩
theorem bq.MZ (h:bq E R w β s a) {cur:Array Value} {elem e0:TypeId} {n sz cap id f:Nat} {r0:RO} (hg:nth s.G id=some (.tok f sz e0)) (hid:nth R.obj id=some r0) (hf:∀ b c,cV r0 (.tok n b c)) (hn:n≤cap) (hm:cap≤maxLen) (hs:cur.size=cap * sz) :
  bq E (R.upto w.heap.size (n * sz) (aG R.obj id (.tok n w.heap.size cap))) (w.drew.alloc (.cells cur elem)) β (s.cP (aG s.G id (.tok n sz elem))) a ∧
  Step R w β s.boxes (R.upto w.heap.size (n * sz) (aG R.obj id (.tok n w.heap.size cap))) (w.drew.alloc (.cells cur elem)) β s.boxes:=by
 have e:=HE (R:=R) (w:=w) (n:=n * sz) h.g.wf (.cells cur elem) hid w.heap.size cap (hf _ _);have old:∀ b,b < w.heap.size→(w.drew.alloc (.cells cur elem)).heap[b]?=w.heap[b]?:=fun b hb=>heap_alloc_old w.drew _ b hb
 have new:(w.drew.alloc (.cells cur elem)).heap[w.heap.size]?=some (.cells cur elem (0,0)):=heap_alloc_new w.drew _;have hI:∀ b o,b < w.heap.size→(R.upto w.heap.size (n * sz) (aG R.obj id (.tok n w.heap.size cap))).I b o→R.I b o:=fun b o hb hi=>by
  rcases hi with hi|⟨hi,_⟩
  ·exact hi
  ·omega
 have live:∀ b,b < w.heap.size→Live (R.upto w.heap.size (n * sz) (aG R.obj id (.tok n w.heap.size cap))) b→Live R b:=fun b hb hl=>by
  obtain ⟨i,r,h1,h2⟩:=hl;rcases aJ hid h1 with ⟨_,rfl⟩|⟨_,h1⟩
  ·simp [RO.has] at h2;omega
  ·exact ⟨i,r,h1,h2⟩
 refine ⟨⟨⟨by simp [St.cP,ak.upto,h.g.len],fun i gg r h1 h2=>?_,fun i j ri rj b h1 h2 b1 b2=>?_,fun b o hi=>?_,fun g cs hg=>(h.g.cw g cs hg).mono e,by first | exact h.g.lo | exact abA h.g.lo⟩,?_,h.t.mono e,h.n,h.d.mono e⟩,?_⟩
 ·rcases aJ hid h2 with ⟨rfl,rfl⟩|⟨cK,h2⟩
  ·simp only [St.cP] at h1;rw [aV hg] at h1;cases h1;refine ⟨rfl,cur,new,hn,hm,hs,fun o' pf hi=>?_⟩;rcases hi with hi|⟨_,hi⟩
   ·have:=h.g.wf _ _ hi;omega
   ·omega
  ·simp only [St.cP] at h1;rw [cp (abH cK)] at h1;exact (h.g.obj i gg r h1 h2).mono e (fun b hb=>old b (h.g.cj ⟨i,r,h2,hb⟩)) (fun b o hb=>hI b o (h.g.cj ⟨i,r,h2,hb⟩))
 ·rcases aJ hid h1 with ⟨g3,e1⟩|⟨g3,g1⟩
  ·rcases aJ hid h2 with ⟨g4,e2⟩|⟨g4,g2⟩
   ·omega
   ·have:=h.g.cj ⟨j,rj,g2,b2⟩;rw [e1] at b1;simp [RO.has] at b1;omega
  ·rcases aJ hid h2 with ⟨g4,e2⟩|⟨g4,g2⟩
   ·have:=h.g.cj ⟨i,ri,g1,b1⟩;rw [e2] at b2;simp [RO.has] at b2;omega
   ·exact h.g.inj i j ri rj b g1 g2 b1 b2
 ·rcases hi with hi|⟨rfl,_⟩
  ·have:=h.g.wf b o hi;simp;omega
  ·simp
 ·exact h.b.bJ e (fun k cs hk=>old _ (h.fE (.inr ⟨k,cs,hk,rfl⟩))) (fun k cs o hk=>hI _ o (h.fE (.inr ⟨k,cs,hk,rfl⟩))) (fun k cs hk hl=>live _ (h.fE (.inr ⟨k,cs,hk,rfl⟩)) hl)
 ·refine ⟨e,rfl,rfl,rfl,by simp,fun b hb _=>old b hb,fun b hb ho=>?_,fun b o hi hb _=>hI b o hb hi⟩;rcases ho with ho|ho
  ·exact .inl (live b hb ho)
  ·exact .inr ho
theorem bq.RX (h:bq E R w β s a) {cur:Array Value} {news:List Value} {elem:TypeId} {n sz id f g c:Nat} (hg:nth s.G id=some (.tok f sz elem)) (hid:nth R.obj id=some (.tok f g c)) (hf:f < n) (hn:n≤c)
  (jY:w.heap[g]?=some (.cells cur elem (0,0))) (hs:cur.size=c * sz) (hm:c≤maxLen) (hl:f * sz+news.length=n * sz) :
  Ext R w (R.upto g (n * sz) (aG R.obj id (.tok n g c))) (w.setRow g (cur.toList.take (f * sz)++news++cur.toList.drop (f * sz+news.length)).toArray) ∧
  bq E (R.upto g (n * sz) (aG R.obj id (.tok n g c))) (w.setRow g (cur.toList.take (f * sz)++news++cur.toList.drop (f * sz+news.length)).toArray) β (s.cP (aG s.G id (.tok n sz elem))) a ∧
  Step R w β s.boxes (R.upto g (n * sz) (aG R.obj id (.tok n g c))) (w.setRow g (cur.toList.take (f * sz)++news++cur.toList.drop (f * sz+news.length)).toArray) β s.boxes:=by
 obtain ⟨_,E7,WI,_,_,_,kD⟩:=h.g.obj id _ _ hg hid;rw [jY] at WI;cases WI;have hle:n * sz≤c * sz:=abj _ hn;generalize qw:(cur.toList.take (f * sz)++news++cur.toList.drop (f * sz+news.length)).toArray=cur2;have old:∀ b,b≠g→(w.setRow g cur2).heap[b]?=w.heap[b]?:=fun b hb=>setRow_other w g b cur2 hb
 have new:(w.setRow g cur2).heap[g]?=some (.cells cur2 elem (0,0)):=setRow_heap w g cur cur2 elem (0,0) jY;have hlen:f * sz≤cur.toList.length:=by simp; omega
 have gi:cur2.size=c * sz:=by
  rw [← qw];simp;omega
 have sU:Live R g:=⟨id,_,hid,rfl⟩;have e:Ext R w (R.upto g (n * sz) (aG R.obj id (.tok n g c))) (w.setRow g cur2):=by
  refine ⟨fun _ _ hi=>.inl hi,fun b o hi=>?_,fun i r hr=>?_,fun b r hb=>⟨r,(old b fun e=>by subst e; rw [jY] at hb; cases hb).trans hb,rfl,rfl,rfl,rfl,rfl⟩⟩
  ·by_cases hb:b=g
   ·subst hb;have ho:o < f * sz:=Nat.lt_of_not_le fun hle=>kD o hle hi
    simp only [World.cell?,new,jY];have:cur2[o]?=cur[o]?:=by
     rw [← qw,List.append_assoc];simp only [List.getElem?_toArray];rw [List.getElem?_append_left (by simp; omega),aby,if_pos ho,abS]
    simp [this]
   ·exact cm (old b hb) o
  ·by_cases ei:id=i
   ·subst ei;rw [hid] at hr;cases hr;exact ⟨_,aV hid,by omega,fun e=>by omega⟩
   ·exact ⟨r,by rw [ak.upto,cp ei]; exact hr,cV.refl r⟩
 have hI:∀ b o,b≠g→(R.upto g (n * sz) (aG R.obj id (.tok n g c))).I b o→R.I b o:=fun b o hb hi=>by
  rcases hi with hi|⟨hi,_⟩
  ·exact hi
  ·exact absurd hi hb
 have live:∀ b,Live (R.upto g (n * sz) (aG R.obj id (.tok n g c))) b→Live R b:=fun b hl=>by
  obtain ⟨i,r,h1,h2⟩:=hl;rcases aJ hid h1 with ⟨_,rfl⟩|⟨_,h1⟩
  ·exact ⟨id,_,hid,h2⟩
  ·exact ⟨i,r,h1,h2⟩
 have sV:∀ k cs,eF s.boxes k=some cs→β k≠g:=fun k cs hk eq=>(h.b.box k cs hk).2.2 (eq ▸ sU)
 refine ⟨e,⟨⟨by simp [St.cP,ak.upto,h.g.len],fun i gg r h1 h2=>?_,fun i j ri rj b h1 h2 b1 b2=>?_,fun b o hi=>?_,fun g cs hg=>(h.g.cw g cs hg).mono e,by first | exact h.g.lo | exact abA h.g.lo⟩,?_,h.t.mono e,h.n,h.d.mono e⟩,?_⟩
 ·rcases aJ hid h2 with ⟨rfl,rfl⟩|⟨cK,h2⟩
  ·simp only [St.cP] at h1;rw [aV hg] at h1;cases h1;refine ⟨rfl,cur2,new,hn,hm,gi,fun o' pf hi=>?_⟩;rcases hi with hi|⟨_,hi⟩
   ·exact kD o' (Nat.le_trans (abj _ (Nat.le_of_lt hf)) pf) hi
   ·omega
  ·simp only [St.cP] at h1;rw [cp (abH cK)] at h1;have X1:∀ b,r.has b→b≠g:=fun b hb eq=>cK (h.g.inj i id _ _ b h2 hid hb (by rw [eq]; rfl))
   exact (h.g.obj i gg r h1 h2).mono e (fun b hb=>old b (X1 b hb)) (fun b o hb=>hI b o (X1 b hb))
 ·rcases aJ hid h1 with ⟨g3,e1⟩|⟨g3,g1⟩
  ·rcases aJ hid h2 with ⟨g4,e2⟩|⟨g4,g2⟩
   ·omega
   ·rw [e1] at b1;exact g3.trans (h.g.inj id j _ _ b hid g2 b1 b2)
  ·rcases aJ hid h2 with ⟨g4,e2⟩|⟨g4,g2⟩
   ·rw [e2] at b2;exact (h.g.inj i id _ _ b g1 hid b1 b2).trans g4.symm
   ·exact h.g.inj i j ri rj b g1 g2 b1 b2
 ·rcases hi with hi|⟨rfl,_⟩
  ·have:=h.g.wf b o hi;simpa using this
  ·have:=bo jY;simpa using this
 ·exact h.b.bJ e (fun k cs hk=>old _ (sV k cs hk)) (fun k cs o hk=>hI _ o (sV k cs hk)) (fun k cs hk hl=>live _ hl)
 ·refine ⟨e,rfl,rfl,rfl,by simp,fun b hb vy=>old b (fun eq=>vy (.inl (eq ▸ sU))),fun b hb ho=>?_,fun b o hi hb vy=>hI b o (fun eq=>vy (.inl (eq ▸ sU))) hi⟩;rcases ho with ho|ho
  ·exact .inl (live b ho)
  ·exact .inr ho
structure One (w w':World) (x:Obj):Prop where
 old:∀ b,b < w.heap.size→w'.heap[b]?=w.heap[b]?
 new:w'.heap[w.heap.size]?=some x
 size:w'.heap.size=w.heap.size+1
 os:w'.os=w.os
 tape:w'.tape=w.tape
 output:w'.output=w.output
 drawn:w.drawn≤w'.drawn
theorem One.alloc (w:World) (x:Obj):One w (w.alloc x) x:=⟨fun b hb=>heap_alloc_old w x b hb,heap_alloc_new w x,by simp,rfl,rfl,rfl,aaB _⟩
theorem One.drew (w:World) (x:Obj):One w (w.drew.alloc x) x:=⟨fun b hb=>heap_alloc_old w.drew x b hb,heap_alloc_new w.drew x,by simp,rfl,rfl,rfl,Nat.le_succ _⟩
theorem RY {w':World} {x:Obj} (o1:One w w' x) (wf:∀ b o,R.I b o→b < w.heap.size) {n id:Nat} {r0 r1:RO} (hid:nth R.obj id=some r0) (hle:cV r0 r1):Ext R w (R.upto w.heap.size n (aG R.obj id r1)) w':=
 ⟨fun _ _ h=>.inl h,fun b o h=>cm (o1.old b (wf b o h)) o,fun i r h=>by
  by_cases e:id=i
  ·subst e;rw [hid] at h;cases h;exact ⟨_,aV hid,hle⟩
  ·exact ⟨r,by rw [ak.upto,cp e]; exact h,cV.refl r⟩,.old fun b hb=>o1.old b hb⟩
theorem bq.X2 (h:bq E R w β s a) {w':World} {x:Obj} (o1:One w w' x) {n id:Nat} {r0 r1:RO} {Mu go:GO} (hg:nth s.G id=some Mu) (hid:nth R.obj id=some r0) (hle:cV r0 r1) (zn:∀ b,r1.has b→b=w.heap.size∨r0.has b)
  (jH:iP (R.upto w.heap.size n (aG R.obj id r1)) w' go r1) :
  bq E (R.upto w.heap.size n (aG R.obj id r1)) w' β (s.cP (aG s.G id go)) a∧Step R w β s.boxes (R.upto w.heap.size n (aG R.obj id r1)) w' β s.boxes:=by
 have e:=RY (R:=R) (n:=n) o1 h.g.wf hid hle;have hI:∀ b o,b < w.heap.size→(R.upto w.heap.size n (aG R.obj id r1)).I b o→R.I b o:=fun b o hb hi=>by
  rcases hi with hi|⟨hi,_⟩
  ·exact hi
  ·omega
 have live:∀ b,b < w.heap.size→Live (R.upto w.heap.size n (aG R.obj id r1)) b→Live R b:=fun b hb hl=>by
  obtain ⟨i,r,h1,h2⟩:=hl;rcases aJ hid h1 with ⟨_,rfl⟩|⟨_,h1⟩
  ·rcases zn b h2 with h3|h3
   ·omega
   ·exact ⟨id,r0,hid,h3⟩
  ·exact ⟨i,r,h1,h2⟩
 refine ⟨⟨⟨by simp [St.cP,ak.upto,h.g.len],fun i gg r h1 h2=>?_,fun i j ri rj b h1 h2 b1 b2=>?_,fun b o hi=>?_,fun g cs hg=>(h.g.cw g cs hg).mono e,Nat.le_trans h.g.lo o1.drawn⟩,?_,h.t.mono e,h.n,h.d.mono e⟩,?_⟩
 ·rcases aJ hid h2 with ⟨rfl,rfl⟩|⟨cK,h2⟩
  ·simp only [St.cP] at h1;rw [aV hg] at h1;cases h1;exact jH
  ·simp only [St.cP] at h1;rw [cp (abH cK)] at h1;exact (h.g.obj i gg r h1 h2).mono e (fun b hb=>o1.old b (h.g.cj ⟨i,r,h2,hb⟩)) (fun b o hb=>hI b o (h.g.cj ⟨i,r,h2,hb⟩))
 ·rcases aJ hid h1 with ⟨g3,e1⟩|⟨g3,g1⟩
  ·rcases aJ hid h2 with ⟨g4,e2⟩|⟨g4,g2⟩
   ·omega
   ·rw [e1] at b1;rcases zn b b1 with b3|b3
    ·have:=h.g.cj ⟨j,rj,g2,b2⟩;omega
    ·exact g3.trans (h.g.inj id j _ _ b hid g2 b3 b2)
  ·rcases aJ hid h2 with ⟨g4,e2⟩|⟨g4,g2⟩
   ·rw [e2] at b2;rcases zn b b2 with b3|b3
    ·have:=h.g.cj ⟨i,ri,g1,b1⟩;omega
    ·exact (h.g.inj i id _ _ b g1 hid b1 b3).trans g4.symm
   ·exact h.g.inj i j ri rj b g1 g2 b1 b2
 ·rcases hi with hi|⟨rfl,_⟩
  ·have:=h.g.wf b o hi;rw [o1.size];omega
  ·rw [o1.size]; omega
 ·exact h.b.bJ e (fun k cs hk=>o1.old _ (h.fE (.inr ⟨k,cs,hk,rfl⟩))) (fun k cs o hk=>hI _ o (h.fE (.inr ⟨k,cs,hk,rfl⟩))) (fun k cs hk hl=>live _ (h.fE (.inr ⟨k,cs,hk,rfl⟩)) hl)
 ·refine ⟨e,o1.os,o1.tape,o1.output,by rw [o1.size]; omega,fun b hb _=>o1.old b hb,fun b hb ho=>?_,fun b o hi hb _=>hI b o hb hi⟩;rcases ho with ho|ho
  ·exact .inl (live b hb ho)
  ·exact .inr ho
theorem bq.RZ (h:bq E R w β s a) {cur cur2:Array Value} {elem:TypeId} {n id g:Nat} {r0 r1:RO} {Mu go:GO} (hg:nth s.G id=some Mu) (hid:nth R.obj id=some r0) (Ro:r0.has g) (hle:cV r0 r1) (zn:∀ b,r1.has b→r0.has b)
  (jY:w.heap[g]?=some (.cells cur elem (0,0))) (zo:∀ o,R.I g o→cur2[o]?=cur[o]?)
  (jH:Ext R w (R.upto g n (aG R.obj id r1)) (w.setRow g cur2)→iP (R.upto g n (aG R.obj id r1)) (w.setRow g cur2) go r1) :
  Ext R w (R.upto g n (aG R.obj id r1)) (w.setRow g cur2)∧bq E (R.upto g n (aG R.obj id r1)) (w.setRow g cur2) β (s.cP (aG s.G id go)) a∧Step R w β s.boxes (R.upto g n (aG R.obj id r1)) (w.setRow g cur2) β s.boxes:=by
 have old:∀ b,b≠g→(w.setRow g cur2).heap[b]?=w.heap[b]?:=fun b hb=>setRow_other w g b cur2 hb
 have new:(w.setRow g cur2).heap[g]?=some (.cells cur2 elem (0,0)):=setRow_heap w g cur cur2 elem (0,0) jY;have sU:Live R g:=⟨id,_,hid,Ro⟩;have e:Ext R w (R.upto g n (aG R.obj id r1)) (w.setRow g cur2):=by
  refine ⟨fun _ _ hi=>.inl hi,fun b o hi=>?_,fun i r hr=>?_,fun b r hb=>⟨r,(old b fun e=>by subst e; rw [jY] at hb; cases hb).trans hb,rfl,rfl,rfl,rfl,rfl⟩⟩
  ·by_cases hb:b=g
   ·subst hb;simp only [World.cell?,new,jY,zo o hi]
   ·exact cm (old b hb) o
  ·by_cases ei:id=i
   ·subst ei;rw [hid] at hr;cases hr;exact ⟨_,aV hid,hle⟩
   ·exact ⟨r,by rw [ak.upto,cp ei]; exact hr,cV.refl r⟩
 have hI:∀ b o,b≠g→(R.upto g n (aG R.obj id r1)).I b o→R.I b o:=fun b o hb hi=>by
  rcases hi with hi|⟨hi,_⟩
  ·exact hi
  ·exact absurd hi hb
 have live:∀ b,Live (R.upto g n (aG R.obj id r1)) b→Live R b:=fun b hl=>by
  obtain ⟨i,r,h1,h2⟩:=hl;rcases aJ hid h1 with ⟨_,rfl⟩|⟨_,h1⟩
  ·exact ⟨id,_,hid,zn b h2⟩
  ·exact ⟨i,r,h1,h2⟩
 have sV:∀ k cs,eF s.boxes k=some cs→β k≠g:=fun k cs hk eq=>(h.b.box k cs hk).2.2 (eq ▸ sU)
 refine ⟨e,⟨⟨by simp [St.cP,ak.upto,h.g.len],fun i gg r h1 h2=>?_,fun i j ri rj b h1 h2 b1 b2=>?_,fun b o hi=>?_,fun g cs hg=>(h.g.cw g cs hg).mono e,h.g.lo⟩,?_,h.t.mono e,h.n,h.d.mono e⟩,?_⟩
 ·rcases aJ hid h2 with ⟨rfl,rfl⟩|⟨cK,h2⟩
  ·simp only [St.cP] at h1;rw [aV hg] at h1;cases h1;exact jH e
  ·simp only [St.cP] at h1;rw [cp (abH cK)] at h1;have X1:∀ b,r.has b→b≠g:=fun b hb eq=>cK (h.g.inj i id _ _ b h2 hid hb (by rw [eq]; exact Ro))
   exact (h.g.obj i gg r h1 h2).mono e (fun b hb=>old b (X1 b hb)) (fun b o hb=>hI b o (X1 b hb))
 ·rcases aJ hid h1 with ⟨g3,e1⟩|⟨g3,g1⟩
  ·rcases aJ hid h2 with ⟨g4,e2⟩|⟨g4,g2⟩
   ·omega
   ·rw [e1] at b1;exact g3.trans (h.g.inj id j _ _ b hid g2 (zn b b1) b2)
  ·rcases aJ hid h2 with ⟨g4,e2⟩|⟨g4,g2⟩
   ·rw [e2] at b2;exact (h.g.inj i id _ _ b g1 hid b1 (zn b b2)).trans g4.symm
   ·exact h.g.inj i j ri rj b g1 g2 b1 b2
 ·rcases hi with hi|⟨rfl,_⟩
  ·have:=h.g.wf b o hi;simpa using this
  ·have:=bo jY;simpa using this
 ·exact h.b.bJ e (fun k cs hk=>old _ (sV k cs hk)) (fun k cs o hk=>hI _ o (sV k cs hk)) (fun k cs hk hl=>live _ hl)
 ·refine ⟨e,rfl,rfl,rfl,by simp,fun b hb vy=>old b (fun eq=>vy (.inl (eq ▸ sU))),fun b hb ho=>?_,fun b o hi hb vy=>hI b o (fun eq=>vy (.inl (eq ▸ sU))) hi⟩;rcases ho with ho|ho
  ·exact .inl (live b ho)
  ·exact .inr ho
theorem vp.set {ts:List TR} {j:Nat} {t t':TR} (ht:nth ts j=some t) (hle:nD t t'):vp ts (aG ts j t'):=fun i u hu=>by
 by_cases e:j=i
 ·subst e;rw [ht] at hu;cases hu;exact ⟨t',aV ht,hle⟩
 ·exact ⟨u,by rw [cp e]; exact hu,nD.refl u⟩
theorem Ju {ts:List TR} {j n g c b:Nat} (h:RO.has (.bF (aG ts j (.tok n g c))) b):b=g∨RO.has (.bF ts) b:=by
 obtain ⟨i,f,c',hi⟩:=h;rcases dW hi with ⟨_,e,_⟩|⟨_,hi⟩
 ·cases e; exact .inl rfl
 ·exact .inr ⟨i,f,c',hi⟩
theorem Cg.of {R':ak} {w':World} {sz f:Nat} {e:TypeId} {t:TR} (h:Cg R w sz e f t) (hold:∀ f b c,t=.tok f b c→w'.heap[b]?=w.heap[b]?∧∀ o,R'.I b o→R.I b o):Cg R' w' sz e f t:=by
 cases t with
 |bS=>exact h
 |full f'=>exact h
 |tok f' b c=>
  obtain ⟨h0,cur,h1,h2,h3,h4,h5⟩:=h;obtain ⟨k1,k2⟩:=hold f' b c rfl;exact ⟨h0,cur,k1.trans h1,h2,h3,h4,fun o ho hi=>h5 o ho (k2 o hi)⟩
theorem yY.set {R':ak} {w':World} {sz:Nat} {e:TypeId} {fs:List Nat} {ts:List TR} (h:yY R w sz e fs ts) {j n g c:Nat} (qw:Cg R' w' sz e n (.tok n g c)) (M0:∀ i f c,nth ts i=some (.tok f g c)→i=j)
  (hold:∀ i f b c,i≠j→nth ts i=some (.tok f b c)→w'.heap[b]?=w.heap[b]?∧∀ o,R'.I b o→R.I b o):yY R' w' sz e (aG fs j n) (aG ts j (.tok n g c)):=by
 obtain ⟨h1,h2,h3⟩:=h;refine ⟨by simp [h1],fun i i' f1 b c1 f2 c2 q1 q2=>?_,fun i f1 t1 q1 q2=>?_⟩
 ·rcases dW q1 with ⟨n1,e1,_⟩|⟨n1,q1⟩
  ·cases e1;rcases dW q2 with ⟨n2,_,_⟩|⟨n2,q2⟩
   ·exact n1.symm.trans n2
   ·exact absurd (M0 _ _ _ q2).symm n2
  ·rcases dW q2 with ⟨n2,e2,_⟩|⟨n2,q2⟩
   ·cases e2;exact (M0 _ _ _ q1).trans n2
   ·exact h2 i i' _ _ _ _ _ q1 q2
 ·rcases dW q1 with ⟨n1,e1,_⟩|⟨n1,q1⟩
  ·rcases dW q2 with ⟨_,e2,_⟩|⟨n2,_⟩
   ·subst e1 e2;exact qw
   ·exact absurd n1 n2
  ·rcases dW q2 with ⟨n2,_,_⟩|⟨n2,q2⟩
   ·exact absurd n2 n1
   ·exact (h3 i f1 t1 q1 q2).of fun f b c ht=>by subst ht; exact hold i f b c (abH n2) q2
end ops
end Go.Am
namespace Go.Am
open Go
section lists
theorem zp {α:Type} (c us:List α) (n p sz off:Nat) (hn:n≤c.length) (hp:p+sz≤n) (ho:off+us.length≤sz) :
  (c.take (p+off)++us++c.drop (p+off+us.length)).take n =
   (c.take n).take p++((((c.take n).drop p).take sz).take off++us++(((c.take n).drop p).take sz).drop (off+us.length))++(c.take n).drop (p+sz):=by
 apply List.ext_getElem?;intro j;simp only [List.getElem?_append,aby,List.getElem?_drop,abC,abu,abE];by_cases h1:j < p
 ·rw [if_pos (by omega),if_pos (by omega),if_pos (by omega),if_pos (by omega),if_pos (by omega),if_pos (by omega),if_pos (by omega),if_pos (by omega)]
 ·by_cases h2:j < p+off
  ·rw [if_pos (by omega),if_pos (by omega),if_pos (by omega),if_pos (by omega),if_pos (by omega),if_neg (by omega),if_pos (by omega),if_pos (by omega),if_pos (by omega),if_pos (by omega),if_pos (by omega)];congr 1; omega
  ·by_cases h3:j < p+off+us.length
   ·rw [if_pos (by omega),if_pos (by omega),if_neg (by omega),if_pos (by omega),if_neg (by omega),if_pos (by omega),if_neg (by omega)];congr 1; omega
   ·by_cases h4:j < p+sz
    ·rw [if_pos (by omega),if_neg (by omega),if_pos (by omega),if_neg (by omega),if_neg (by omega),if_pos (by omega),if_pos (by omega)];congr 1; omega
    ·by_cases h5:j < n
     ·rw [if_pos (by omega),if_neg (by omega),if_neg (by omega),if_pos (by omega)];congr 1; omega
     ·rw [if_neg (by omega),if_neg (by omega),if_neg (by omega)]
theorem sW {sz:Nat}:∀ {es:List AV} {i:Nat} {e:AV},fc sz es→nth es i=some e→((aq es).drop (i * sz)).take sz=e.cells
 |[],_,_,_,h=>by simp [nth] at h
 |x :: es,0,e,h,hi=>by
  simp only [nth] at hi;cases hi;have h1:=(h x (by simp)).1;rw [abX,List.drop_zero];simp only [aq];rw [← h1,List.take_left]
 |x :: es,i+1,e,h,hi=>by
  have h1:=(h x (by simp)).1;have ih:=sW (i:=i) (fun y hy=>h y (by simp [hy])) (show nth es i=some e from hi);simp only [aq];rw [show (i+1) * sz=x.cells.length+i * sz by rw [h1,abw]; omega,List.drop_append,abz (by omega),abF,abD];exact ih
theorem tV {sz:Nat} {l r:List AV} (h:fc sz l) (k:fc sz r):fc sz (l++r):=fun e he=>by
 rcases abP.1 he with he|he
 ·exact h e he
 ·exact k e he
theorem Cq {sz:Nat} {l:List AV} (n:Nat) (h:fc sz l):fc sz (l.take n):=fun e he=>h e (aaO he)
theorem K7 {sz:Nat} {l:List AV} (n:Nat) (h:fc sz l):fc sz (l.drop n):=fun e he=>h e (abr he)
theorem kE {sz:Nat}:∀ {es:List AV} (i:Nat),fc sz es→aq (es.take i)=(aq es).take (i * sz)
 |[],i,_=>by simp [aq]
 |e :: es,0,_=>by simp [aq]
 |e :: es,i+1,h=>by
  have h1:=(h e (by simp)).1;simp only [List.take_succ_cons,aq];rw [kE i (fun y hy=>h y (by simp [hy])),show (i+1) * sz=e.cells.length+i * sz by rw [h1,abw]; omega,List.take_append,abD,List.take_of_length_le (by omega:e.cells.length≤e.cells.length+i * sz)]
theorem qx {sz:Nat}:∀ {es:List AV} (i:Nat),fc sz es→aq (es.drop i)=(aq es).drop (i * sz)
 |[],i,_=>by simp [aq]
 |e :: es,0,_=>by simp [aq]
 |e :: es,i+1,h=>by
  have h1:=(h e (by simp)).1;simp only [List.drop_succ_cons,aq];rw [qx i (fun y hy=>h y (by simp [hy])),show (i+1) * sz=e.cells.length+i * sz by rw [h1,abw]; omega,List.drop_append,abz (by omega:e.cells.length≤e.cells.length+i * sz),abF,abD]
theorem dU {sz:Nat} {es:List AV} (h:fc sz es):(aq es).length=es.length * sz:=by
 induction es with
 |nil=>simp [aq]
 |cons e es ih=>
  have h1:=(h e (by simp)).1;have:=ih (fun x hx=>h x (by simp [hx]));simp only [aq,abC,this,h1,List.length_cons,abQ];omega
theorem HF {sz:Nat} {es:List AV} {i:Nat} {v:AV} (h:fc sz es) (h1:v.cells.length=sz) (h2:v.ba=true):fc sz (aG es i v):=fun e he=>by
 rw [iw] at he;rcases List.mem_or_eq_of_mem_set he with he|rfl
 ·exact h e he
 ·exact ⟨h1,h2⟩
theorem E8 {sz:Nat} {es:List AV} {i:Nat} {v:AV} (h:fc sz es) (hi:i < es.length) (hv:v.cells.length=sz):aq (aG es i v)=cu (aq es) (i * sz) v.cells:=by
 have Cr:i * sz+sz≤es.length * sz:=by
  rw [← abw];exact abj _ hi
 rw [iw,List.set_eq_take_append_cons_drop,if_pos hi,fY _ _ _ (by rw [hv,dU h]; exact Cr),dw,kE i h,hv];simp only [aq];rw [qx (i+1) h,abw,List.append_assoc]
end lists
section ops
variable {E:Env} {R:ak} {w:World} {β:Nat→Nat} {s:St} {a:Act} {o:Oper}
theorem ng {G:List GO} (h:eI E R w G) {id:Nat} {es:List AV} {sz:Nat} {el:TypeId} {ro:RO} (hid:nth G id=some (.dv es sz el)) (ca:nth R.obj id=some ro) (hn:ro≠.bS) :
  ∃ b c cur vs,ro=.tok es.length b c∧fc sz es∧w.heap[b]?=some (.cells cur el (0,0))∧es.length≤c∧c≤maxLen∧cur.size=c * sz∧(∀ o,¬ R.I b o)∧aP R w (aq es) vs∧(∀ v∈vs,v.oneCell'=true)∧cur.toList.take (es.length * sz)=vs:=by
 have hr:=h.obj id _ _ hid ca;cases ro with
 |none=>exact hr.elim
 |bS=>exact absurd rfl hn
 |ck b=>exact hr.elim
 |bF _=>exact hr.elim
 |tok f b c=>
  obtain ⟨rfl,h1,cur,vs,h2,h3,h4,h5,h6,h7,h8,h9⟩:=hr;exact ⟨b,c,cur,vs,rfl,h1,h2,h3,h4,h5,h6,h7,h8,h9⟩
theorem zq {id f i sz:Nat} {t:TypeId} {v:AV} (h:yU E s id f i sz t=some (true,v)) :
  ∃ es el e,nth s.G id=some (.dv es sz el)∧f=es.length∧nth es i=some e∧j7 e v:=by
 unfold yU at h;split at h
 ·rename_i es bT el hid;split at h
  ·rename_i p hp;split at h
   ·rename_i gi;have gi:=aao gi;subst gi;injection h with h;injection h with h1 h2;simp only [abi,decide_eq_true_eq] at h1;obtain ⟨⟨h3,h4⟩,h5⟩:=h1;obtain ⟨e,he⟩:∃ e,nth es i=some e:=⟨es[i],by rw [bj]; exact abL h4⟩;have hd:ae es i=e:=by simp [ae,he]
    rw [hd] at h5 h2;rw [← h2];exact ⟨es,el,e,hid,h3,he,p.dL h5⟩
   ·cases h
  ·split at h
   ·rename_i gi;have gi:=aao gi;subst gi;injection h with h;injection h with h1 h2;simp only [abi,decide_eq_true_eq] at h1;obtain ⟨h3,h4⟩:=h1;obtain ⟨e,he⟩:∃ e,nth es i=some e:=⟨es[i],by rw [bj]; exact abL h4⟩;have hd:ae es i=e:=by simp [ae,he]
    rw [hd] at h2;rw [← h2];exact ⟨es,el,e,hid,h3,he,j7.refl e⟩
   ·cases h
 ·cases h
theorem Jv {α:Type} {l:List α} {i:Nat} {x:α} (h:nth l i=some x):x∈l:=by
 rw [bj] at h;exact List.mem_of_getElem? h
theorem HG {i n sz:Nat} (h:i < n):i * sz+sz≤n * sz:=by
 rw [← abw];exact abj _ h
theorem HH (h:bq E R w β s a) (t:TypeId) (x:Operand) (ho:o.op=.load t x) {v:AV} (hl:Cd E s t (bQ E s.ab x)=some (true,v)) :
  cz E R w β s a o (s.put o.dst (.v v)):=by
 have rx:=aY h x;unfold Cd at hl;split at hl
 ·rename_i id f i off sz ty hx;rw [hx] at rx;split at hl
  ·rename_i ti c ve XZ hg;split at hl
   ·rename_i l hs;split at hl
    ·rename_i r hm;injection hl with hl;injection hl with h1 h2;subst h1; subst h2;obtain ⟨es,el,e,hid,X3,he,xN⟩:=zq hg;have fe:Rel R w (.gp id f i off sz ty) (a.eval x):=rx;generalize gE:a.eval x=xv at fe;cases fe with
     | @gp _ _ _ _ _ b o' _ ro ca dS=>
     obtain ⟨b',c',cur,vs,rfl,g1,g2,g3,g4,g5,g6,g7,g8,g9⟩:=ng h.g hid ca (fun k=>by subst k; exact dS);obtain ⟨rfl,rfl⟩:=dS.2 X3;have hem:=g1 e (Jv he);have fF:aP R w e.cells ((vs.drop (i * sz)).take sz):=by
      rw [← sW g1 he];exact (g7.drop _).take _
     have hw:=(xN.cells hem.2).rel fF;obtain ⟨k1,k2,k3,k4⟩:=rI hs hw (fun y hy=>g8 y (abr (aaO hy)));obtain ⟨c,hc,hrr⟩:=qm (E:=E) XZ (b:=b) (off:=i * sz+off) k1 k2 k3 (fun j y hy=>by
      have h1:=k4 j y hy;rw [aby] at h1;split at h1
      ·rw [List.getElem?_drop,← g9,aby] at h1;split at h1
       ·rw [cell_of_row w b _ cur el (0,0) g2,Nat.add_assoc,← abS];exact h1
       ·cases h1
      ·cases h1) hm
     refine ap h (c:=c) ?_ hrr;simp [execOp,ho,Instr.loadAt,gE,abG,hc]
    ·cases hl
   ·cases hl
  ·cases hl
 ·split at hl
  ·rename_i v' hv;injection hl with hl;injection hl with h1 h2;subst h2;exact KZ h t x ho hv
  ·cases hl
theorem bq.DI (h:bq E R w β s a) {id f b c:Nat} {es es':List AV} {sz:Nat} {el:TypeId} {cur E7:Array Value} {vs':List Value} (hid:nth s.G id=some (.dv es sz el)) (ca:nth R.obj id=some (.tok f b c))
  (hb:w.heap[b]?=some (.cells cur el (0,0))) (hlen:es'.length=es.length) (rH:fc sz es') (gi:E7.size=cur.size) (hr:aP R w (aq es') vs') (h1:∀ v∈vs',v.oneCell'=true) (ht:E7.toList.take (f * sz)=vs') :
  bq E R (w.setRow b E7) β (s.cP (aG s.G id (.dv es' sz el))) a∧Step R w β s.boxes R (w.setRow b E7) β s.boxes:=by
 obtain ⟨q0,q1,acx,vs0,p1,p2,p3,p4,p5,p6,p7,p8⟩:=h.g.obj id _ _ hid ca;rw [hb] at p1;cases p1;have hex:=kb (R:=R) (w:=w) p5 E7;have HI:∀ k cs,eF s.boxes k=some cs→β k≠b:=fun k cs hk e=>(h.b.box k cs hk).2.2 ⟨id,_,ca,by rw [e]; rfl⟩
 refine ⟨⟨⟨by simp [St.cP,h.g.len],fun kV go ro hg nF=>?_,h.g.inj,fun b' o' sS=>by have:=h.g.wf b' o' sS; simp; omega,fun g cs' hg=>(h.g.cw g cs' hg).mono hex,h.g.lo⟩,?_,h.t.mono hex,h.n,h.d⟩,?_⟩
 ·rcases dW hg with ⟨rfl,rfl,_⟩|⟨cK,sk⟩
  ·rw [ca] at nF;cases nF;exact ⟨by rw [hlen]; exact q0,rH,E7,vs',setRow_heap w _ _ _ _ (0,0) hb,p2,p3,by rw [gi]; exact p4,p5,hr.mono hex,h1,ht⟩
  ·refine (h.g.obj kV go ro sk nF).mono hex (fun b' ka=>setRow_other w _ b' _ (fun e=>cK ?_)) (fun _ _ _ hi=>hi);subst e;exact h.g.inj id kV _ _ b' ca nF rfl ka
 ·exact h.b.bJ hex (fun k cs' jf=>setRow_other w _ _ _ (HI k cs' jf)) (fun _ _ _ _ hi=>hi) (fun _ _ _ hl=>hl)
 ·have Dz:Own R β s.boxes b:=.inl ⟨id,_,ca,rfl⟩;exact ⟨hex,rfl,rfl,rfl,by simp,fun b' _ hn=>setRow_other w _ b' _ (fun e=>hn (e ▸ Dz)),fun _ _ hb=>hb,fun b o hi _ _=>hi⟩
theorem bq.Jw (h:bq E R w β s a) {id b c i off:Nat} {es:List AV} {sz:Nat} {el:TypeId} {cur:Array Value} {vs us:List Value} {e':AV} (hid:nth s.G id=some (.dv es sz el)) (ca:nth R.obj id=some (.tok es.length b c))
  (hb:w.heap[b]?=some (.cells cur el (0,0))) (rH:fc sz es) (hle:es.length≤c) (rJ:cur.size=c * sz) (hr:aP R w (aq es) vs) (h1:∀ v∈vs,v.oneCell'=true) (ht:cur.toList.take (es.length * sz)=vs) (hi:i < es.length)
  (h2:∀ v∈us,v.oneCell'=true) (DJ:off+us.length≤sz) (yl:e'.cells.length=sz) (hn':e'.ba=true) (hre:aP R w e'.cells (((vs.drop (i * sz)).take sz).take off++us++((vs.drop (i * sz)).take sz).drop (off+us.length))) :
  bq E R (w.setRow b ⟨cur.toList.take (i * sz+off)++us++cur.toList.drop (i * sz+off+us.length)⟩) β (s.cP (aG s.G id (.dv (aG es i e') sz el))) a ∧
   Step R w β s.boxes R (w.setRow b ⟨cur.toList.take (i * sz+off)++us++cur.toList.drop (i * sz+off+us.length)⟩) β s.boxes:=by
 have Cr:=HG (sz:=sz) hi;have Rp:es.length * sz≤cur.toList.length:=by
  rw [show cur.toList.length=cur.size from abx,rJ];exact abj _ hle
 have WG:vs.length=es.length * sz:=by rw [← hr.length,dU rH]
 refine h.DI hid ca hb (jr _ _ _) (HF rH yl hn') ?_ (vs':=vs.take (i * sz)++(((vs.drop (i * sz)).take sz).take off++us++((vs.drop (i * sz)).take sz).drop (off+us.length))++vs.drop (i * sz+sz)) ?_ ?_ ?_
 ·rw [List.size_toArray,← abx];simp only [abC,abu,abE];omega
 ·rw [E8 rH hi yl,fY _ _ _ (by rw [yl,dU rH]; exact Cr),yl];exact ((hr.take _).append hre).append (hr.drop _)
 ·intro v hv;simp only [abP] at hv;rcases hv with (hv|((hv|hv)|hv))|hv
  ·exact h1 v (aaO hv)
  ·exact h1 v (abr (aaO (aaO hv)))
  ·exact h2 v hv
  ·exact h1 v (abr (aaO (abr hv)))
  ·exact h1 v (abr hv)
 ·rw [abU,zp _ _ _ _ _ _ Rp Cr DJ,ht]
theorem bq.Jx (h:bq E R w β s a) {id b c off:Nat} {es ns:List AV} {sz:Nat} {el:TypeId} {cur:Array Value} {vs us:List Value} (hid:nth s.G id=some (.dv es sz el)) (ca:nth R.obj id=some (.tok es.length b c))
  (hb:w.heap[b]?=some (.cells cur el (0,0))) (rH:fc sz es) (hle:es.length≤c) (rJ:cur.size=c * sz) (hr:aP R w (aq es) vs) (h1:∀ v∈vs,v.oneCell'=true) (ht:cur.toList.take (es.length * sz)=vs)
  (DJ:off+ns.length≤es.length) (hns:fc sz ns) (hu:aP R w (aq ns) us) (h2:∀ v∈us,v.oneCell'=true) :
  bq E R (w.setRow b ⟨cur.toList.take (off * sz)++us++cur.toList.drop (off * sz+us.length)⟩) β (s.cP (aG s.G id (.dv (cu es off ns) sz el))) a ∧
   Step R w β s.boxes R (w.setRow b ⟨cur.toList.take (off * sz)++us++cur.toList.drop (off * sz+us.length)⟩) β s.boxes:=by
 have X4:us.length=ns.length * sz:=by rw [← hu.length,dU hns]
 have Cr:off * sz+ns.length * sz≤es.length * sz:=by rw [← abQ]; exact abj _ DJ
 have Rp:es.length * sz≤cur.toList.length:=by
  rw [show cur.toList.length=cur.size from abx,rJ];exact abj _ hle
 have WG:vs.length=es.length * sz:=by rw [← hr.length,dU rH]
 have hm:=zp cur.toList us (es.length * sz) (off * sz) (ns.length * sz) 0 Rp Cr (by omega);simp only [Nat.add_zero,List.take_zero,abF,abM] at hm;rw [X4,ht,show List.drop (ns.length * sz) (List.take (ns.length * sz) (List.drop (off * sz) vs))=[] from abz (by rw [abu]; exact Nat.min_le_left _ _),List.append_nil] at hm;rw [fY _ _ _ DJ];refine h.DI hid ca hb (by simp; omega) (tV (tV (Cq _ rH) hns) (K7 _ rH)) ?_ (vs':=vs.take (off * sz)++us++vs.drop (off * sz+ns.length * sz)) ?_ ?_ ?_
 ·rw [List.size_toArray,← abx];simp only [abC,abu,abE,X4];omega
 ·rw [dw,dw,kE _ rH,qx _ rH,abQ];exact ((hr.take _).append hu).append (hr.drop _)
 ·intro v hv;simp only [abP] at hv;rcases hv with (hv|hv)|hv
  ·exact h1 v (aaO hv)
  ·exact h2 v hv
  ·exact h1 v (abr hv)
 ·rw [abU,X4];exact hm
theorem E9 (h:bq E R w β s a) (t:TypeId) (p x:Operand) (ho:o.op=.store t p x) (hd:o.dst=none) {s':St} (hs:kZ E s t (bQ E s.ab p) (bQ E s.ab x)=some (true,s')) :
  cz E R w β s a o s':=by
 have rp:=aY h p;have rx:=aY h x;unfold kZ at hs;split at hs
 ·rename_i id f i off sz ty hpe;rw [hpe] at rp;have rp':Rel R w (.gp id f i off sz ty) (a.eval p):=rp;generalize hpv:a.eval p=pv at rp';split at hs
  ·rename_i ti v es bT el XZ hx hid;rw [hx] at rx;split at hs
   ·rename_i gN;simp only [abi] at gN;obtain ⟨⟨Rk,hlen⟩,X5⟩:=gN;have hlen:=aao hlen;have X5:=aao X5;subst X5;have rxw:Rel R w v (a.eval x):=rx;obtain ⟨c1,c2⟩:=Rel.cells rxw Rk;have ER:v.cells.length=(a.eval x).cells.toList.length:=c1.length;cases rp' with
    | @gp _ _ _ _ _ b o' _ ro ca dS=>
    obtain ⟨b',c',cur,vs,rfl,g1,g2,g3,g4,g5,g6,g7,g8,g9⟩:=ng h.g hid ca (fun k=>by subst k; exact dS);have WG:vs.length=es.length * sz:=by rw [← g7.length,dU g1]
    have Rp:es.length * sz≤cur.toList.length:=by
     rw [show cur.toList.length=cur.size from abx,g5];exact abj _ g3
    split at hs
    ·rename_i hw;rw [abi] at hw;have DJ:=aao hw.1;have hts:=aao hw.2;subst DJ;injection hs with hs;injection hs with h1 h2;rw [abi,decide_eq_true_eq,decide_eq_true_eq] at h1;subst h2;obtain ⟨rfl,rfl⟩:=dS.2 h1.1;have Cr:=HG (sz:=sz) h1.2;have bK:=lB (E:=E) (w:=w) XZ (b:=b) (vs:=cur.toList) (off:=i * sz+0) (c:=a.eval x) g2 (by rw [← ER]; exact hlen) (by rw [← ER]; omega) c2;obtain ⟨r1,r2⟩:=h.Jw (us:=(a.eval x).cells.toList) (off:=0) (i:=i) (e':=v) hid ca g2 g1 g3 g5 g7 g8 g9 h1.2 c2 (by rw [← ER]; omega) (by omega) Rk (by
      rw [List.take_zero,abF,abM,abz (by rw [abu,← ER]; omega),List.append_nil];exact c1)
     simp only [Nat.add_zero] at hpv bK r1 r2;refine ⟨.skip,undef,_,R,β,?_,.inr ⟨rfl,rfl⟩,by rw [hd]; exact r1,r2⟩;simp [execOp,ho,Instr.storeAt,hpv,abG,bK]
    ·split at hs
     ·rename_i cc cs hg;split at hs
      ·rename_i hw;simp only [abi] at hw;obtain ⟨hle,X6⟩:=hw;have hle:=abR hle;have X6:=aao X6;injection hs with hs;injection hs with h1 h2;subst h1; subst h2;obtain ⟨es0,el0,e,M1,X3,he,xN⟩:=zq hg;rw [hid] at M1;cases M1;obtain ⟨rfl,rfl⟩:=dS.2 X3;have hi:i < es.length:=cg he;have Cr:=HG (sz:=sz) hi;have hem:=g1 e (Jv he);have fF:aP R w e.cells ((vs.drop (i * sz)).take sz):=by
        rw [← sW g1 he];exact (g7.drop _).take _
       have hw:=(xN.cells hem.2).rel fF;have hw':aP R w cs ((vs.drop (i * sz)).take sz):=hw;have bK:=lB (E:=E) (w:=w) XZ (b:=b) (vs:=cur.toList) (off:=i * sz+off) (c:=a.eval x) g2 (by rw [← ER]; exact hlen) (by rw [← ER]; omega) c2;have Cs:off+v.cells.length≤cs.length:=by omega
       obtain ⟨r1,r2⟩:=h.Jw (us:=(a.eval x).cells.toList) (off:=off) (i:=i) (e':=.agg (cu cs off v.cells)) hid ca g2 g1 g3 g5 g7 g8 g9 hi c2 (by rw [← ER]; omega) (by show (cu cs off v.cells).length=sz; rw [BF _ _ _ Cs]; exact X6) rfl (by
        show aP R w (cu cs off v.cells) _;rw [fY _ _ _ Cs,ER];exact ((hw'.take _).append c1).append (hw'.drop _))
       refine ⟨.skip,undef,_,R,β,?_,.inr ⟨rfl,rfl⟩,by rw [hd]; exact r1,r2⟩;simp [execOp,ho,Instr.storeAt,hpv,abG,bK]
      ·cases hs
     ·cases hs
   ·cases hs
  ·cases hs
 ·split at hs
  ·rename_i Fa hv;injection hs with hs;injection hs with h1 h2;subst h2;exact Hu h t p x ho hd hv
  ·cases hs
def ak.reset (R:ak) (id:Nat) (ro:RO):ak:=⟨R.I,aG R.obj id ro⟩
theorem zr {id g:Nat} {r0 ro:RO} (hid:nth R.obj id=some r0) (ca:∀ b,ro.has b→b=g) {b:Nat} (hl:Live (R.reset id ro) b):b=g∨Live R b:=by
 obtain ⟨i,r,h1,h2⟩:=hl;rcases aJ hid h1 with ⟨_,rfl⟩|⟨_,h1⟩
 ·exact .inl (ca b h2)
 ·exact .inr ⟨i,r,h1,h2⟩
theorem bq.X7 (h:bq E R w β s a) {cur:Array Value} {vs:List Value} {es es':List AV} {elem:TypeId} {sz cap id:Nat} {r0:RO} (hg:nth s.G id=some (.dv es sz elem)) (hid:nth R.obj id=some r0) (hf:∀ b c,cV r0 (.tok es'.length b c))
  (hn:es'.length≤cap) (hm:cap≤maxLen) (hs:cur.size=cap * sz) (rH:fc sz es') (hr:aP R w (aq es') vs) (h1:∀ v∈vs,v.oneCell'=true) (ht:cur.toList.take (es'.length * sz)=vs) :
  bq E (R.reset id (.tok es'.length w.heap.size cap)) (w.drew.alloc (.cells cur elem)) β (s.cP (aG s.G id (.dv es' sz elem))) a ∧
  Step R w β s.boxes (R.reset id (.tok es'.length w.heap.size cap)) (w.drew.alloc (.cells cur elem)) β s.boxes:=by
 have e:Ext R w (R.reset id (.tok es'.length w.heap.size cap)) (w.drew.alloc (.cells cur elem)):=
  ⟨fun _ _ h=>h,fun b o hi=>cm (heap_alloc_old w.drew _ b (h.g.wf b o hi)) o,fun i r hr=>by
   by_cases ei:id=i
   ·subst ei;rw [hid] at hr;cases hr;exact ⟨_,aV hid,hf _ _⟩
   ·exact ⟨r,by rw [ak.reset,cp ei]; exact hr,cV.refl r⟩,.old fun b hb=>heap_alloc_old w.drew _ b hb⟩
 have old:∀ b,b < w.heap.size→(w.drew.alloc (.cells cur elem)).heap[b]?=w.heap[b]?:=fun b hb=>heap_alloc_old w.drew _ b hb
 have new:(w.drew.alloc (.cells cur elem)).heap[w.heap.size]?=some (.cells cur elem (0,0)):=heap_alloc_new w.drew _;have live:∀ b,b < w.heap.size→Live (R.reset id (.tok es'.length w.heap.size cap)) b→Live R b:=fun b hb hl=>by
  rcases zr (g:=w.heap.size) (ro:=.tok es'.length w.heap.size cap) hid (fun _ h=>h) hl with rfl|hl
  ·omega
  ·exact hl
 refine ⟨⟨⟨by simp [St.cP,ak.reset,h.g.len],fun i gg r xJ h2=>?_,fun i j ri rj b xJ h2 b1 b2=>?_,fun b o hi=>?_,fun g cs hg=>(h.g.cw g cs hg).mono e,abA h.g.lo⟩,?_,h.t.mono e,h.n,h.d.mono e⟩,?_⟩
 ·rcases aJ hid h2 with ⟨rfl,rfl⟩|⟨cK,h2⟩
  ·simp only [St.cP] at xJ;rw [aV hg] at xJ;cases xJ;exact ⟨rfl,rH,cur,vs,new,hn,hm,hs,fun o hi=>by have:=h.g.wf _ _ hi; omega,hr.mono e,h1,ht⟩
  ·simp only [St.cP] at xJ;rw [cp (abH cK)] at xJ;exact (h.g.obj i gg r xJ h2).mono e (fun b hb=>old b (h.g.cj ⟨i,r,h2,hb⟩)) (fun b o _ hi=>hi)
 ·rcases aJ hid xJ with ⟨g3,e1⟩|⟨g3,g1⟩
  ·rcases aJ hid h2 with ⟨g4,e2⟩|⟨g4,g2⟩
   ·omega
   ·have:=h.g.cj ⟨j,rj,g2,b2⟩;rw [e1] at b1;simp [RO.has] at b1;omega
  ·rcases aJ hid h2 with ⟨g4,e2⟩|⟨g4,g2⟩
   ·have:=h.g.cj ⟨i,ri,g1,b1⟩;rw [e2] at b2;simp [RO.has] at b2;omega
   ·exact h.g.inj i j ri rj b g1 g2 b1 b2
 ·have:=h.g.wf b o hi;simp;omega
 ·exact h.b.bJ e (fun k cs hk=>old _ (h.fE (.inr ⟨k,cs,hk,rfl⟩))) (fun k cs o hk hi=>hi) (fun k cs hk hl=>live _ (h.fE (.inr ⟨k,cs,hk,rfl⟩)) hl)
 ·refine ⟨e,rfl,rfl,rfl,by simp,fun b hb _=>old b hb,fun b hb ho=>?_,fun b o hi hb _=>hi⟩;rcases ho with ho|ho
  ·exact .inl (live b hb ho)
  ·exact .inr ho
theorem bq.R4 (h:bq E R w β s a) {cur cur2:Array Value} {vs:List Value} {es es':List AV} {elem:TypeId} {sz id g c:Nat} (hg:nth s.G id=some (.dv es sz elem)) (hid:nth R.obj id=some (.tok es.length g c)) (bY:es.length < es'.length) (hn:es'.length≤c)
  (jY:w.heap[g]?=some (.cells cur elem (0,0))) (hs:cur2.size=cur.size) (rH:fc sz es') (hr:aP R w (aq es') vs) (h1:∀ v∈vs,v.oneCell'=true) (ht:cur2.toList.take (es'.length * sz)=vs) :
  bq E (R.reset id (.tok es'.length g c)) (w.setRow g cur2) β (s.cP (aG s.G id (.dv es' sz elem))) a ∧
  Step R w β s.boxes (R.reset id (.tok es'.length g c)) (w.setRow g cur2) β s.boxes:=by
 obtain ⟨q0,q1,acx,vs0,p1,p2,p3,p4,p5,p6,p7,p8⟩:=h.g.obj id _ _ hg hid;rw [jY] at p1;cases p1;have sU:Live R g:=⟨id,_,hid,rfl⟩;have old:∀ b,b≠g→(w.setRow g cur2).heap[b]?=w.heap[b]?:=fun b hb=>setRow_other w g b cur2 hb
 have new:(w.setRow g cur2).heap[g]?=some (.cells cur2 elem (0,0)):=setRow_heap w g cur cur2 elem (0,0) jY;have e:Ext R w (R.reset id (.tok es'.length g c)) (w.setRow g cur2):=by
  have e0:=kb (R:=R) (w:=w) p5 cur2;refine ⟨fun _ _ h=>h,e0.cell,fun i r hr=>?_,e0.lp⟩;by_cases ei:id=i
  ·subst ei;rw [hid] at hr;cases hr;exact ⟨_,aV hid,by omega,fun e=>by omega⟩
  ·exact ⟨r,by rw [ak.reset,cp ei]; exact hr,cV.refl r⟩
 have live:∀ b,Live (R.reset id (.tok es'.length g c)) b→Live R b:=fun b hl=>by
  rcases zr (g:=g) (ro:=.tok es'.length g c) hid (fun _ h=>h) hl with rfl|hl
  ·exact sU
  ·exact hl
 have sV:∀ k cs,eF s.boxes k=some cs→β k≠g:=fun k cs hk eq=>(h.b.box k cs hk).2.2 (eq ▸ sU)
 refine ⟨⟨⟨by simp [St.cP,ak.reset,h.g.len],fun i gg r xJ h2=>?_,fun i j ri rj b xJ h2 b1 b2=>?_,fun b o hi=>?_,fun g cs hg=>(h.g.cw g cs hg).mono e,h.g.lo⟩,?_,h.t.mono e,h.n,h.d.mono e⟩,?_⟩
 ·rcases aJ hid h2 with ⟨rfl,rfl⟩|⟨cK,h2⟩
  ·simp only [St.cP] at xJ;rw [aV hg] at xJ;cases xJ;exact ⟨rfl,rH,cur2,vs,new,hn,p3,by rw [hs]; exact p4,p5,hr.mono e,h1,ht⟩
  ·simp only [St.cP] at xJ;rw [cp (abH cK)] at xJ;have X1:∀ b,r.has b→b≠g:=fun b hb eq=>cK (h.g.inj i id _ _ b h2 hid hb (by rw [eq]; rfl))
   exact (h.g.obj i gg r xJ h2).mono e (fun b hb=>old b (X1 b hb)) (fun b o hb hi=>hi)
 ·rcases aJ hid xJ with ⟨g3,e1⟩|⟨g3,g1⟩
  ·rcases aJ hid h2 with ⟨g4,e2⟩|⟨g4,g2⟩
   ·omega
   ·rw [e1] at b1;exact g3.trans (h.g.inj id j _ _ b hid g2 b1 b2)
  ·rcases aJ hid h2 with ⟨g4,e2⟩|⟨g4,g2⟩
   ·rw [e2] at b2;exact (h.g.inj i id _ _ b g1 hid b1 b2).trans g4.symm
   ·exact h.g.inj i j ri rj b g1 g2 b1 b2
 ·have:=h.g.wf b o hi;simpa using this
 ·exact h.b.bJ e (fun k cs hk=>old _ (sV k cs hk)) (fun k cs o hk hi=>hi) (fun k cs hk hl=>live _ hl)
 ·refine ⟨e,rfl,rfl,rfl,by simp,fun b hb vy=>old b (fun eq=>vy (.inl (eq ▸ sU))),fun b hb ho=>?_,fun b o hi hb vy=>hi⟩;rcases ho with ho|ho
  ·exact .inl (live b ho)
  ·exact .inr ho
theorem bq.HJ (h:bq E R w β s a) {cur:Array Value} {vs:List Value} {es:List AV} {elem:TypeId} {sz cap:Nat} (hn:es.length≤cap) (hm:cap≤maxLen) (hs:cur.size=cap * sz) (rH:fc sz es) (hr:aP R w (aq es) vs) (h1:∀ v∈vs,v.oneCell'=true) (ht:cur.toList.take (es.length * sz)=vs) :
  bq E (R.add (.tok es.length w.heap.size cap)) (w.alloc (.cells cur elem)) β (s.fj (.dv es sz elem)) a:=
 h.nE (.cells cur elem) (.dv es sz elem) (.tok es.length w.heap.size cap) (by exact fun _ h=>h)
  ⟨rfl,rH,cur,vs,heap_alloc_new w _,hn,hm,hs,fun o hi=>by have:=h.g.wf _ _ hi; omega,hr.mono (iV h.g.wf _ _),h1,ht⟩
theorem xO (h:bq E R w β s a) (t:TypeId) (x y:Operand) (ho:o.op=.makeSlice t x y) {i:TI} (hi:E.ti t=some i) {k k':IntKind} {n m:Int} (hx:bQ E s.ab x=.v (.int k n)) (hy:bQ E s.ab y=.v (.int k' m))
  {elem esz qp:Nat} {ag:Bool} {z:AV} (hk:i.k=.sl elem esz ag qp (some z)) (hz:z.cells.length=esz) (K6:1≤esz) (tF:z.ba=true) (vf:z.closed=true) (hc:0≤n∧n≤m∧m≤140737488355328∧m * qp≤140737488355328) :
  cz E R w β s a o ((s.fj (.dv (abn n.toNat z) esz elem)).put o.dst (.v (.dM s.G.length n.toNat 0 esz n.toNat))):=by
 obtain ⟨us,z1,z2,bK⟩:=sA h t x y ho hi hx hy hk hz K6 tF hc;have hnm:n.toNat≤m.toNat:=by omega
 have rH:=(gZ (n:=m.toNat) hz tF vf).g;have X4:us.length=m.toNat * esz:=by rw [← z1.length,dU rH,abT]
 have Rp:(abn n.toNat z).length=n.toNat:=abT;have Hd:(abn m.toNat z).take n.toNat=abn n.toNat z:=by rw [List.take_replicate,Nat.min_eq_left hnm]
 have hr:aP R w (aq (abn n.toNat z)) (us.take (n.toNat * esz)):=by
  rw [← Hd,kE _ rH];exact z1.take _
 have r1:=h.HJ (cur:=⟨us⟩) (vs:=us.take (n.toNat * esz)) (es:=abn n.toNat z) (elem:=elem) (cap:=m.toNat) (by rw [Rp]; exact hnm) (by unfold maxLen; omega) (by simpa using X4) (gZ hz tF vf).g hr (fun v hv=>z2 v (aaO hv)) (by rw [Rp]);rw [Rp] at r1;have e:=iV (R:=R) (w:=w) h.g.wf (.cells ⟨us⟩ elem) (.tok n.toNat w.heap.size m.toNat);exact ⟨_,.slice (some ⟨w.heap.size,0,none⟩) n.toNat m.toNat,_,R.add (.tok n.toNat w.heap.size m.toNat),β,bK,.inl rfl,r1.put o.dst (x:=.v (.dM s.G.length n.toNat 0 esz n.toNat)) (Rel.dM (iy h _) ⟨aaB _,fun _=>⟨rfl,abM _,.inl (abX _).symm⟩⟩ hnm),by rw [bf]; exact dD h _ _ (by exact fun _ h=>h)⟩
theorem vz (h:bq E R w β s a) (t:TypeId) (len:Nat) (parts:Array (Nat × Operand)) (ho:o.op=.buildSlice t len parts) {k:LK} {esz:Nat} {es:List AV} (hv:cn E s t len parts.toList=some (.list k esz es)) {i:TI} (hi:E.ti t=some i) {elem bT qp:Nat} {ag:Bool} {z:Option AV} (hk:i.k=.sl elem bT ag qp z) (hm:len≤65536) :
  cz E R w β s a o ((s.fj (.dv es esz elem)).put o.dst (.v (.dM s.G.length len 0 esz len))):=by
 obtain ⟨es',XV,us,acv,hve,bK,g2,hlen,u2,u3,i',ag',by',z',sS,jf⟩:=jL h t len parts ho hv;cases hve;rw [hi] at sS;cases sS;rw [hk] at jf;cases jf;have hus:us.length=len * esz:=by rw [← u2.length,fg g2,hlen]
 have r1:=h.HJ (cur:=⟨us⟩) (vs:=us) (es:=es) (elem:=elem) (cap:=len) (by rw [hlen]; exact aaB _) (by simp [maxLen]; omega) (by simpa using hus) g2.g u2 u3 (by rw [hlen,← hus]; exact List.take_length);rw [hlen] at r1;exact ⟨_,.slice (some ⟨w.heap.size,0,none⟩) len len,_,R.add (.tok len w.heap.size len),β,bK,.inl rfl,r1.put o.dst (x:=.v (.dM s.G.length len 0 esz len)) (Rel.dM (iy h _) ⟨aaB _,fun _=>⟨rfl,abM _,.inl (abX _).symm⟩⟩ (aaB _)),by rw [bf]; exact dD h _ _ (by exact fun _ h=>h)⟩
end ops
end Go.Am
