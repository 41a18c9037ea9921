/- The abstract machine: what it does is what the model does: slices that are cut,made,measured. -/
import Derived.Test.YtldcljfjjoidhaaGreatDoorAmKB
set_option linter.all false
open Array renaming length_toList→aba, getElem?_toList→ab3
open Bool renaming and_eq_true→aaH
open Go.Builtin renaming len_→aaY, min2→abV
open Go.Instr renaming sliceAt→aaZ, slice→aa6, sureAddr→abR, sliceBound→abT, makeSlice→abZ
open Go.Op renaming bytesLess→ab6
open Go.Result renaming andThen_ok→aaa
open Go.Sem renaming run_bind→aac, run_pure→aa4
open List renaming mem_of_mem_take→aaB, replicate→aaR, length_nil→aaX, mem_of_mem_drop→aa3, length_take→aa5, getElem?_take→abq, drop_of_length_le→abu, length_append→abN, length_drop→abP, nil_append→abQ, foldlM_cons→abU, getElem?_eq_getElem→abW, mem_append→ab0, length_replicate→ab4, toList_toArray→ab5
open Nat renaming eq_of_beq_eq_true→aab, le_refl→aax, mul_le_mul_right→aaM, succ_mul→aa9, le_succ_of_le→abJ, le_zero_eq→abK, add_sub_cancel_left→abO, zero_add→abX, add_mul→ab1, le_of_ble_eq_true→ab2, zero_mul→ab8
open Ne renaming symm→abS
open Option renaming map_none→aaC, map_some→abY
namespace Go.Am
open Go
section ops
variable {E:Env} {R:ak} {w:World} {β:Nat→Nat} {s:St} {a:Act} {o:Oper}
def UQ (R:ak) (w:World) (β:Nat→Nat):Option SV→Option Value→Prop
 |none,none=>True
 |some x,some c=>qQ R w β x c
 |_,_=>False
theorem A3 {y y' n:Nat} {x:SV} {c:Value} (hx:qQ R w β x c) (hb:BS y x=some (true,n)) (hy:y≤y') (code:BoundsCode) :
  (abT c y' code).run E.P w=.ok n w∧n≤y:=by
 unfold BS at hb;split at hb
 ·rename_i k m;injection hb with hb;injection hb with h1 h2;subst h2;obtain ⟨h0,h3⟩:=of_decide_eq_true h1;have oJ:Rel R w (.int k m) c:=hx;cases oJ;exact ⟨run_sliceBound (P:=E.P) w k m y' code h0 (by omega),by omega⟩
 ·cases hb
theorem dY (isS:Bool) {len cap l h:Nat} (E9:len≤cap) {lo hi:Option SV} {lv hv:Option Value} (hl:UQ R w β lo lv) (hh:UQ R w β hi hv) (hb:Fk len lo hi=some (true,l,h)) :
  (Instr.sliceBounds isS len cap lv hv none).run E.P w=.ok (l,h,cap) w∧l≤h∧h≤len:=by
 unfold Fk at hb;split at hb
 ·cases hb
 ·rename_i c1 h' lG;split at hb
  ·cases hb
  ·rename_i c2 l' UR;injection hb with hb;injection hb with hc hb;injection hb with e1 e2;subst e1; subst e2;simp only [aaH] at hc;obtain ⟨rfl,rfl⟩:=hc;have H:∃ _:True,(match hv with | some v=>abT v cap (if isS=true then .sliceAcap else .sliceAlen) | none=>pure len).run E.P w=.ok h' w∧h'≤len:=by
    refine ⟨trivial,?_⟩;cases hi with
    |none=>cases hv with
     |none=>simp at lG; subst lG; exact ⟨rfl,aax _⟩
     |some v=>exact hh.elim
    |some x=>cases hv with
     |none=>exact hh.elim
     |some v=>exact A3 (E:=E) hh lG E9 _
   have L:∃ _:True,(match lv with | some v=>abT v h' .sliceB | none=>pure 0).run E.P w=.ok l' w∧l'≤h':=by
    refine ⟨trivial,?_⟩;cases lo with
    |none=>cases lv with
     |none=>simp at UR; subst UR; exact ⟨rfl,Nat.zero_le _⟩
     |some v=>exact hl.elim
    |some x=>cases lv with
     |none=>exact hl.elim
     |some v=>exact A3 (E:=E) hl UR (aax _) _
   obtain ⟨_,H1,H2⟩:=H;obtain ⟨_,L1,L2⟩:=L;refine ⟨?_,L2,H2⟩;cases hv <;> cases lv <;> simp_all [Instr.sliceBounds]
theorem Dg (h:bl E R w β s a) {x:Option Operand} {y:Option SV} (hx:nG E s.ae x=some y):UQ R w β y (x.map a.eval):=by
 cases x with
 |none=>simp [nG] at hx; subst hx; trivial
 |some x=>simp [nG] at hx; subst hx; exact aT h x
theorem pg {α:Type} {l:List α} {lo hi:Nat} (h:hi≤l.length):(di lo hi l).length=hi - lo:=by
 simp [di];omega
theorem Ao (l:List UInt8) (lo hi:Nat):(⟨⟨l⟩⟩:ByteArray).extract lo hi=⟨⟨di lo hi l⟩⟩:=by
 apply ByteArray.ext;rw [ByteArray.data_extract];apply Array.ext';simp [List.extract_eq_take_drop,di,List.drop_take]
theorem HB {ag:Bool} {b sz:Nat} (eY:(ag || Nat.beq sz 1)=true):∀ (n:Nat) {cs:List AV} {o:Nat},dR R w b o cs→n * sz≤cs.length→allFit (Fl ag) (gZ ag sz n cs)=true→gl R w b o sz (gZ ag sz n cs)
 |0,_,_,_,_,_=>.nil
 |n+1,cs,o,hc,hl,hf=>by
  simp only [gZ,allFit,aaH] at hf;obtain ⟨KT,hf2⟩:=hf;unfold Fl at KT;simp only [aaH] at KT;obtain ⟨⟨h1,h2⟩,h3⟩:=KT;have hle:sz≤cs.length:=by rw [aa9] at hl; omega
  have mi:(Yx ag (cs.take sz)).cells=cs.take sz:=by
   cases ag with
   |true=>rfl
   |false=>
    have HA:sz=1:=by simpa using eY
    subst HA
    match cs,hle with
    |a :: cs,_=>
     show AV.cells a=[a];have ho:a.one=true:=by simpa [Yx,eB] using h2
     cases a <;> first | rfl | simp [AV.one] at ho
  obtain ⟨vs,k1,k2,k3,k4⟩:=hc.get;have hA:dR R w b o (cs.take sz):=dR.make (k1.take sz) (fun v hv=>k2 v (aaB hv)) (fun j v hv=>k3 j v (by
   rw [abq] at hv;split at hv
   ·exact hv
   ·cases hv)) (fun j hj=>k4 j (by rw [aa5] at hj; omega))
  exact .cons (by rw [mi,aa5,Nat.min_eq_left hle]) h1 h3 (by rw [mi]; exact hA) (HB eY n (hc.drop sz) (by rw [abP]; rw [aa9] at hl; omega) hf2)
theorem qZ (ag:Bool) (sz:Nat):∀ (n:Nat) (cs:List AV),(gZ ag sz n cs).length=n
 |0,_=>rfl
 |n+1,cs=>by simp [gZ,qZ ag sz n]
theorem FC (h:bl E R w β s a) (t:TypeId) (x:Operand) (lo hi:Option Operand) (ho:o.op=.slice t x lo hi none) {l h':Option SV} (hl:nG E s.ae lo=some l) (hh:nG E s.ae hi=some h') {v:AV} (hv:BT E t (bJ E s.ae x) l h' none=some (true,v)) :
  cm E R w β s a o (s.put o.dst (.v v)):=by
 have rx:=aT h x;have rl:=Dg h hl;have rh:=Dg h hh;unfold BT at hv;split at hv
 ·rename_i i uf hmx;obtain ⟨hJ,u,e1,e2,e3,e4,e5,e6⟩:=cu E uf;split at hv
  ·-- a string
   rename_i bs hk hx;rw [hx] at rx;have dN:Rel R w (.str bs) (a.eval x):=rx;generalize fy:a.eval x=xv at dN;cases dN;rw [hk] at e5;have:=kA e5;subst this;split at hv
   ·rename_i c p q hb;injection hv with hv;injection hv with h1 h2;subst h1; subst h2;obtain ⟨k1,k2,k3⟩:=dY (E:=E) false (aax _) rl rh hb;refine ao h (c:=.string ⟨⟨di p q bs⟩⟩) ?_ (Rel.str _);rw [← Ao];simp only [execOp,ho,aaZ,aac,run_underlying e2,aaa,aa6,fy,aaC,Option.isSome_none,Bool.false_eq_true,if_false,size_bytes,k1,aa4]
   ·cases hv
  ·-- a list
   rename_i elem esz ag oZ z k sz es hk hx;rw [hx] at rx;rw [hk] at e5;obtain ⟨ie,ue,rfl,f1,f2,f3,f4,f5,f6⟩:=ee e5;split at hv
   ·rename_i eY;split at hv
    ·rename_i c p q hb;injection hv with hv;injection hv with h1 h2;subst h1; subst h2;have dN:Rel R w (.list k sz es) (a.eval x):=rx;generalize fy:a.eval x=xv at dN;cases dN with
     |kz=>
      obtain ⟨k1,k2,k3⟩:=dY (E:=E) true (aax _) rl rh hb;simp only [aaX,abK] at k3;subst k3;have:p=0:=by omega
      subst this;refine ao h (c:=.slice none 0 0) ?_ ?_
      ·simp only [execOp,ho,aaZ,aac,run_underlying e2,aaa,aa6,fy,aaC];simp only [aaX] at k1;simp [k1,run_sizeOf w f1]
      ·exact Rel.kz
     |ja=>
      obtain ⟨k1,k2,k3⟩:=dY (E:=E) true (aax _) rl rh hb;simp only [aaX,abK] at k3;subst k3;have:p=0:=by omega
      subst this;refine ao h (c:=.slice none 0 0) ?_ ?_
      ·simp only [execOp,ho,aaZ,aac,run_underlying e2,aaa,aa6,fy,aaC];simp only [aaX] at k1;simp [k1,run_sizeOf w f1]
      ·exact Rel.ja
     | @nI _ ad=>
      obtain ⟨k1,k2,k3⟩:=dY (E:=E) true (aax _) rl rh hb;simp only [aaX,abK] at k3;subst k3;have:p=0:=by omega
      subst this;refine ao h (c:=.slice (some ad) 0 0) ?_ ?_
      ·simp only [execOp,ho,aaZ,aac,run_underlying e2,aaa,aa6,fy,aaC];simp only [aaX] at k1;simp [k1,run_sizeOf w f1]
      ·exact Rel.nI
     |mH h0 X0=>
      obtain ⟨k1,k2,k3⟩:=dY (E:=E) true (aax _) rl rh hb;simp only [aaX,abK] at k3;subst k3;have:p=0:=by omega
      subst this;refine ao h (c:=.slice none 0 0) ?_ ?_
      ·simp only [execOp,ho,aaZ,aac,run_underlying e2,aaa,aa6,fy,aaC];simp only [aaX] at k1;simp [k1,run_sizeOf w f1]
      ·exact Rel.ja
     |nJ h0 X0=>
      obtain ⟨k1,k2,k3⟩:=dY (E:=E) true (aax _) rl rh hb;simp only [aaX,abK] at k3;subst k3;have:p=0:=by omega
      subst this;refine ao h (c:=.slice none 0 0) ?_ ?_
      ·simp only [execOp,ho,aaZ,aac,run_underlying e2,aaa,aa6,fy,aaC];simp only [aaX] at k1;simp [k1,run_sizeOf w f1]
      ·exact Rel.ja
     | @list _ _ _ b o' len cap hr hlen hU KN=>
      subst hlen;obtain ⟨k1,k2,k3⟩:=dY (E:=E) true hU rl rh hb;have YN:es≠[]→sz=esz:=fun cQ=>by
       simp only [Bool.or_eq_true] at eY;rcases eY with hc|hc
       ·exact aab hc
       ·simp at hc; exact absurd hc cQ
      have bE:(execOp a.eval o).run E.P w=.ok (.value (.slice (if cap=p then some ⟨b,o',none⟩ else some ⟨b,o'+p * esz,none⟩) (q - p) (cap - p))) w:=by
       simp only [execOp,ho,aaZ,aac,run_underlying e2,aaa,aa6,fy,aaC,k1,run_sizeOf w f1,f2,aa4,abY,cH]
      have wG:∀ b2 o2,BU R (match k with | .nil=>LK.nil | .full=>(match h' with | none=>LK.full | some _=>LK.lq) | _=>LK.lq) b2 o2 (q - p) (cap - p):=by
       intro b2 o2;cases k with
       |nil=>exact KN.elim
       |lq=>trivial
       |own id=>trivial
       |bB id j=>trivial
       |full=>
        have hc:cap=es.length:=KN;cases h' with
        |some _=>trivial
        |none=>
         have hq:q=es.length:=by
          unfold Fk at hb;simp only at hb;split at hb
          ·cases hb
          ·injection hb with hb;injection hb with _ hb;injection hb with _ hb;exact hb.symm
         show cap - p=q - p;omega
      by_cases X1:cap=p
      ·refine ao h (c:=.slice (some ⟨b,o',none⟩) (q - p) (cap - p)) (by rw [bE,if_pos X1]) ?_;have he:di p q es=[]:=List.eq_nil_of_length_eq_zero (by rw [pg k3]; omega);exact Rel.list (by rw [he]; exact .nil) (by rw [pg k3]) (by omega) (wG _ _)
      ·refine ao h (c:=.slice (some ⟨b,o'+p * esz,none⟩) (q - p) (cap - p)) (by rw [bE,if_neg X1]) ?_;refine Rel.list ?_ (by rw [pg k3]) (by omega) (wG _ _);by_cases cQ:es=[]
       ·subst cQ;simp [di];exact .nil
       ·have:=YN cQ;subst this;exact A2 p (uh q hr)
    ·cases hv
   ·cases hv
  ·-- a heap slice
   rename_i elem esz ag oZ z id off sz len cap hk hx;rw [hx] at rx;rw [hk] at e5;obtain ⟨ie,ue,rfl,f1,f2,f3,f4,f5,f6⟩:=ee e5;split at hv
   ·rename_i eY;have eY:=aab eY;subst eY;split at hv
    ·rename_i c p q hb;injection hv with hv;injection hv with h1 h2;subst h1; subst h2;have dN:Rel R w (.jZ id off sz len cap) (a.eval x):=rx;generalize fy:a.eval x=xv at dN;cases dN with
     | @jZ _ _ _ _ _ b hbk hU=>
      obtain ⟨k1,k2,k3⟩:=dY (E:=E) true hU rl rh hb;refine ao h (c:=.slice (some ⟨b,bif Nat.beq cap p then off else off+p * sz,none⟩) (q - p) (cap - p)) ?_ (Rel.jZ hbk (by omega));have hb:(bif Nat.beq cap p then off else off+p * sz)=if cap=p then off else off+p * sz:=by
       by_cases e:cap=p
       ·rw [if_pos e,e,show Nat.beq p p=true from Nat.beq_refl p]; rfl
       ·rw [if_neg e];cases hq:Nat.beq cap p with
        |true=>exact absurd (aab hq) e
        |false=>rfl
      rw [hb];simp only [execOp,ho,aaZ,aac,run_underlying e2,aaa,aa6,fy,aaC,k1,run_sizeOf w f1,f2,aa4,abY,cH];split <;> rfl
    ·cases hv
   ·cases hv
  ·-- a slice that grows
   rename_i elem esz ag oZ z id f' off sz len hk hx;rw [hx] at rx;rw [hk] at e5;obtain ⟨ie,ue,rfl,f1,f2,f3,f4,f5,f6⟩:=ee e5;split at hv
   ·rename_i eY;have eY:=aab eY;subst eY;split at hv
    ·rename_i c p q hb;injection hv with hv;injection hv with h1 h2;subst h1; subst h2;have dN:Rel R w (.eu id f' off sz len) (a.eval x):=rx;generalize fy:a.eval x=xv at dN;cases dN with
     |iV h0 X0=>
      obtain ⟨k1,k2,k3⟩:=dY (E:=E) true (aax _) rl rh hb;simp only [abK] at k3;subst k3;have:p=0:=by omega
      subst this;refine ao h (c:=.slice none 0 0) ?_ ?_
      ·simp only [execOp,ho,aaZ,aac,run_underlying e2,aaa,aa6,fy,aaC];simp [k1,run_sizeOf w f1]
      ·exact Rel.iV h0 X0
     | @eu _ _ _ _ _ cap b o' ro b6 eJ hU=>
      obtain ⟨k1,k2,k3⟩:=dY (E:=E) true hU rl rh hb;have bE:(execOp a.eval o).run E.P w=.ok (.value (.slice (if cap=p then some ⟨b,o',none⟩ else some ⟨b,o'+p * sz,none⟩) (q - p) (cap - p))) w:=by
       simp only [execOp,ho,aaZ,aac,run_underlying e2,aaa,aa6,fy,aaC,k1,run_sizeOf w f1,f2,aa4,abY,cH]
      have US:∀ o2,(o2=o'+p * sz∨cap=p)→IT b o2 f' (off+p) sz (cap - p) ro:=fun o2 h2=>by
       cases ro with
       |none=>trivial
       |bO=>exact eJ.elim
       |ca _=>exact eJ.elim
       |bB _=>exact eJ.elim
       |tok f1 b1 c1=>
        refine ⟨eJ.1,fun e=>?_⟩;obtain ⟨q1,q2,q3⟩:=eJ.2 e;refine ⟨q1,by omega,?_⟩;rcases h2 with h2|h2
        ·rcases q3 with q3|q3
         ·exact .inl (by rw [h2,q3,ab1])
         ·exact .inr (by omega)
        ·exact .inr (by omega)
      by_cases X1:cap=p
      ·exact ao h (c:=.slice (some ⟨b,o',none⟩) (q - p) (cap - p)) (by rw [bE,if_pos X1]) (Rel.eu b6 (US _ (.inr X1)) (by omega))
      ·exact ao h (c:=.slice (some ⟨b,o'+p * sz,none⟩) (q - p) (cap - p)) (by rw [bE,if_neg X1]) (Rel.eu b6 (US _ (.inl rfl)) (by omega))
    ·cases hv
   ·cases hv
  ·-- an array that never changes again
   rename_i len esz ag cs hk hx;rw [hx] at rx;rw [hk] at e5;obtain ⟨e,ie,ue,rfl,f1,f2,f3,f4⟩:=oY e5;split at hv
   ·split at hv
    ·rename_i cL;simp only [aaH] at cL;obtain ⟨⟨⟨c1,c2⟩,c3⟩,c4⟩:=cL;injection hv with hv;injection hv with _ h2;subst h2;have dN:Rel R w (.ep cs) (a.eval x):=rx;generalize fy:a.eval x=xv at dN;cases dN with
     | @ep _ b o' hr=>
     obtain ⟨k1,_,_⟩:=dY (E:=E) (w:=w) (R:=R) (β:=β) (l:=0) (h:=len) false (aax len) rl rh rfl;refine ao h (c:=.slice (some ⟨b,o',none⟩) len len) ?_ (Rel.list (HB c3 len hr (ab2 c1) c4) (qZ _ _ _ _).symm (aax _) rfl);simp only [execOp,ho,aaZ,aac,run_underlying e2,aaa,fy,abR,aaC,k1,run_sizeOf w f1,f2,aa4];by_cases uk:len=0
     ·subst uk;simp
     ·simp [uk,cH]
    ·cases hv
   ·cases hv
  ·cases hv
 ·cases hv
theorem B3 (h:bl E R w β s a) (t:TypeId) (ho:o.op=.makeMap t none):cm E R w β s a o ((s.dQ (.map [])).put o.dst (.v (.map s.G.length))):=by
 have iE:gK (R.add (.ca w.heap.size)) (w.alloc (.map #[] 0)) (.map []) (.ca w.heap.size):=⟨#[],0,heap_alloc_new w _,trivial,rfl,fun i e he=>by simp at he⟩;refine ⟨_,.map (some w.heap.size),w.alloc (.map #[] 0),R.add (.ca w.heap.size),β,?_,.inl rfl,(h.mg (.map #[] 0) (.map []) (.ca w.heap.size) (by exact fun _ h=>h) iE).put o.dst (x:=.v (.map s.G.length)) (Rel.map (gq h _)),by rw [a6]; exact cZ h _ _ (by exact fun _ h=>h)⟩;simp only [execOp,ho,Instr.makeMap,aaC,aac,run_newObj,aaa,aa4];rfl
theorem q7 (h:bl E R w β s a) (t:TypeId) (x y:Operand) (ho:o.op=.makeSlice t x y) {i:TI} (hi:E.ti t=some i) {k k':IntKind} {n m:Int} (hx:bJ E s.ae x=.v (.int k n)) (hy:bJ E s.ae y=.v (.int k' m))
  {elem esz oZ:Nat} {ag:Bool} {z:AV} (hk:i.k=.sl elem esz ag oZ (some z)) (hz:z.cells.length=esz) (I2:1≤esz) (su:z.aY=true) (hc:0≤n∧n≤m∧m≤140737488355328∧m * oZ≤140737488355328) :
  ∃ us,aK R w (aq (aaR m.toNat z)) us∧(∀ v∈us,v.oneCell'=true)∧(execOp a.eval o).run E.P w=.ok (.value (.slice (some ⟨w.heap.size,0,none⟩) n.toNat m.toNat)) (w.alloc (.cells ⟨us⟩ elem)):=by
 have rx:=aT h x;have ry:=aT h y;rw [hx] at rx;rw [hy] at ry;have dN:Rel R w (.int k n) (a.eval x):=rx;have qY:Rel R w (.int k' m) (a.eval y):=ry;generalize fy:a.eval x=xv at dN;generalize YH:a.eval y=yv at qY;cases dN;cases qY;obtain ⟨c1,c2,c3,c4⟩:=hc;obtain ⟨hJ,u,e1,e2,e3,e4,e5,e6⟩:=cu E hi;rw [hk] at e5;obtain ⟨ie,ue,rfl,f1,f2,f3,f4,f5,f6⟩:=ee e5;obtain ⟨zc,tR,Fa⟩:=dj f6;have TF:=Fa R w;obtain ⟨d1,d2⟩:=Rel.cells TF su;have ql:zc.cells.size=esz:=by rw [← hz,d1.length]; simp
 obtain ⟨z1,z2⟩:=mN TF su m.toNat;have xD:((Array.range (m.toNat * esz)).map fun i=>zc.cells[i % zc.cells.size]!)=⟨(aaR m.toNat zc.cells.toList).flatten⟩:=by
  apply Array.ext';rw [← ql];exact pf zc.cells m.toNat
 have wn:IntKind.i64.wrap n=n:=IntWalk.i64_in n (by omega);have wm:IntKind.i64.wrap m=m:=IntWalk.i64_in m (by omega);have bE:(abZ t (.int k n) (.int k' m)).run E.P w=.ok (.slice (some ⟨w.heap.size,0,none⟩) n.toNat m.toNat) (w.alloc (.cells ⟨(aaR m.toNat zc.cells.toList).flatten⟩ elem)):=by
  have hby:(ie.bytes:Int) * m≤281474976710656:=by rw [f3,Int.mul_comm]; omega
  have YO:¬ 281474976710656 < (ie.bytes:Int) * m:=by omega
  have h1:¬ m < 0:=by omega
  have h2:¬ n < 0:=by omega
  have h3:¬ m < n:=by omega
  have UT:(typeInfo elem).run E.P w=.ok ie w:=by simp [typeInfo,f1]
  by_cases h0:m.toNat * esz=0
  ·have hm0:m.toNat=0:=by
    rcases Nat.mul_eq_zero.1 h0 with h0|h0 <;> omega
   have Df:∀ f:Nat→Value,Array.map f (Array.range 0)=#[]:=fun f=>by simp
   simp [abZ,run_underlying e2,asInt,asIntOf,UT,wn,wm,h1,h2,h3,YO,run_sizeOf w f1,f2,hm0,newRow];rw [Df]
  ·simp [abZ,run_underlying e2,asInt,asIntOf,UT,wn,wm,h1,h2,h3,YO,run_sizeOf w f1,f2,h0,gM w f1 tR,newRow];rw [← xD]
 refine ⟨_,z1,z2,?_⟩;simp only [execOp,ho,fy,YH,aac,bE,aaa,aa4]
theorem xF (h:bl E R w β s a) (t:TypeId) (x y:Operand) (ho:o.op=.makeSlice t x y) {i:TI} (hi:E.ti t=some i) {k k':IntKind} {n m:Int} (hx:bJ E s.ae x=.v (.int k n)) (hy:bJ E s.ae y=.v (.int k' m))
  {elem esz oZ:Nat} {ag:Bool} {z:AV} (hk:i.k=.sl elem esz ag oZ (some z)) (hz:z.cells.length=esz) (I2:1≤esz) (su:z.aY=true) (hc:0≤n∧n≤m∧m≤140737488355328∧m * oZ≤140737488355328) :
  cm E R w β s a o ((s.dQ (.row (aq (aaR m.toNat z)) elem)).put o.dst (.v (.jZ s.G.length 0 esz n.toNat m.toNat))):=by
 obtain ⟨us,z1,z2,bE⟩:=q7 h t x y ho hi hx hy hk hz I2 su hc;have e:=gS (R:=R) (w:=w) h.g.wf (.cells ⟨us⟩ elem) (.ca w.heap.size);have iE:gK (R.add (.ca w.heap.size)) (w.alloc (.cells ⟨us⟩ elem)) (.row (aq (aaR m.toNat z)) elem) (.ca w.heap.size):=
  ⟨_,heap_alloc_new w _,z1.mono e,z2,fun o' hi=>by have:=h.g.wf _ _ hi; omega⟩
 exact ⟨_,.slice (some ⟨w.heap.size,0,none⟩) n.toNat m.toNat,_,R.add (.ca w.heap.size),β,bE,.inl rfl,(h.mg _ _ (.ca w.heap.size) (by exact fun _ h=>h) iE).put o.dst (x:=.v (.jZ s.G.length 0 esz n.toNat m.toNat)) (Rel.jZ (gq h _) (by omega)),by rw [a6]; exact cZ h _ _ (by exact fun _ h=>h)⟩
end ops
end Go.Am
namespace Go.Am
open Go
section ops
variable {E:Env} {R:ak} {w:World} {β:Nat→Nat} {s:St} {a:Act} {o:Oper}
theorem kB (x:Array Operand) (f:Operand→Value):x.map f=⟨x.toList.map f⟩:=Array.ext' (by simp)
theorem fe {b:Builtin} {args:Array Operand} {tys:Array TypeId} (ho:o.op=.call { callee:=.builtin b,args:=args,argTypes:=tys }) (vs:List Value) (hv:args.toList.map a.eval=vs) :
  (execOp a.eval o).run E.P w=(builtin b tys o.type (args.map fun | .const _=>true | _=>false) ⟨vs⟩).run E.P w:=by
 simp only [execOp,ho,resolve,aac,aa4,aaa,invoke,kB args a.eval,hv];rfl
theorem dA.length:∀ {l:List (AV × AV)} {es:List MapEntry},dA R w l es→l.length=es.length
 |[],[],_=>rfl
 |_ :: _,_ :: _,h=>by simp [dA.length h.2.2]
 |[],_ :: _,h=>h.elim
 |_ :: _,[],h=>h.elim
theorem KU (h:bl E R w β s a) {args:Array Operand} {tys:List TypeId} (ho:o.op=.call { callee:=.builtin .len,args:=args,argTypes:=⟨tys⟩ }) {l:List AV} (hl:nE E s.ae args.toList=some l) {s':St} (hs:bT E s o.dst .len l tys=some (true,s')) :
  cm E R w β s a o s':=by
 have hr:=gT h hl;generalize hv:args.toList.map a.eval=vs at hr;have hx:=fe (E:=E) (w:=w) ho vs hv;unfold bT at hs;split at hs <;> first | (rename_i h1; cases h1; done) | skip
 ·rename_i x;cases hr with
  |cons h0 h1=>
  cases h1;split at hs
  ·rename_i t tl;split at hs
   ·rename_i i hi;obtain ⟨hJ,u,e1,e2,e3,e4,e5,e6⟩:=cu E hi;split at hs
    ·rename_i bs hk;cases hs;cases h0;rw [hk] at e5;have:=kA e5;subst this;refine ao h (c:=.int .i64 bs.length) ?_ (Rel.int _ _);rw [hx];simp [builtin,aaY,run_underlying e2,goInt,size_bytes]
    ·rename_i kk sz es hk;cases hs;rw [hk] at e5;obtain ⟨ie,ue,rfl,_⟩:=ee e5;refine ao h (c:=.int .i64 es.length) ?_ (Rel.int _ _);rw [hx];cases h0 with
     |kz=>simp [builtin,aaY,run_underlying e2,goInt]
     |ja=>simp [builtin,aaY,run_underlying e2,goInt]
     |nI=>simp [builtin,aaY,run_underlying e2,goInt]
     |mH=>simp [builtin,aaY,run_underlying e2,goInt]
     |nJ=>simp [builtin,aaY,run_underlying e2,goInt]
     |list _ hlen _ _=>subst hlen; simp [builtin,aaY,run_underlying e2,goInt]
    ·rename_i id off sz len cap hk;cases hs;rw [hk] at e5;obtain ⟨ie,ue,rfl,_⟩:=ee e5;refine ao h (c:=.int .i64 len) ?_ (Rel.int _ _);rw [hx];cases h0;simp [builtin,aaY,run_underlying e2,goInt]
    ·rename_i id f' off sz len hk;cases hs;rw [hk] at e5;obtain ⟨ie,ue,rfl,_⟩:=ee e5;refine ao h (c:=.int .i64 len) ?_ (Rel.int _ _);rw [hx];cases h0 <;> simp [builtin,aaY,run_underlying e2,goInt]
    ·rename_i n esz ag hk;cases hs;rw [hk] at e5;obtain ⟨e,ie,ue,rfl,_⟩:=oY e5;refine ao h (c:=.int .i64 n) ?_ (Rel.int _ _);rw [hx];simp [builtin,aaY,run_underlying e2,goInt]
    ·rename_i hk;cases hs;rw [hk] at e5;obtain ⟨rfl,_⟩:=mK e5;refine ao h (c:=.int .i64 0) ?_ (Rel.int _ _);rw [hx];cases h0;simp [builtin,aaY,run_underlying e2,goInt]
    ·rename_i id hk;split at hs
     ·rename_i es hg;cases hs;rw [hk] at e5;obtain ⟨rfl,_⟩:=mK e5;cases h0 with
      | @map _ b hb=>
      obtain ⟨ax,clock,g1,g2,g3⟩:=h.g.obj id _ _ hg hb;refine ao h (c:=.int .i64 es.length) ?_ (Rel.int _ _);rw [hx];have iE:(getObj b).run E.P w=.ok (.map ax clock) w:=by simp [getObj,Sem.run,g1]
      simp [builtin,aaY,run_underlying e2,goInt,iE,g2.length]
     ·cases hs
    ·cases hs
   ·cases hs
  ·cases hs
 ·cases hs
theorem HC {b:Bool}:∀ {l:List AV} {x v:AV} {c:Value} {cs:List Value},Rel R w x c→aK R w l cs→IR x l=some v→∃ c',(cs.foldlM Builtin.max2 c).run E.P w=.ok c' w∧Rel R w v c'
 |[],x,v,c,cs,hr,hl,hv=>by
  cases hl;simp only [IR] at hv;cases hv;exact ⟨c,rfl,hr⟩
 |y :: l,x,v,c,cs,hr,hl,hv=>by
  cases hl with
  |cons hy hl=>
  unfold IR at hv;split at hv
  ·rename_i lG; cases lG
  ·rename_i k n k' m l' lG;cases lG;split at hv
   ·rename_i hk;subst hk;cases hr;cases hy;obtain ⟨c',h1,h2⟩:=HC (b:=b) (Rel.int k (if m > n then m else n)) hl hv;refine ⟨c',?_,h2⟩;simp only [abU,aac,Builtin.max2,aa4,aaa];exact h1
   ·cases hv
  ·cases hv
theorem B4 {b:Bool}:∀ {l:List AV} {x v:AV} {c:Value} {cs:List Value},Rel R w x c→aK R w l cs→Fm x l=some v→∃ c',(cs.foldlM abV c).run E.P w=.ok c' w∧Rel R w v c'
 |[],x,v,c,cs,hr,hl,hv=>by
  cases hl;simp only [Fm] at hv;cases hv;exact ⟨c,rfl,hr⟩
 |y :: l,x,v,c,cs,hr,hl,hv=>by
  cases hl with
  |cons hy hl=>
  unfold Fm at hv;split at hv
  ·rename_i lG; cases lG
  ·rename_i k n k' m l' lG;cases lG;split at hv
   ·rename_i hk;subst hk;cases hr;cases hy;obtain ⟨c',h1,h2⟩:=B4 (b:=b) (Rel.int k (if m < n then m else n)) hl hv;refine ⟨c',?_,h2⟩;simp only [abU,aac,abV,aa4,aaa];exact h1
   ·cases hv
  ·rename_i n m l' lG;cases lG;cases hr;cases hy;obtain ⟨c',h1,h2⟩:=B4 (b:=b) (Rel.str (bif ab6 n m || n == m then n else m)) hl hv;refine ⟨c',?_,h2⟩;have e:(abV (.string ⟨⟨n⟩⟩) (.string ⟨⟨m⟩⟩)).run E.P w=.ok (.string ⟨⟨bif ab6 n m || n == m then n else m⟩⟩) w:=by
    simp only [abV,Op.stringOp,aac,aa4,aaa];show Result.andThen ((asBool _).run E.P w) _=_;cases hb:(ab6 n m || n == m) <;> simp_all [asBool]
   simp only [abU,aac,e,aaa];exact h1
  ·cases hv
theorem KV (h:bl E R w β s a) {args:Array Operand} {tys:Array TypeId} (ho:o.op=.call { callee:=.builtin .max,args:=args,argTypes:=tys }) {x v:AV} {l:List AV} (hl:nE E s.ae args.toList=some (x :: l)) (hm:IR x l=some v) :
  cm E R w β s a o (s.put o.dst (.v v)):=by
 have hr:=gT h hl;generalize hv:args.toList.map a.eval=vs at hr;have hx:=fe (E:=E) (w:=w) ho vs hv;cases hr with
 |cons h0 h1=>
 obtain ⟨c',k1,k2⟩:=HC (E:=E) (b:=true) h0 h1 hm;refine ao h (c:=c') ?_ k2;rw [hx];simp [builtin,Builtin.max_,k1]
theorem KW (h:bl E R w β s a) {args:Array Operand} {tys:Array TypeId} (ho:o.op=.call { callee:=.builtin .min,args:=args,argTypes:=tys }) {x v:AV} {l:List AV} (hl:nE E s.ae args.toList=some (x :: l)) (hm:Fm x l=some v) :
  cm E R w β s a o (s.put o.dst (.v v)):=by
 have hr:=gT h hl;generalize hv:args.toList.map a.eval=vs at hr;have hx:=fe (E:=E) (w:=w) ho vs hv;cases hr with
 |cons h0 h1=>
 obtain ⟨c',k1,k2⟩:=B4 (E:=E) (b:=true) h0 h1 hm;refine ao h (c:=c') ?_ k2;rw [hx];simp [builtin,Builtin.min_,k1]
end ops
end Go.Am
namespace Go.Am
open Go
section ops
variable {E:Env} {R:ak} {w:World} {β:Nat→Nat} {s:St} {a:Act} {o:Oper}
def ak.upto (R:ak) (g n:Nat) (obj:List RO):ak:=⟨fun b o=>R.I b o∨(b=g∧o < n),obj⟩
theorem aD {l:List RO} {id i:Nat} {x r y:RO} (ahU:nth l id=some y) (h:nth (aF l id x) i=some r):(i=id∧r=x)∨(i≠id∧nth l i=some r):=by
 rcases dp h with ⟨rfl,rfl,_⟩|⟨cQ,h⟩
 ·exact .inl ⟨rfl,rfl⟩
 ·exact .inr ⟨abS cQ,h⟩
theorem FD (wf:∀ b o,R.I b o→b < w.heap.size) (x:Obj) (n:Nat) (ro:RO):Ext R w (R.upto w.heap.size n (R.obj++[ro])) (w.drew.alloc x):=
 ⟨fun _ _ h=>.inl h,fun b o h=>cb (heap_alloc_old w.drew x b (wf b o h)) o,fun _ r h=>⟨r,dq h,cF.refl r⟩,.old fun b hb=>heap_alloc_old w.drew x b hb⟩
theorem FE (wf:∀ b o,R.I b o→b < w.heap.size) (x:Obj) {n id m:Nat} {r0:RO} (hid:nth R.obj id=some r0) (b' c':Nat) (bZ:cF r0 (.tok m b' c')):Ext R w (R.upto w.heap.size n (aF R.obj id (.tok m b' c'))) (w.drew.alloc x):=
 ⟨fun _ _ h=>.inl h,fun b o h=>cb (heap_alloc_old w.drew x b (wf b o h)) o,fun i r h=>by
  by_cases e:id=i
  ·subst e;rw [hid] at h;cases h;exact ⟨_,aN hid,bZ⟩
  ·exact ⟨r,by rw [ak.upto,cj e]; exact h,cF.refl r⟩,.old fun b hb=>heap_alloc_old w.drew x b hb⟩
theorem bl.UU (h:bl E R w β s a) {cur:Array Value} {elem:TypeId} {n sz cap:Nat} (hn:n≤cap) (hm:cap≤maxLen) (hs:cur.size=cap * sz) :
  bl E (R.upto w.heap.size (n * sz) (R.obj++[.tok n w.heap.size cap])) (w.drew.alloc (.cells cur elem)) β (s.dQ (.tok n sz elem)) a ∧
  Step R w β s.boxes (R.upto w.heap.size (n * sz) (R.obj++[.tok n w.heap.size cap])) (w.drew.alloc (.cells cur elem)) β s.boxes:=by
 have e:=FD (R:=R) (w:=w) h.g.wf (.cells cur elem) (n * sz) (.tok n w.heap.size cap);have old:∀ b,b < w.heap.size→(w.drew.alloc (.cells cur elem)).heap[b]?=w.heap[b]?:=fun b hb=>heap_alloc_old w.drew _ b hb
 have new:(w.drew.alloc (.cells cur elem)).heap[w.heap.size]?=some (.cells cur elem (0,0)):=heap_alloc_new w.drew _;have hI:∀ b o,b < w.heap.size→(R.upto w.heap.size (n * sz) (R.obj++[.tok n w.heap.size cap])).I b o→R.I b o:=fun b o hb hi=>by
  rcases hi with hi|⟨hi,_⟩
  ·exact hi
  ·omega
 refine ⟨⟨⟨by simp [St.dQ,ak.upto,h.g.len],fun id g r h1 h2=>?_,fun i j ri rj b h1 h2 b1 b2=>?_,fun b o hi=>?_,fun g cs hg=>(h.g.ck g cs hg).mono e,by first | exact h.g.lo | exact abJ h.g.lo⟩,?_,h.t.mono e,h.n,h.d.mono e⟩,?_⟩
 ·rcases ar h2 with h2|⟨h3,rfl⟩
  ·have bZ:=b7 h2;rw [h.g.len] at bZ;rcases ar h1 with h1|⟨h4,_⟩
   ·exact (h.g.obj id g r h1 h2).mono e (fun b hb=>old b (h.g.b9 ⟨id,r,h2,hb⟩)) (fun b o hb=>hI b o (h.g.b9 ⟨id,r,h2,hb⟩))
   ·omega
  ·rcases ar h1 with h1|⟨h4,rfl⟩
   ·have:=b7 h1;rw [h3,h.g.len] at this;omega
   ·refine ⟨rfl,cur,new,hn,hm,hs,fun o' oP hi=>?_⟩;rcases hi with hi|⟨_,hi⟩
    ·have:=h.g.wf _ _ hi;omega
    ·omega
 ·rcases ar h1 with g1|⟨h3,e1⟩
  ·rcases ar h2 with g2|⟨h4,e2⟩
   ·exact h.g.inj i j ri rj b g1 g2 b1 b2
   ·have:=h.g.b9 ⟨i,ri,g1,b1⟩;rw [e2] at b2;simp [RO.has] at b2;omega
  ·rcases ar h2 with g2|⟨h4,e2⟩
   ·have:=h.g.b9 ⟨j,rj,g2,b2⟩;rw [e1] at b1;simp [RO.has] at b1;omega
   ·omega
 ·rcases hi with hi|⟨rfl,_⟩
  ·have:=h.g.wf b o hi;simp;omega
  ·simp
 ·refine h.b.aW e (fun k cs hk=>old _ (h.eh (.inr ⟨k,cs,hk,rfl⟩))) (fun k cs o hk=>hI _ o (h.eh (.inr ⟨k,cs,hk,rfl⟩))) (fun k cs hk hl=>?_);rcases mJ (R:=R) (ro:=.tok n w.heap.size cap) hl with hl|hl
  ·exact hl
  ·have:=h.eh (.inr ⟨k,cs,hk,rfl⟩);simp [RO.has] at hl;omega
 ·refine ⟨e,rfl,rfl,rfl,by simp,fun b hb _=>old b hb,fun b hb ho=>?_,fun b o hi hb _=>hI b o hb hi⟩;rcases ho with ho|ho
  ·rcases mJ (R:=R) (ro:=.tok n w.heap.size cap) ho with ho|ho
   ·exact .inl ho
   ·simp [RO.has] at ho;omega
  ·exact .inr ho
theorem Dh (wf:∀ b o,R.I b o→b < w.heap.size) (x:Obj) (n:Nat) (ro:RO):Ext R w (R.upto w.heap.size n (R.obj++[ro])) (w.alloc x):=
 ⟨fun _ _ h=>.inl h,fun b o h=>cb (heap_alloc_old w x b (wf b o h)) o,fun _ r h=>⟨r,dq h,cF.refl r⟩,.old fun b hb=>heap_alloc_old w x b hb⟩
theorem bl.Pk (h:bl E R w β s a) {cur:Array Value} {elem:TypeId} {n sz cap:Nat} (hn:n≤cap) (hm:cap≤maxLen) (hs:cur.size=cap * sz) :
  bl E (R.upto w.heap.size (n * sz) (R.obj++[.tok n w.heap.size cap])) (w.alloc (.cells cur elem)) β (s.dQ (.tok n sz elem)) a ∧
  Step R w β s.boxes (R.upto w.heap.size (n * sz) (R.obj++[.tok n w.heap.size cap])) (w.alloc (.cells cur elem)) β s.boxes:=by
 have e:=Dh (R:=R) (w:=w) h.g.wf (.cells cur elem) (n * sz) (.tok n w.heap.size cap);have old:∀ b,b < w.heap.size→(w.alloc (.cells cur elem)).heap[b]?=w.heap[b]?:=fun b hb=>heap_alloc_old w _ b hb
 have new:(w.alloc (.cells cur elem)).heap[w.heap.size]?=some (.cells cur elem (0,0)):=heap_alloc_new w _;have hI:∀ b o,b < w.heap.size→(R.upto w.heap.size (n * sz) (R.obj++[.tok n w.heap.size cap])).I b o→R.I b o:=fun b o hb hi=>by
  rcases hi with hi|⟨hi,_⟩
  ·exact hi
  ·omega
 refine ⟨⟨⟨by simp [St.dQ,ak.upto,h.g.len],fun id g r h1 h2=>?_,fun i j ri rj b h1 h2 b1 b2=>?_,fun b o hi=>?_,fun g cs hg=>(h.g.ck g cs hg).mono e,by first | exact h.g.lo | exact abJ h.g.lo⟩,?_,h.t.mono e,h.n,h.d.mono e⟩,?_⟩
 ·rcases ar h2 with h2|⟨h3,rfl⟩
  ·have bZ:=b7 h2;rw [h.g.len] at bZ;rcases ar h1 with h1|⟨h4,_⟩
   ·exact (h.g.obj id g r h1 h2).mono e (fun b hb=>old b (h.g.b9 ⟨id,r,h2,hb⟩)) (fun b o hb=>hI b o (h.g.b9 ⟨id,r,h2,hb⟩))
   ·omega
  ·rcases ar h1 with h1|⟨h4,rfl⟩
   ·have:=b7 h1;rw [h3,h.g.len] at this;omega
   ·refine ⟨rfl,cur,new,hn,hm,hs,fun o' oP hi=>?_⟩;rcases hi with hi|⟨_,hi⟩
    ·have:=h.g.wf _ _ hi;omega
    ·omega
 ·rcases ar h1 with g1|⟨h3,e1⟩
  ·rcases ar h2 with g2|⟨h4,e2⟩
   ·exact h.g.inj i j ri rj b g1 g2 b1 b2
   ·have:=h.g.b9 ⟨i,ri,g1,b1⟩;rw [e2] at b2;simp [RO.has] at b2;omega
  ·rcases ar h2 with g2|⟨h4,e2⟩
   ·have:=h.g.b9 ⟨j,rj,g2,b2⟩;rw [e1] at b1;simp [RO.has] at b1;omega
   ·omega
 ·rcases hi with hi|⟨rfl,_⟩
  ·have:=h.g.wf b o hi;simp;omega
  ·simp
 ·refine h.b.aW e (fun k cs hk=>old _ (h.eh (.inr ⟨k,cs,hk,rfl⟩))) (fun k cs o hk=>hI _ o (h.eh (.inr ⟨k,cs,hk,rfl⟩))) (fun k cs hk hl=>?_);rcases mJ (R:=R) (ro:=.tok n w.heap.size cap) hl with hl|hl
  ·exact hl
  ·have:=h.eh (.inr ⟨k,cs,hk,rfl⟩);simp [RO.has] at hl;omega
 ·refine ⟨e,rfl,rfl,rfl,by simp,fun b hb _=>old b hb,fun b hb ho=>?_,fun b o hi hb _=>hI b o hb hi⟩;rcases ho with ho|ho
  ·rcases mJ (R:=R) (ro:=.tok n w.heap.size cap) ho with ho|ho
   ·exact .inl ho
   ·simp [RO.has] at ho;omega
  ·exact .inr ho
theorem uo (h:bl E R w β s a) (t:TypeId) (len:Nat) (parts:Array (Nat × Operand)) (ho:o.op=.buildSlice t len parts) {k:LK} {esz:Nat} {es:List AV} (hv:cg E s t len parts.toList=some (.list k esz es)) {i:TI} (hi:E.ti t=some i) {elem bR oZ:Nat} {ag:Bool} {z:Option AV} (hk:i.k=.sl elem bR ag oZ z) (hm:len≤65536) :
  cm E R w β s a o ((s.dQ (.tok len esz elem)).put o.dst (.v (.list (.own s.G.length) esz es))):=by
 obtain ⟨es',UP,us,YP,YM,bE,g2,hlen,u2,u3,i',ag',by',z',uf,iG⟩:=iH h t len parts ho hv;cases YM;rw [hi] at uf;cases uf;rw [hk] at iG;cases iG;have YQ:us.length=len * esz:=by rw [← u2.length,dO g2,hlen]
 obtain ⟨r1,r2⟩:=h.Pk (cur:=⟨us⟩) (elem:=elem) (n:=len) (sz:=esz) (cap:=len) (aax _) (by simp [maxLen]; omega) (by simpa using YQ);refine ⟨_,.slice (some ⟨w.heap.size,0,none⟩) len len,_,_,β,bE,.inl rfl,r1.put o.dst (x:=.v (.list (.own s.G.length) esz es)) ?_,by rw [a6]; exact r2⟩;refine Rel.list (mM g2 (dR.make (u2.mono r2.ext) u3 (fun j x hx=>?_) (fun j hj=>.inr ⟨rfl,?_⟩))) hlen.symm (aax _) ⟨.tok len w.heap.size len,gq h _,?_⟩
 ·rw [jw (heap_alloc_new w _)];simpa using hx
 ·rw [dO g2,hlen] at hj;omega
 ·exact ⟨aax _,fun _=>⟨rfl,rfl,rfl⟩⟩
theorem bl.KX (h:bl E R w β s a) {cur:Array Value} {elem e0:TypeId} {n sz cap id f:Nat} {r0:RO} (hg:nth s.G id=some (.tok f sz e0)) (hid:nth R.obj id=some r0) (hf:∀ b c,cF r0 (.tok n b c)) (hn:n≤cap) (hm:cap≤maxLen) (hs:cur.size=cap * sz) :
  bl E (R.upto w.heap.size (n * sz) (aF R.obj id (.tok n w.heap.size cap))) (w.drew.alloc (.cells cur elem)) β (s.cD (aF s.G id (.tok n sz elem))) a ∧
  Step R w β s.boxes (R.upto w.heap.size (n * sz) (aF R.obj id (.tok n w.heap.size cap))) (w.drew.alloc (.cells cur elem)) β s.boxes:=by
 have e:=FE (R:=R) (w:=w) (n:=n * sz) h.g.wf (.cells cur elem) hid w.heap.size cap (hf _ _);have old:∀ b,b < w.heap.size→(w.drew.alloc (.cells cur elem)).heap[b]?=w.heap[b]?:=fun b hb=>heap_alloc_old w.drew _ b hb
 have new:(w.drew.alloc (.cells cur elem)).heap[w.heap.size]?=some (.cells cur elem (0,0)):=heap_alloc_new w.drew _;have hI:∀ b o,b < w.heap.size→(R.upto w.heap.size (n * sz) (aF R.obj id (.tok n w.heap.size cap))).I b o→R.I b o:=fun b o hb hi=>by
  rcases hi with hi|⟨hi,_⟩
  ·exact hi
  ·omega
 have live:∀ b,b < w.heap.size→Live (R.upto w.heap.size (n * sz) (aF R.obj id (.tok n w.heap.size cap))) b→Live R b:=fun b hb hl=>by
  obtain ⟨i,r,h1,h2⟩:=hl;rcases aD hid h1 with ⟨_,rfl⟩|⟨_,h1⟩
  ·simp [RO.has] at h2;omega
  ·exact ⟨i,r,h1,h2⟩
 refine ⟨⟨⟨by simp [St.cD,ak.upto,h.g.len],fun i gg r h1 h2=>?_,fun i j ri rj b h1 h2 b1 b2=>?_,fun b o hi=>?_,fun g cs hg=>(h.g.ck g cs hg).mono e,by first | exact h.g.lo | exact abJ h.g.lo⟩,?_,h.t.mono e,h.n,h.d.mono e⟩,?_⟩
 ·rcases aD hid h2 with ⟨rfl,rfl⟩|⟨cQ,h2⟩
  ·simp only [St.cD] at h1;rw [aN hg] at h1;cases h1;refine ⟨rfl,cur,new,hn,hm,hs,fun o' oP hi=>?_⟩;rcases hi with hi|⟨_,hi⟩
   ·have:=h.g.wf _ _ hi;omega
   ·omega
  ·simp only [St.cD] at h1;rw [cj (abS cQ)] at h1;exact (h.g.obj i gg r h1 h2).mono e (fun b hb=>old b (h.g.b9 ⟨i,r,h2,hb⟩)) (fun b o hb=>hI b o (h.g.b9 ⟨i,r,h2,hb⟩))
 ·rcases aD hid h1 with ⟨g3,e1⟩|⟨g3,g1⟩
  ·rcases aD hid h2 with ⟨g4,e2⟩|⟨g4,g2⟩
   ·omega
   ·have:=h.g.b9 ⟨j,rj,g2,b2⟩;rw [e1] at b1;simp [RO.has] at b1;omega
  ·rcases aD hid h2 with ⟨g4,e2⟩|⟨g4,g2⟩
   ·have:=h.g.b9 ⟨i,ri,g1,b1⟩;rw [e2] at b2;simp [RO.has] at b2;omega
   ·exact h.g.inj i j ri rj b g1 g2 b1 b2
 ·rcases hi with hi|⟨rfl,_⟩
  ·have:=h.g.wf b o hi;simp;omega
  ·simp
 ·exact h.b.aW e (fun k cs hk=>old _ (h.eh (.inr ⟨k,cs,hk,rfl⟩))) (fun k cs o hk=>hI _ o (h.eh (.inr ⟨k,cs,hk,rfl⟩))) (fun k cs hk hl=>live _ (h.eh (.inr ⟨k,cs,hk,rfl⟩)) hl)
 ·refine ⟨e,rfl,rfl,rfl,by simp,fun b hb _=>old b hb,fun b hb ho=>?_,fun b o hi hb _=>hI b o hb hi⟩;rcases ho with ho|ho
  ·exact .inl (live b hb ho)
  ·exact .inr ho
theorem bl.Pl (h:bl E R w β s a) {cur:Array Value} {news:List Value} {elem:TypeId} {n sz id f g c:Nat} (hg:nth s.G id=some (.tok f sz elem)) (hid:nth R.obj id=some (.tok f g c)) (hf:f < n) (hn:n≤c)
  (iW:w.heap[g]?=some (.cells cur elem (0,0))) (hs:cur.size=c * sz) (hm:c≤maxLen) (hl:f * sz+news.length=n * sz) :
  Ext R w (R.upto g (n * sz) (aF R.obj id (.tok n g c))) (w.setRow g (cur.toList.take (f * sz)++news++cur.toList.drop (f * sz+news.length)).toArray) ∧
  bl E (R.upto g (n * sz) (aF R.obj id (.tok n g c))) (w.setRow g (cur.toList.take (f * sz)++news++cur.toList.drop (f * sz+news.length)).toArray) β (s.cD (aF s.G id (.tok n sz elem))) a ∧
  Step R w β s.boxes (R.upto g (n * sz) (aF R.obj id (.tok n g c))) (w.setRow g (cur.toList.take (f * sz)++news++cur.toList.drop (f * sz+news.length)).toArray) β s.boxes:=by
 obtain ⟨_,Di,TG,_,_,_,jx⟩:=h.g.obj id _ _ hg hid;rw [iW] at TG;cases TG;have hle:n * sz≤c * sz:=aaM _ hn;generalize mO:(cur.toList.take (f * sz)++news++cur.toList.drop (f * sz+news.length)).toArray=cur2;have old:∀ b,b≠g→(w.setRow g cur2).heap[b]?=w.heap[b]?:=fun b hb=>setRow_other w g b cur2 hb
 have new:(w.setRow g cur2).heap[g]?=some (.cells cur2 elem (0,0)):=setRow_heap w g cur cur2 elem (0,0) iW;have hlen:f * sz≤cur.toList.length:=by simp; omega
 have eY:cur2.size=c * sz:=by
  rw [← mO];simp;omega
 have rJ:Live R g:=⟨id,_,hid,rfl⟩;have e:Ext R w (R.upto g (n * sz) (aF R.obj id (.tok n g c))) (w.setRow g cur2):=by
  refine ⟨fun _ _ hi=>.inl hi,fun b o hi=>?_,fun i r hr=>?_,fun b r hb=>⟨r,(old b fun e=>by subst e; rw [iW] at hb; cases hb).trans hb,rfl,rfl,rfl,rfl,rfl⟩⟩
  ·by_cases hb:b=g
   ·subst hb;have ho:o < f * sz:=Nat.lt_of_not_le fun hle=>jx o hle hi
    simp only [World.cell?,new,iW];have:cur2[o]?=cur[o]?:=by
     rw [← mO,List.append_assoc];simp only [List.getElem?_toArray];rw [List.getElem?_append_left (by simp; omega),abq,if_pos ho,ab3]
    simp [this]
   ·exact cb (old b hb) o
  ·by_cases ei:id=i
   ·subst ei;rw [hid] at hr;cases hr;exact ⟨_,aN hid,by omega,fun e=>by omega⟩
   ·exact ⟨r,by rw [ak.upto,cj ei]; exact hr,cF.refl r⟩
 have hI:∀ b o,b≠g→(R.upto g (n * sz) (aF R.obj id (.tok n g c))).I b o→R.I b o:=fun b o hb hi=>by
  rcases hi with hi|⟨hi,_⟩
  ·exact hi
  ·exact absurd hi hb
 have live:∀ b,Live (R.upto g (n * sz) (aF R.obj id (.tok n g c))) b→Live R b:=fun b hl=>by
  obtain ⟨i,r,h1,h2⟩:=hl;rcases aD hid h1 with ⟨_,rfl⟩|⟨_,h1⟩
  ·exact ⟨id,_,hid,h2⟩
  ·exact ⟨i,r,h1,h2⟩
 have rK:∀ k cs,dy s.boxes k=some cs→β k≠g:=fun k cs hk eq=>(h.b.box k cs hk).2.2 (eq ▸ rJ)
 refine ⟨e,⟨⟨by simp [St.cD,ak.upto,h.g.len],fun i gg r h1 h2=>?_,fun i j ri rj b h1 h2 b1 b2=>?_,fun b o hi=>?_,fun g cs hg=>(h.g.ck g cs hg).mono e,by first | exact h.g.lo | exact abJ h.g.lo⟩,?_,h.t.mono e,h.n,h.d.mono e⟩,?_⟩
 ·rcases aD hid h2 with ⟨rfl,rfl⟩|⟨cQ,h2⟩
  ·simp only [St.cD] at h1;rw [aN hg] at h1;cases h1;refine ⟨rfl,cur2,new,hn,hm,eY,fun o' oP hi=>?_⟩;rcases hi with hi|⟨_,hi⟩
   ·exact jx o' (Nat.le_trans (aaM _ (Nat.le_of_lt hf)) oP) hi
   ·omega
  ·simp only [St.cD] at h1;rw [cj (abS cQ)] at h1;have UW:∀ b,r.has b→b≠g:=fun b hb eq=>cQ (h.g.inj i id _ _ b h2 hid hb (by rw [eq]; rfl))
   exact (h.g.obj i gg r h1 h2).mono e (fun b hb=>old b (UW b hb)) (fun b o hb=>hI b o (UW b hb))
 ·rcases aD hid h1 with ⟨g3,e1⟩|⟨g3,g1⟩
  ·rcases aD hid h2 with ⟨g4,e2⟩|⟨g4,g2⟩
   ·omega
   ·rw [e1] at b1;exact g3.trans (h.g.inj id j _ _ b hid g2 b1 b2)
  ·rcases aD hid h2 with ⟨g4,e2⟩|⟨g4,g2⟩
   ·rw [e2] at b2;exact (h.g.inj i id _ _ b g1 hid b1 b2).trans g4.symm
   ·exact h.g.inj i j ri rj b g1 g2 b1 b2
 ·rcases hi with hi|⟨rfl,_⟩
  ·have:=h.g.wf b o hi;simpa using this
  ·have:=bi iW;simpa using this
 ·exact h.b.aW e (fun k cs hk=>old _ (rK k cs hk)) (fun k cs o hk=>hI _ o (rK k cs hk)) (fun k cs hk hl=>live _ hl)
 ·refine ⟨e,rfl,rfl,rfl,by simp,fun b hb uq=>old b (fun eq=>uq (.inl (eq ▸ rJ))),fun b hb ho=>?_,fun b o hi hb uq=>hI b o (fun eq=>uq (.inl (eq ▸ rJ))) hi⟩;rcases ho with ho|ho
  ·exact .inl (live b ho)
  ·exact .inr ho
structure One (w w':World) (x:Obj):Prop where
 old:∀ b,b < w.heap.size→w'.heap[b]?=w.heap[b]?
 new:w'.heap[w.heap.size]?=some x
 size:w'.heap.size=w.heap.size+1
 os:w'.os=w.os
 tape:w'.tape=w.tape
 output:w'.output=w.output
 drawn:w.drawn≤w'.drawn
theorem One.alloc (w:World) (x:Obj):One w (w.alloc x) x:=⟨fun b hb=>heap_alloc_old w x b hb,heap_alloc_new w x,by simp,rfl,rfl,rfl,aax _⟩
theorem One.drew (w:World) (x:Obj):One w (w.drew.alloc x) x:=⟨fun b hb=>heap_alloc_old w.drew x b hb,heap_alloc_new w.drew x,by simp,rfl,rfl,rfl,Nat.le_succ _⟩
theorem Pm {w':World} {x:Obj} (o1:One w w' x) (wf:∀ b o,R.I b o→b < w.heap.size) {n id:Nat} {r0 r1:RO} (hid:nth R.obj id=some r0) (hle:cF r0 r1):Ext R w (R.upto w.heap.size n (aF R.obj id r1)) w':=
 ⟨fun _ _ h=>.inl h,fun b o h=>cb (o1.old b (wf b o h)) o,fun i r h=>by
  by_cases e:id=i
  ·subst e;rw [hid] at h;cases h;exact ⟨_,aN hid,hle⟩
  ·exact ⟨r,by rw [ak.upto,cj e]; exact h,cF.refl r⟩,.old fun b hb=>o1.old b hb⟩
theorem bl.UX (h:bl E R w β s a) {w':World} {x:Obj} (o1:One w w' x) {n id:Nat} {r0 r1:RO} {Kq go:GO} (hg:nth s.G id=some Kq) (hid:nth R.obj id=some r0) (hle:cF r0 r1) (xG:∀ b,r1.has b→b=w.heap.size∨r0.has b)
  (iE:gK (R.upto w.heap.size n (aF R.obj id r1)) w' go r1) :
  bl E (R.upto w.heap.size n (aF R.obj id r1)) w' β (s.cD (aF s.G id go)) a∧Step R w β s.boxes (R.upto w.heap.size n (aF R.obj id r1)) w' β s.boxes:=by
 have e:=Pm (R:=R) (n:=n) o1 h.g.wf hid hle;have hI:∀ b o,b < w.heap.size→(R.upto w.heap.size n (aF R.obj id r1)).I b o→R.I b o:=fun b o hb hi=>by
  rcases hi with hi|⟨hi,_⟩
  ·exact hi
  ·omega
 have live:∀ b,b < w.heap.size→Live (R.upto w.heap.size n (aF R.obj id r1)) b→Live R b:=fun b hb hl=>by
  obtain ⟨i,r,h1,h2⟩:=hl;rcases aD hid h1 with ⟨_,rfl⟩|⟨_,h1⟩
  ·rcases xG b h2 with h3|h3
   ·omega
   ·exact ⟨id,r0,hid,h3⟩
  ·exact ⟨i,r,h1,h2⟩
 refine ⟨⟨⟨by simp [St.cD,ak.upto,h.g.len],fun i gg r h1 h2=>?_,fun i j ri rj b h1 h2 b1 b2=>?_,fun b o hi=>?_,fun g cs hg=>(h.g.ck g cs hg).mono e,Nat.le_trans h.g.lo o1.drawn⟩,?_,h.t.mono e,h.n,h.d.mono e⟩,?_⟩
 ·rcases aD hid h2 with ⟨rfl,rfl⟩|⟨cQ,h2⟩
  ·simp only [St.cD] at h1;rw [aN hg] at h1;cases h1;exact iE
  ·simp only [St.cD] at h1;rw [cj (abS cQ)] at h1;exact (h.g.obj i gg r h1 h2).mono e (fun b hb=>o1.old b (h.g.b9 ⟨i,r,h2,hb⟩)) (fun b o hb=>hI b o (h.g.b9 ⟨i,r,h2,hb⟩))
 ·rcases aD hid h1 with ⟨g3,e1⟩|⟨g3,g1⟩
  ·rcases aD hid h2 with ⟨g4,e2⟩|⟨g4,g2⟩
   ·omega
   ·rw [e1] at b1;rcases xG b b1 with b3|b3
    ·have:=h.g.b9 ⟨j,rj,g2,b2⟩;omega
    ·exact g3.trans (h.g.inj id j _ _ b hid g2 b3 b2)
  ·rcases aD hid h2 with ⟨g4,e2⟩|⟨g4,g2⟩
   ·rw [e2] at b2;rcases xG b b2 with b3|b3
    ·have:=h.g.b9 ⟨i,ri,g1,b1⟩;omega
    ·exact (h.g.inj i id _ _ b g1 hid b1 b3).trans g4.symm
   ·exact h.g.inj i j ri rj b g1 g2 b1 b2
 ·rcases hi with hi|⟨rfl,_⟩
  ·have:=h.g.wf b o hi;rw [o1.size];omega
  ·rw [o1.size]; omega
 ·exact h.b.aW e (fun k cs hk=>o1.old _ (h.eh (.inr ⟨k,cs,hk,rfl⟩))) (fun k cs o hk=>hI _ o (h.eh (.inr ⟨k,cs,hk,rfl⟩))) (fun k cs hk hl=>live _ (h.eh (.inr ⟨k,cs,hk,rfl⟩)) hl)
 ·refine ⟨e,o1.os,o1.tape,o1.output,by rw [o1.size]; omega,fun b hb _=>o1.old b hb,fun b hb ho=>?_,fun b o hi hb _=>hI b o hb hi⟩;rcases ho with ho|ho
  ·exact .inl (live b hb ho)
  ·exact .inr ho
theorem bl.Pn (h:bl E R w β s a) {cur cur2:Array Value} {elem:TypeId} {n id g:Nat} {r0 r1:RO} {Kq go:GO} (hg:nth s.G id=some Kq) (hid:nth R.obj id=some r0) (OV:r0.has g) (hle:cF r0 r1) (xG:∀ b,r1.has b→r0.has b)
  (iW:w.heap[g]?=some (.cells cur elem (0,0))) (xH:∀ o,R.I g o→cur2[o]?=cur[o]?)
  (iE:Ext R w (R.upto g n (aF R.obj id r1)) (w.setRow g cur2)→gK (R.upto g n (aF R.obj id r1)) (w.setRow g cur2) go r1) :
  Ext R w (R.upto g n (aF R.obj id r1)) (w.setRow g cur2)∧bl E (R.upto g n (aF R.obj id r1)) (w.setRow g cur2) β (s.cD (aF s.G id go)) a∧Step R w β s.boxes (R.upto g n (aF R.obj id r1)) (w.setRow g cur2) β s.boxes:=by
 have old:∀ b,b≠g→(w.setRow g cur2).heap[b]?=w.heap[b]?:=fun b hb=>setRow_other w g b cur2 hb
 have new:(w.setRow g cur2).heap[g]?=some (.cells cur2 elem (0,0)):=setRow_heap w g cur cur2 elem (0,0) iW;have rJ:Live R g:=⟨id,_,hid,OV⟩;have e:Ext R w (R.upto g n (aF R.obj id r1)) (w.setRow g cur2):=by
  refine ⟨fun _ _ hi=>.inl hi,fun b o hi=>?_,fun i r hr=>?_,fun b r hb=>⟨r,(old b fun e=>by subst e; rw [iW] at hb; cases hb).trans hb,rfl,rfl,rfl,rfl,rfl⟩⟩
  ·by_cases hb:b=g
   ·subst hb;simp only [World.cell?,new,iW,xH o hi]
   ·exact cb (old b hb) o
  ·by_cases ei:id=i
   ·subst ei;rw [hid] at hr;cases hr;exact ⟨_,aN hid,hle⟩
   ·exact ⟨r,by rw [ak.upto,cj ei]; exact hr,cF.refl r⟩
 have hI:∀ b o,b≠g→(R.upto g n (aF R.obj id r1)).I b o→R.I b o:=fun b o hb hi=>by
  rcases hi with hi|⟨hi,_⟩
  ·exact hi
  ·exact absurd hi hb
 have live:∀ b,Live (R.upto g n (aF R.obj id r1)) b→Live R b:=fun b hl=>by
  obtain ⟨i,r,h1,h2⟩:=hl;rcases aD hid h1 with ⟨_,rfl⟩|⟨_,h1⟩
  ·exact ⟨id,_,hid,xG b h2⟩
  ·exact ⟨i,r,h1,h2⟩
 have rK:∀ k cs,dy s.boxes k=some cs→β k≠g:=fun k cs hk eq=>(h.b.box k cs hk).2.2 (eq ▸ rJ)
 refine ⟨e,⟨⟨by simp [St.cD,ak.upto,h.g.len],fun i gg r h1 h2=>?_,fun i j ri rj b h1 h2 b1 b2=>?_,fun b o hi=>?_,fun g cs hg=>(h.g.ck g cs hg).mono e,h.g.lo⟩,?_,h.t.mono e,h.n,h.d.mono e⟩,?_⟩
 ·rcases aD hid h2 with ⟨rfl,rfl⟩|⟨cQ,h2⟩
  ·simp only [St.cD] at h1;rw [aN hg] at h1;cases h1;exact iE e
  ·simp only [St.cD] at h1;rw [cj (abS cQ)] at h1;have UW:∀ b,r.has b→b≠g:=fun b hb eq=>cQ (h.g.inj i id _ _ b h2 hid hb (by rw [eq]; exact OV))
   exact (h.g.obj i gg r h1 h2).mono e (fun b hb=>old b (UW b hb)) (fun b o hb=>hI b o (UW b hb))
 ·rcases aD hid h1 with ⟨g3,e1⟩|⟨g3,g1⟩
  ·rcases aD hid h2 with ⟨g4,e2⟩|⟨g4,g2⟩
   ·omega
   ·rw [e1] at b1;exact g3.trans (h.g.inj id j _ _ b hid g2 (xG b b1) b2)
  ·rcases aD hid h2 with ⟨g4,e2⟩|⟨g4,g2⟩
   ·rw [e2] at b2;exact (h.g.inj i id _ _ b g1 hid b1 (xG b b2)).trans g4.symm
   ·exact h.g.inj i j ri rj b g1 g2 b1 b2
 ·rcases hi with hi|⟨rfl,_⟩
  ·have:=h.g.wf b o hi;simpa using this
  ·have:=bi iW;simpa using this
 ·exact h.b.aW e (fun k cs hk=>old _ (rK k cs hk)) (fun k cs o hk=>hI _ o (rK k cs hk)) (fun k cs hk hl=>live _ hl)
 ·refine ⟨e,rfl,rfl,rfl,by simp,fun b hb uq=>old b (fun eq=>uq (.inl (eq ▸ rJ))),fun b hb ho=>?_,fun b o hi hb uq=>hI b o (fun eq=>uq (.inl (eq ▸ rJ))) hi⟩;rcases ho with ho|ho
  ·exact .inl (live b ho)
  ·exact .inr ho
theorem uc.set {ts:List TR} {j:Nat} {t t':TR} (ht:nth ts j=some t) (hle:mf t t'):uc ts (aF ts j t'):=fun i u hu=>by
 by_cases e:j=i
 ·subst e;rw [ht] at hu;cases hu;exact ⟨t',aN ht,hle⟩
 ·exact ⟨u,by rw [cj e]; exact hu,mf.refl u⟩
theorem HD {ts:List TR} {j n g c b:Nat} (h:RO.has (.bB (aF ts j (.tok n g c))) b):b=g∨RO.has (.bB ts) b:=by
 obtain ⟨i,f,c',hi⟩:=h;rcases dp hi with ⟨_,e,_⟩|⟨_,hi⟩
 ·cases e; exact .inl rfl
 ·exact .inr ⟨i,f,c',hi⟩
theorem AU.of {R':ak} {w':World} {sz f:Nat} {e:TypeId} {t:TR} (h:AU R w sz e f t) (hold:∀ f b c,t=.tok f b c→w'.heap[b]?=w.heap[b]?∧∀ o,R'.I b o→R.I b o):AU R' w' sz e f t:=by
 cases t with
 |bO=>exact h
 |full f'=>exact h
 |tok f' b c=>
  obtain ⟨h0,cur,h1,h2,h3,h4,h5⟩:=h;obtain ⟨k1,k2⟩:=hold f' b c rfl;exact ⟨h0,cur,k1.trans h1,h2,h3,h4,fun o ho hi=>h5 o ho (k2 o hi)⟩
theorem xo.set {R':ak} {w':World} {sz:Nat} {e:TypeId} {fs:List Nat} {ts:List TR} (h:xo R w sz e fs ts) {j n g c:Nat} (mO:AU R' w' sz e n (.tok n g c)) (KY:∀ i f c,nth ts i=some (.tok f g c)→i=j)
  (hold:∀ i f b c,i≠j→nth ts i=some (.tok f b c)→w'.heap[b]?=w.heap[b]?∧∀ o,R'.I b o→R.I b o):xo R' w' sz e (aF fs j n) (aF ts j (.tok n g c)):=by
 obtain ⟨h1,h2,h3⟩:=h;refine ⟨by simp [h1],fun i i' f1 b c1 f2 c2 q1 q2=>?_,fun i f1 t1 q1 q2=>?_⟩
 ·rcases dp q1 with ⟨n1,e1,_⟩|⟨n1,q1⟩
  ·cases e1;rcases dp q2 with ⟨n2,_,_⟩|⟨n2,q2⟩
   ·exact n1.symm.trans n2
   ·exact absurd (KY _ _ _ q2).symm n2
  ·rcases dp q2 with ⟨n2,e2,_⟩|⟨n2,q2⟩
   ·cases e2;exact (KY _ _ _ q1).trans n2
   ·exact h2 i i' _ _ _ _ _ q1 q2
 ·rcases dp q1 with ⟨n1,e1,_⟩|⟨n1,q1⟩
  ·rcases dp q2 with ⟨_,e2,_⟩|⟨n2,_⟩
   ·subst e1 e2;exact mO
   ·exact absurd n1 n2
  ·rcases dp q2 with ⟨n2,_,_⟩|⟨n2,q2⟩
   ·exact absurd n2 n1
   ·exact (h3 i f1 t1 q1 q2).of fun f b c ht=>by subst ht; exact hold i f b c (abS n2) q2
end ops
end Go.Am
namespace Go.Am
open Go
section lists
theorem xI {α:Type} (c us:List α) (n p sz off:Nat) (hn:n≤c.length) (hp:p+sz≤n) (ho:off+us.length≤sz) :
  (c.take (p+off)++us++c.drop (p+off+us.length)).take n =
   (c.take n).take p++((((c.take n).drop p).take sz).take off++us++(((c.take n).drop p).take sz).drop (off+us.length))++(c.take n).drop (p+sz):=by
 apply List.ext_getElem?;intro j;simp only [List.getElem?_append,abq,List.getElem?_drop,abN,aa5,abP];by_cases h1:j < p
 ·rw [if_pos (by omega),if_pos (by omega),if_pos (by omega),if_pos (by omega),if_pos (by omega),if_pos (by omega),if_pos (by omega),if_pos (by omega)]
 ·by_cases h2:j < p+off
  ·rw [if_pos (by omega),if_pos (by omega),if_pos (by omega),if_pos (by omega),if_pos (by omega),if_neg (by omega),if_pos (by omega),if_pos (by omega),if_pos (by omega),if_pos (by omega),if_pos (by omega)];congr 1; omega
  ·by_cases h3:j < p+off+us.length
   ·rw [if_pos (by omega),if_pos (by omega),if_neg (by omega),if_pos (by omega),if_neg (by omega),if_pos (by omega),if_neg (by omega)];congr 1; omega
   ·by_cases h4:j < p+sz
    ·rw [if_pos (by omega),if_neg (by omega),if_pos (by omega),if_neg (by omega),if_neg (by omega),if_pos (by omega),if_pos (by omega)];congr 1; omega
    ·by_cases h5:j < n
     ·rw [if_pos (by omega),if_neg (by omega),if_neg (by omega),if_pos (by omega)];congr 1; omega
     ·rw [if_neg (by omega),if_neg (by omega),if_neg (by omega)]
theorem rL {sz:Nat}:∀ {es:List AV} {i:Nat} {e:AV},dM sz es→nth es i=some e→((aq es).drop (i * sz)).take sz=e.cells
 |[],_,_,_,h=>by simp [nth] at h
 |x :: es,0,e,h,hi=>by
  simp only [nth] at hi;cases hi;have h1:=(h x (by simp)).1;rw [ab8,List.drop_zero];simp only [aq];rw [← h1,List.take_left]
 |x :: es,i+1,e,h,hi=>by
  have h1:=(h x (by simp)).1;have ih:=rL (i:=i) (fun y hy=>h y (by simp [hy])) (show nth es i=some e from hi);simp only [aq];rw [show (i+1) * sz=x.cells.length+i * sz by rw [h1,aa9]; omega,List.drop_append,abu (by omega),abQ,abO];exact ih
theorem sN {sz:Nat} {l r:List AV} (h:dM sz l) (k:dM sz r):dM sz (l++r):=fun e he=>by
 rcases ab0.1 he with he|he
 ·exact h e he
 ·exact k e he
theorem A4 {sz:Nat} {l:List AV} (n:Nat) (h:dM sz l):dM sz (l.take n):=fun e he=>h e (aaB he)
theorem I3 {sz:Nat} {l:List AV} (n:Nat) (h:dM sz l):dM sz (l.drop n):=fun e he=>h e (aa3 he)
theorem jy {sz:Nat}:∀ {es:List AV} (i:Nat),dM sz es→aq (es.take i)=(aq es).take (i * sz)
 |[],i,_=>by simp [aq]
 |e :: es,0,_=>by simp [aq]
 |e :: es,i+1,h=>by
  have h1:=(h e (by simp)).1;simp only [List.take_succ_cons,aq];rw [jy i (fun y hy=>h y (by simp [hy])),show (i+1) * sz=e.cells.length+i * sz by rw [h1,aa9]; omega,List.take_append,abO,List.take_of_length_le (by omega:e.cells.length≤e.cells.length+i * sz)]
theorem ph {sz:Nat}:∀ {es:List AV} (i:Nat),dM sz es→aq (es.drop i)=(aq es).drop (i * sz)
 |[],i,_=>by simp [aq]
 |e :: es,0,_=>by simp [aq]
 |e :: es,i+1,h=>by
  have h1:=(h e (by simp)).1;simp only [List.drop_succ_cons,aq];rw [ph i (fun y hy=>h y (by simp [hy])),show (i+1) * sz=e.cells.length+i * sz by rw [h1,aa9]; omega,List.drop_append,abu (by omega:e.cells.length≤e.cells.length+i * sz),abQ,abO]
theorem dm {sz:Nat} {es:List AV} (h:dM sz es):(aq es).length=es.length * sz:=by
 induction es with
 |nil=>simp [aq]
 |cons e es ih=>
  have h1:=(h e (by simp)).1;have:=ih (fun x hx=>h x (by simp [hx]));simp only [aq,abN,this,h1,List.length_cons,ab1];omega
theorem FF {sz:Nat} {es:List AV} {i:Nat} {v:AV} (h:dM sz es) (h1:v.cells.length=sz) (h2:v.aY=true):dM sz (aF es i v):=fun e he=>by
 rw [gn] at he;rcases List.mem_or_eq_of_mem_set he with he|rfl
 ·exact h e he
 ·exact ⟨h1,h2⟩
theorem Dj {sz:Nat} {es:List AV} {i:Nat} {v:AV} (h:dM sz es) (hi:i < es.length) (hv:v.cells.length=sz):aq (aF es i v)=bf (aq es) (i * sz) v.cells:=by
 have FG:i * sz+sz≤es.length * sz:=by
  rw [← aa9];exact aaM _ hi
 rw [gn,List.set_eq_take_append_cons_drop,if_pos hi,eO _ _ _ (by rw [hv,dm h]; exact FG),cX,jy i h,hv];simp only [aq];rw [ph (i+1) h,aa9,List.append_assoc]
end lists
section ops
variable {E:Env} {R:ak} {w:World} {β:Nat→Nat} {s:St} {a:Act} {o:Oper}
theorem lH {G:List GO} (h:dB E R w G) {id:Nat} {es:List AV} {sz:Nat} {el:TypeId} {ro:RO} (hid:nth G id=some (.dV es sz el)) (b6:nth R.obj id=some ro) (hn:ro≠.bO) :
  ∃ b c cur vs,ro=.tok es.length b c∧dM sz es∧w.heap[b]?=some (.cells cur el (0,0))∧es.length≤c∧c≤maxLen∧cur.size=c * sz∧(∀ o,¬ R.I b o)∧aK R w (aq es) vs∧(∀ v∈vs,v.oneCell'=true)∧cur.toList.take (es.length * sz)=vs:=by
 have hr:=h.obj id _ _ hid b6;cases ro with
 |none=>exact hr.elim
 |bO=>exact absurd rfl hn
 |ca b=>exact hr.elim
 |bB _=>exact hr.elim
 |tok f b c=>
  obtain ⟨rfl,h1,cur,vs,h2,h3,h4,h5,h6,h7,h8,h9⟩:=hr;exact ⟨b,c,cur,vs,rfl,h1,h2,h3,h4,h5,h6,h7,h8,h9⟩
theorem xJ {id f i sz:Nat} {t:TypeId} {v:AV} (h:xj E s id f i sz t=some (true,v)) :
  ∃ es el e,nth s.G id=some (.dV es sz el)∧f=es.length∧nth es i=some e∧iY e v:=by
 unfold xj at h;split at h
 ·rename_i es bR el hid;split at h
  ·rename_i p hp;split at h
   ·rename_i eY;have eY:=aab eY;subst eY;injection h with h;injection h with h1 h2;simp only [aaH,decide_eq_true_eq] at h1;obtain ⟨⟨h3,h4⟩,h5⟩:=h1;obtain ⟨e,he⟩:∃ e,nth es i=some e:=⟨es[i],by rw [bg]; exact abW h4⟩;have hd:ah es i=e:=by simp [ah,he]
    rw [hd] at h5 h2;rw [← h2];exact ⟨es,el,e,hid,h3,he,p.dc h5⟩
   ·cases h
  ·split at h
   ·rename_i eY;have eY:=aab eY;subst eY;injection h with h;injection h with h1 h2;simp only [aaH,decide_eq_true_eq] at h1;obtain ⟨h3,h4⟩:=h1;obtain ⟨e,he⟩:∃ e,nth es i=some e:=⟨es[i],by rw [bg]; exact abW h4⟩;have hd:ah es i=e:=by simp [ah,he]
    rw [hd] at h2;rw [← h2];exact ⟨es,el,e,hid,h3,he,iY.refl e⟩
   ·cases h
 ·cases h
theorem HE {α:Type} {l:List α} {i:Nat} {x:α} (h:nth l i=some x):x∈l:=by
 rw [bg] at h;exact List.mem_of_getElem? h
theorem FH {i n sz:Nat} (h:i < n):i * sz+sz≤n * sz:=by
 rw [← aa9];exact aaM _ h
theorem FI (h:bl E R w β s a) (t:TypeId) (x:Operand) (ho:o.op=.load t x) {v:AV} (hl:AR E s t (bJ E s.ae x)=some (true,v)) :
  cm E R w β s a o (s.put o.dst (.v v)):=by
 have rx:=aT h x;unfold AR at hl;split at hl
 ·rename_i id f i off sz ty hx;rw [hx] at rx;split at hl
  ·rename_i ti c ve UT hg;split at hl
   ·rename_i l hs;split at hl
    ·rename_i r hm;injection hl with hl;injection hl with h1 h2;subst h1; subst h2;obtain ⟨es,el,e,hid,UY,he,vZ⟩:=xJ hg;have dN:Rel R w (.gp id f i off sz ty) (a.eval x):=rx;generalize fy:a.eval x=xv at dN;cases dN with
     | @gp _ _ _ _ _ b o' _ ro b6 eJ=>
     obtain ⟨b',c',cur,vs,rfl,g1,g2,g3,g4,g5,g6,g7,g8,g9⟩:=lH h.g hid b6 (fun k=>by subst k; exact eJ);obtain ⟨rfl,rfl⟩:=eJ.2 UY;have hem:=g1 e (HE he);have ej:aK R w e.cells ((vs.drop (i * sz)).take sz):=by
      rw [← rL g1 he];exact (g7.drop _).take _
     have hw:=(vZ.cells hem.2).rel ej;obtain ⟨k1,k2,k3,k4⟩:=qk hs hw (fun y hy=>g8 y (aa3 (aaB hy)));obtain ⟨c,hc,hrr⟩:=oX (E:=E) UT (b:=b) (off:=i * sz+off) k1 k2 k3 (fun j y hy=>by
      have h1:=k4 j y hy;rw [abq] at h1;split at h1
      ·rw [List.getElem?_drop,← g9,abq] at h1;split at h1
       ·rw [cell_of_row w b _ cur el (0,0) g2,Nat.add_assoc,← ab3];exact h1
       ·cases h1
      ·cases h1) hm
     refine ao h (c:=c) ?_ hrr;simp [execOp,ho,Instr.loadAt,fy,abR,hc]
    ·cases hl
   ·cases hl
  ·cases hl
 ·split at hl
  ·rename_i v' hv;injection hl with hl;injection hl with h1 h2;subst h2;exact IX h t x ho hv
  ·cases hl
theorem bl.B5 (h:bl E R w β s a) {id f b c:Nat} {es es':List AV} {sz:Nat} {el:TypeId} {cur Di:Array Value} {vs':List Value} (hid:nth s.G id=some (.dV es sz el)) (b6:nth R.obj id=some (.tok f b c))
  (hb:w.heap[b]?=some (.cells cur el (0,0))) (hlen:es'.length=es.length) (qj:dM sz es') (eY:Di.size=cur.size) (hr:aK R w (aq es') vs') (h1:∀ v∈vs',v.oneCell'=true) (ht:Di.toList.take (f * sz)=vs') :
  bl E R (w.setRow b Di) β (s.cD (aF s.G id (.dV es' sz el))) a∧Step R w β s.boxes R (w.setRow b Di) β s.boxes:=by
 obtain ⟨q0,q1,YR,vs0,p1,p2,p3,p4,p5,p6,p7,p8⟩:=h.g.obj id _ _ hid b6;rw [hb] at p1;cases p1;have hex:=jb (R:=R) (w:=w) p5 Di;have FJ:∀ k cs,dy s.boxes k=some cs→β k≠b:=fun k cs hk e=>(h.b.box k cs hk).2.2 ⟨id,_,b6,by rw [e]; rfl⟩
 refine ⟨⟨⟨by simp [St.cD,h.g.len],fun jL go ro hg mh=>?_,h.g.inj,fun b' o' uf=>by have:=h.g.wf b' o' uf; simp; omega,fun g cs' hg=>(h.g.ck g cs' hg).mono hex,h.g.lo⟩,?_,h.t.mono hex,h.n,h.d⟩,?_⟩
 ·rcases dp hg with ⟨rfl,rfl,_⟩|⟨cQ,rI⟩
  ·rw [b6] at mh;cases mh;exact ⟨by rw [hlen]; exact q0,qj,Di,vs',setRow_heap w _ _ _ _ (0,0) hb,p2,p3,by rw [eY]; exact p4,p5,hr.mono hex,h1,ht⟩
  ·refine (h.g.obj jL go ro rI mh).mono hex (fun b' gL=>setRow_other w _ b' _ (fun e=>cQ ?_)) (fun _ _ _ hi=>hi);subst e;exact h.g.inj id jL _ _ b' b6 mh rfl gL
 ·exact h.b.aW hex (fun k cs' iG=>setRow_other w _ _ _ (FJ k cs' iG)) (fun _ _ _ _ hi=>hi) (fun _ _ _ hl=>hl)
 ·have BW:Own R β s.boxes b:=.inl ⟨id,_,b6,rfl⟩;exact ⟨hex,rfl,rfl,rfl,by simp,fun b' _ hn=>setRow_other w _ b' _ (fun e=>hn (e ▸ BW)),fun _ _ hb=>hb,fun b o hi _ _=>hi⟩
theorem bl.HF (h:bl E R w β s a) {id b c i off:Nat} {es:List AV} {sz:Nat} {el:TypeId} {cur:Array Value} {vs us:List Value} {e':AV} (hid:nth s.G id=some (.dV es sz el)) (b6:nth R.obj id=some (.tok es.length b c))
  (hb:w.heap[b]?=some (.cells cur el (0,0))) (qj:dM sz es) (hle:es.length≤c) (ql:cur.size=c * sz) (hr:aK R w (aq es) vs) (h1:∀ v∈vs,v.oneCell'=true) (ht:cur.toList.take (es.length * sz)=vs) (hi:i < es.length)
  (h2:∀ v∈us,v.oneCell'=true) (B6:off+us.length≤sz) (AW:e'.cells.length=sz) (YS:e'.aY=true) (YT:aK R w e'.cells (((vs.drop (i * sz)).take sz).take off++us++((vs.drop (i * sz)).take sz).drop (off+us.length))) :
  bl E R (w.setRow b ⟨cur.toList.take (i * sz+off)++us++cur.toList.drop (i * sz+off+us.length)⟩) β (s.cD (aF s.G id (.dV (aF es i e') sz el))) a ∧
   Step R w β s.boxes R (w.setRow b ⟨cur.toList.take (i * sz+off)++us++cur.toList.drop (i * sz+off+us.length)⟩) β s.boxes:=by
 have FG:=FH (sz:=sz) hi;have OW:es.length * sz≤cur.toList.length:=by
  rw [show cur.toList.length=cur.size from aba,ql];exact aaM _ hle
 have TE:vs.length=es.length * sz:=by rw [← hr.length,dm qj]
 refine h.B5 hid b6 hb (ik _ _ _) (FF qj AW YS) ?_ (vs':=vs.take (i * sz)++(((vs.drop (i * sz)).take sz).take off++us++((vs.drop (i * sz)).take sz).drop (off+us.length))++vs.drop (i * sz+sz)) ?_ ?_ ?_
 ·rw [List.size_toArray,← aba];simp only [abN,aa5,abP];omega
 ·rw [Dj qj hi AW,eO _ _ _ (by rw [AW,dm qj]; exact FG),AW];exact ((hr.take _).append YT).append (hr.drop _)
 ·intro v hv;simp only [ab0] at hv;rcases hv with (hv|((hv|hv)|hv))|hv
  ·exact h1 v (aaB hv)
  ·exact h1 v (aa3 (aaB (aaB hv)))
  ·exact h2 v hv
  ·exact h1 v (aa3 (aaB (aa3 hv)))
  ·exact h1 v (aa3 hv)
 ·rw [ab5,xI _ _ _ _ _ _ OW FG B6,ht]
theorem bl.HG (h:bl E R w β s a) {id b c off:Nat} {es ns:List AV} {sz:Nat} {el:TypeId} {cur:Array Value} {vs us:List Value} (hid:nth s.G id=some (.dV es sz el)) (b6:nth R.obj id=some (.tok es.length b c))
  (hb:w.heap[b]?=some (.cells cur el (0,0))) (qj:dM sz es) (hle:es.length≤c) (ql:cur.size=c * sz) (hr:aK R w (aq es) vs) (h1:∀ v∈vs,v.oneCell'=true) (ht:cur.toList.take (es.length * sz)=vs)
  (B6:off+ns.length≤es.length) (hns:dM sz ns) (hu:aK R w (aq ns) us) (h2:∀ v∈us,v.oneCell'=true) :
  bl E R (w.setRow b ⟨cur.toList.take (off * sz)++us++cur.toList.drop (off * sz+us.length)⟩) β (s.cD (aF s.G id (.dV (bf es off ns) sz el))) a ∧
   Step R w β s.boxes R (w.setRow b ⟨cur.toList.take (off * sz)++us++cur.toList.drop (off * sz+us.length)⟩) β s.boxes:=by
 have UZ:us.length=ns.length * sz:=by rw [← hu.length,dm hns]
 have FG:off * sz+ns.length * sz≤es.length * sz:=by rw [← ab1]; exact aaM _ B6
 have OW:es.length * sz≤cur.toList.length:=by
  rw [show cur.toList.length=cur.size from aba,ql];exact aaM _ hle
 have TE:vs.length=es.length * sz:=by rw [← hr.length,dm qj]
 have hm:=xI cur.toList us (es.length * sz) (off * sz) (ns.length * sz) 0 OW FG (by omega);simp only [Nat.add_zero,List.take_zero,abQ,abX] at hm;rw [UZ,ht,show List.drop (ns.length * sz) (List.take (ns.length * sz) (List.drop (off * sz) vs))=[] from abu (by rw [aa5]; exact Nat.min_le_left _ _),List.append_nil] at hm;rw [eO _ _ _ B6];refine h.B5 hid b6 hb (by simp; omega) (sN (sN (A4 _ qj) hns) (I3 _ qj)) ?_ (vs':=vs.take (off * sz)++us++vs.drop (off * sz+ns.length * sz)) ?_ ?_ ?_
 ·rw [List.size_toArray,← aba];simp only [abN,aa5,abP,UZ];omega
 ·rw [cX,cX,jy _ qj,ph _ qj,ab1];exact ((hr.take _).append hu).append (hr.drop _)
 ·intro v hv;simp only [ab0] at hv;rcases hv with (hv|hv)|hv
  ·exact h1 v (aaB hv)
  ·exact h2 v hv
  ·exact h1 v (aa3 hv)
 ·rw [ab5,UZ];exact hm
theorem Dk (h:bl E R w β s a) (t:TypeId) (p x:Operand) (ho:o.op=.store t p x) (hd:o.dst=none) {s':St} (hs:jO E s t (bJ E s.ae p) (bJ E s.ae x)=some (true,s')) :
  cm E R w β s a o s':=by
 have rp:=aT h p;have rx:=aT h x;unfold jO at hs;split at hs
 ·rename_i id f i off sz ty YC;rw [YC] at rp;have YE:Rel R w (.gp id f i off sz ty) (a.eval p):=rp;generalize YF:a.eval p=pv at YE;split at hs
  ·rename_i ti v es bR el UT hx hid;rw [hx] at rx;split at hs
   ·rename_i fI;simp only [aaH] at fI;obtain ⟨⟨OR,hlen⟩,U0⟩:=fI;have hlen:=aab hlen;have U0:=aab U0;subst U0;have rxw:Rel R w v (a.eval x):=rx;obtain ⟨c1,c2⟩:=Rel.cells rxw OR;have C1:v.cells.length=(a.eval x).cells.toList.length:=c1.length;cases YE with
    | @gp _ _ _ _ _ b o' _ ro b6 eJ=>
    obtain ⟨b',c',cur,vs,rfl,g1,g2,g3,g4,g5,g6,g7,g8,g9⟩:=lH h.g hid b6 (fun k=>by subst k; exact eJ);have TE:vs.length=es.length * sz:=by rw [← g7.length,dm g1]
    have OW:es.length * sz≤cur.toList.length:=by
     rw [show cur.toList.length=cur.size from aba,g5];exact aaM _ g3
    split at hs
    ·rename_i hw;rw [aaH] at hw;have B6:=aab hw.1;have hts:=aab hw.2;subst B6;injection hs with hs;injection hs with h1 h2;rw [aaH,decide_eq_true_eq,decide_eq_true_eq] at h1;subst h2;obtain ⟨rfl,rfl⟩:=eJ.2 h1.1;have FG:=FH (sz:=sz) h1.2;have bE:=j4 (E:=E) (w:=w) UT (b:=b) (vs:=cur.toList) (off:=i * sz+0) (c:=a.eval x) g2 (by rw [← C1]; exact hlen) (by rw [← C1]; omega) c2;obtain ⟨r1,r2⟩:=h.HF (us:=(a.eval x).cells.toList) (off:=0) (i:=i) (e':=v) hid b6 g2 g1 g3 g5 g7 g8 g9 h1.2 c2 (by rw [← C1]; omega) (by omega) OR (by
      rw [List.take_zero,abQ,abX,abu (by rw [aa5,← C1]; omega),List.append_nil];exact c1)
     simp only [Nat.add_zero] at YF bE r1 r2;refine ⟨.skip,undef,_,R,β,?_,.inr ⟨rfl,rfl⟩,by rw [hd]; exact r1,r2⟩;simp [execOp,ho,Instr.storeAt,YF,abR,bE]
    ·split at hs
     ·rename_i cc cs hg;split at hs
      ·rename_i hw;simp only [aaH] at hw;obtain ⟨hle,U1⟩:=hw;have hle:=ab2 hle;have U1:=aab U1;injection hs with hs;injection hs with h1 h2;subst h1; subst h2;obtain ⟨es0,el0,e,KZ,UY,he,vZ⟩:=xJ hg;rw [hid] at KZ;cases KZ;obtain ⟨rfl,rfl⟩:=eJ.2 UY;have hi:i < es.length:=b7 he;have FG:=FH (sz:=sz) hi;have hem:=g1 e (HE he);have ej:aK R w e.cells ((vs.drop (i * sz)).take sz):=by
        rw [← rL g1 he];exact (g7.drop _).take _
       have hw:=(vZ.cells hem.2).rel ej;have hw':aK R w cs ((vs.drop (i * sz)).take sz):=hw;have bE:=j4 (E:=E) (w:=w) UT (b:=b) (vs:=cur.toList) (off:=i * sz+off) (c:=a.eval x) g2 (by rw [← C1]; exact hlen) (by rw [← C1]; omega) c2;have C2:off+v.cells.length≤cs.length:=by omega
       obtain ⟨r1,r2⟩:=h.HF (us:=(a.eval x).cells.toList) (off:=off) (i:=i) (e':=.agg (bf cs off v.cells)) hid b6 g2 g1 g3 g5 g7 g8 g9 hi c2 (by rw [← C1]; omega) (by show (bf cs off v.cells).length=sz; rw [Al _ _ _ C2]; exact U1) rfl (by
        show aK R w (bf cs off v.cells) _;rw [eO _ _ _ C2,C1];exact ((hw'.take _).append c1).append (hw'.drop _))
       refine ⟨.skip,undef,_,R,β,?_,.inr ⟨rfl,rfl⟩,by rw [hd]; exact r1,r2⟩;simp [execOp,ho,Instr.storeAt,YF,abR,bE]
      ·cases hs
     ·cases hs
   ·cases hs
  ·cases hs
 ·split at hs
  ·rename_i Dl hv;injection hs with hs;injection hs with h1 h2;subst h2;exact Ft h t p x ho hd hv
  ·cases hs
def ak.reset (R:ak) (id:Nat) (ro:RO):ak:=⟨R.I,aF R.obj id ro⟩
theorem xK {id g:Nat} {r0 ro:RO} (hid:nth R.obj id=some r0) (b6:∀ b,ro.has b→b=g) {b:Nat} (hl:Live (R.reset id ro) b):b=g∨Live R b:=by
 obtain ⟨i,r,h1,h2⟩:=hl;rcases aD hid h1 with ⟨_,rfl⟩|⟨_,h1⟩
 ·exact .inl (b6 b h2)
 ·exact .inr ⟨i,r,h1,h2⟩
theorem bl.U2 (h:bl E R w β s a) {cur:Array Value} {vs:List Value} {es es':List AV} {elem:TypeId} {sz cap id:Nat} {r0:RO} (hg:nth s.G id=some (.dV es sz elem)) (hid:nth R.obj id=some r0) (hf:∀ b c,cF r0 (.tok es'.length b c))
  (hn:es'.length≤cap) (hm:cap≤maxLen) (hs:cur.size=cap * sz) (qj:dM sz es') (hr:aK R w (aq es') vs) (h1:∀ v∈vs,v.oneCell'=true) (ht:cur.toList.take (es'.length * sz)=vs) :
  bl E (R.reset id (.tok es'.length w.heap.size cap)) (w.drew.alloc (.cells cur elem)) β (s.cD (aF s.G id (.dV es' sz elem))) a ∧
  Step R w β s.boxes (R.reset id (.tok es'.length w.heap.size cap)) (w.drew.alloc (.cells cur elem)) β s.boxes:=by
 have e:Ext R w (R.reset id (.tok es'.length w.heap.size cap)) (w.drew.alloc (.cells cur elem)):=
  ⟨fun _ _ h=>h,fun b o hi=>cb (heap_alloc_old w.drew _ b (h.g.wf b o hi)) o,fun i r hr=>by
   by_cases ei:id=i
   ·subst ei;rw [hid] at hr;cases hr;exact ⟨_,aN hid,hf _ _⟩
   ·exact ⟨r,by rw [ak.reset,cj ei]; exact hr,cF.refl r⟩,.old fun b hb=>heap_alloc_old w.drew _ b hb⟩
 have old:∀ b,b < w.heap.size→(w.drew.alloc (.cells cur elem)).heap[b]?=w.heap[b]?:=fun b hb=>heap_alloc_old w.drew _ b hb
 have new:(w.drew.alloc (.cells cur elem)).heap[w.heap.size]?=some (.cells cur elem (0,0)):=heap_alloc_new w.drew _;have live:∀ b,b < w.heap.size→Live (R.reset id (.tok es'.length w.heap.size cap)) b→Live R b:=fun b hb hl=>by
  rcases xK (g:=w.heap.size) (ro:=.tok es'.length w.heap.size cap) hid (fun _ h=>h) hl with rfl|hl
  ·omega
  ·exact hl
 refine ⟨⟨⟨by simp [St.cD,ak.reset,h.g.len],fun i gg r xq h2=>?_,fun i j ri rj b xq h2 b1 b2=>?_,fun b o hi=>?_,fun g cs hg=>(h.g.ck g cs hg).mono e,abJ h.g.lo⟩,?_,h.t.mono e,h.n,h.d.mono e⟩,?_⟩
 ·rcases aD hid h2 with ⟨rfl,rfl⟩|⟨cQ,h2⟩
  ·simp only [St.cD] at xq;rw [aN hg] at xq;cases xq;exact ⟨rfl,qj,cur,vs,new,hn,hm,hs,fun o hi=>by have:=h.g.wf _ _ hi; omega,hr.mono e,h1,ht⟩
  ·simp only [St.cD] at xq;rw [cj (abS cQ)] at xq;exact (h.g.obj i gg r xq h2).mono e (fun b hb=>old b (h.g.b9 ⟨i,r,h2,hb⟩)) (fun b o _ hi=>hi)
 ·rcases aD hid xq with ⟨g3,e1⟩|⟨g3,g1⟩
  ·rcases aD hid h2 with ⟨g4,e2⟩|⟨g4,g2⟩
   ·omega
   ·have:=h.g.b9 ⟨j,rj,g2,b2⟩;rw [e1] at b1;simp [RO.has] at b1;omega
  ·rcases aD hid h2 with ⟨g4,e2⟩|⟨g4,g2⟩
   ·have:=h.g.b9 ⟨i,ri,g1,b1⟩;rw [e2] at b2;simp [RO.has] at b2;omega
   ·exact h.g.inj i j ri rj b g1 g2 b1 b2
 ·have:=h.g.wf b o hi;simp;omega
 ·exact h.b.aW e (fun k cs hk=>old _ (h.eh (.inr ⟨k,cs,hk,rfl⟩))) (fun k cs o hk hi=>hi) (fun k cs hk hl=>live _ (h.eh (.inr ⟨k,cs,hk,rfl⟩)) hl)
 ·refine ⟨e,rfl,rfl,rfl,by simp,fun b hb _=>old b hb,fun b hb ho=>?_,fun b o hi hb _=>hi⟩;rcases ho with ho|ho
  ·exact .inl (live b hb ho)
  ·exact .inr ho
theorem bl.Po (h:bl E R w β s a) {cur cur2:Array Value} {vs:List Value} {es es':List AV} {elem:TypeId} {sz id g c:Nat} (hg:nth s.G id=some (.dV es sz elem)) (hid:nth R.obj id=some (.tok es.length g c)) (bZ:es.length < es'.length) (hn:es'.length≤c)
  (iW:w.heap[g]?=some (.cells cur elem (0,0))) (hs:cur2.size=cur.size) (qj:dM sz es') (hr:aK R w (aq es') vs) (h1:∀ v∈vs,v.oneCell'=true) (ht:cur2.toList.take (es'.length * sz)=vs) :
  bl E (R.reset id (.tok es'.length g c)) (w.setRow g cur2) β (s.cD (aF s.G id (.dV es' sz elem))) a ∧
  Step R w β s.boxes (R.reset id (.tok es'.length g c)) (w.setRow g cur2) β s.boxes:=by
 obtain ⟨q0,q1,YR,vs0,p1,p2,p3,p4,p5,p6,p7,p8⟩:=h.g.obj id _ _ hg hid;rw [iW] at p1;cases p1;have rJ:Live R g:=⟨id,_,hid,rfl⟩;have old:∀ b,b≠g→(w.setRow g cur2).heap[b]?=w.heap[b]?:=fun b hb=>setRow_other w g b cur2 hb
 have new:(w.setRow g cur2).heap[g]?=some (.cells cur2 elem (0,0)):=setRow_heap w g cur cur2 elem (0,0) iW;have e:Ext R w (R.reset id (.tok es'.length g c)) (w.setRow g cur2):=by
  have e0:=jb (R:=R) (w:=w) p5 cur2;refine ⟨fun _ _ h=>h,e0.cell,fun i r hr=>?_,e0.lp⟩;by_cases ei:id=i
  ·subst ei;rw [hid] at hr;cases hr;exact ⟨_,aN hid,by omega,fun e=>by omega⟩
  ·exact ⟨r,by rw [ak.reset,cj ei]; exact hr,cF.refl r⟩
 have live:∀ b,Live (R.reset id (.tok es'.length g c)) b→Live R b:=fun b hl=>by
  rcases xK (g:=g) (ro:=.tok es'.length g c) hid (fun _ h=>h) hl with rfl|hl
  ·exact rJ
  ·exact hl
 have rK:∀ k cs,dy s.boxes k=some cs→β k≠g:=fun k cs hk eq=>(h.b.box k cs hk).2.2 (eq ▸ rJ)
 refine ⟨⟨⟨by simp [St.cD,ak.reset,h.g.len],fun i gg r xq h2=>?_,fun i j ri rj b xq h2 b1 b2=>?_,fun b o hi=>?_,fun g cs hg=>(h.g.ck g cs hg).mono e,h.g.lo⟩,?_,h.t.mono e,h.n,h.d.mono e⟩,?_⟩
 ·rcases aD hid h2 with ⟨rfl,rfl⟩|⟨cQ,h2⟩
  ·simp only [St.cD] at xq;rw [aN hg] at xq;cases xq;exact ⟨rfl,qj,cur2,vs,new,hn,p3,by rw [hs]; exact p4,p5,hr.mono e,h1,ht⟩
  ·simp only [St.cD] at xq;rw [cj (abS cQ)] at xq;have UW:∀ b,r.has b→b≠g:=fun b hb eq=>cQ (h.g.inj i id _ _ b h2 hid hb (by rw [eq]; rfl))
   exact (h.g.obj i gg r xq h2).mono e (fun b hb=>old b (UW b hb)) (fun b o hb hi=>hi)
 ·rcases aD hid xq with ⟨g3,e1⟩|⟨g3,g1⟩
  ·rcases aD hid h2 with ⟨g4,e2⟩|⟨g4,g2⟩
   ·omega
   ·rw [e1] at b1;exact g3.trans (h.g.inj id j _ _ b hid g2 b1 b2)
  ·rcases aD hid h2 with ⟨g4,e2⟩|⟨g4,g2⟩
   ·rw [e2] at b2;exact (h.g.inj i id _ _ b g1 hid b1 b2).trans g4.symm
   ·exact h.g.inj i j ri rj b g1 g2 b1 b2
 ·have:=h.g.wf b o hi;simpa using this
 ·exact h.b.aW e (fun k cs hk=>old _ (rK k cs hk)) (fun k cs o hk hi=>hi) (fun k cs hk hl=>live _ hl)
 ·refine ⟨e,rfl,rfl,rfl,by simp,fun b hb uq=>old b (fun eq=>uq (.inl (eq ▸ rJ))),fun b hb ho=>?_,fun b o hi hb uq=>hi⟩;rcases ho with ho|ho
  ·exact .inl (live b ho)
  ·exact .inr ho
theorem bl.FK (h:bl E R w β s a) {cur:Array Value} {vs:List Value} {es:List AV} {elem:TypeId} {sz cap:Nat} (hn:es.length≤cap) (hm:cap≤maxLen) (hs:cur.size=cap * sz) (qj:dM sz es) (hr:aK R w (aq es) vs) (h1:∀ v∈vs,v.oneCell'=true) (ht:cur.toList.take (es.length * sz)=vs) :
  bl E (R.add (.tok es.length w.heap.size cap)) (w.alloc (.cells cur elem)) β (s.dQ (.dV es sz elem)) a:=
 h.mg (.cells cur elem) (.dV es sz elem) (.tok es.length w.heap.size cap) (by exact fun _ h=>h)
  ⟨rfl,qj,cur,vs,heap_alloc_new w _,hn,hm,hs,fun o hi=>by have:=h.g.wf _ _ hi; omega,hr.mono (gS h.g.wf _ _),h1,ht⟩
theorem v7 (h:bl E R w β s a) (t:TypeId) (x y:Operand) (ho:o.op=.makeSlice t x y) {i:TI} (hi:E.ti t=some i) {k k':IntKind} {n m:Int} (hx:bJ E s.ae x=.v (.int k n)) (hy:bJ E s.ae y=.v (.int k' m))
  {elem esz oZ:Nat} {ag:Bool} {z:AV} (hk:i.k=.sl elem esz ag oZ (some z)) (hz:z.cells.length=esz) (I2:1≤esz) (su:z.aY=true) (tR:z.closed=true) (hc:0≤n∧n≤m∧m≤140737488355328∧m * oZ≤140737488355328) :
  cm E R w β s a o ((s.dQ (.dV (aaR n.toNat z) esz elem)).put o.dst (.v (.eu s.G.length n.toNat 0 esz n.toNat))):=by
 obtain ⟨us,z1,z2,bE⟩:=q7 h t x y ho hi hx hy hk hz I2 su hc;have X2:n.toNat≤m.toNat:=by omega
 have qj:=(fS (n:=m.toNat) hz su tR).g;have UZ:us.length=m.toNat * esz:=by rw [← z1.length,dm qj,ab4]
 have OW:(aaR n.toNat z).length=n.toNat:=ab4;have Fb:(aaR m.toNat z).take n.toNat=aaR n.toNat z:=by rw [List.take_replicate,Nat.min_eq_left X2]
 have hr:aK R w (aq (aaR n.toNat z)) (us.take (n.toNat * esz)):=by
  rw [← Fb,jy _ qj];exact z1.take _
 have r1:=h.FK (cur:=⟨us⟩) (vs:=us.take (n.toNat * esz)) (es:=aaR n.toNat z) (elem:=elem) (cap:=m.toNat) (by rw [OW]; exact X2) (by unfold maxLen; omega) (by simpa using UZ) (fS hz su tR).g hr (fun v hv=>z2 v (aaB hv)) (by rw [OW]);rw [OW] at r1;have e:=gS (R:=R) (w:=w) h.g.wf (.cells ⟨us⟩ elem) (.tok n.toNat w.heap.size m.toNat);exact ⟨_,.slice (some ⟨w.heap.size,0,none⟩) n.toNat m.toNat,_,R.add (.tok n.toNat w.heap.size m.toNat),β,bE,.inl rfl,r1.put o.dst (x:=.v (.eu s.G.length n.toNat 0 esz n.toNat)) (Rel.eu (gq h _) ⟨aax _,fun _=>⟨rfl,abX _,.inl (ab8 _).symm⟩⟩ X2),by rw [a6]; exact cZ h _ _ (by exact fun _ h=>h)⟩
theorem ur (h:bl E R w β s a) (t:TypeId) (len:Nat) (parts:Array (Nat × Operand)) (ho:o.op=.buildSlice t len parts) {k:LK} {esz:Nat} {es:List AV} (hv:cg E s t len parts.toList=some (.list k esz es)) {i:TI} (hi:E.ti t=some i) {elem bR oZ:Nat} {ag:Bool} {z:Option AV} (hk:i.k=.sl elem bR ag oZ z) (hm:len≤65536) :
  cm E R w β s a o ((s.dQ (.dV es esz elem)).put o.dst (.v (.eu s.G.length len 0 esz len))):=by
 obtain ⟨es',UP,us,YP,YM,bE,g2,hlen,u2,u3,i',ag',by',z',uf,iG⟩:=iH h t len parts ho hv;cases YM;rw [hi] at uf;cases uf;rw [hk] at iG;cases iG;have YQ:us.length=len * esz:=by rw [← u2.length,dO g2,hlen]
 have r1:=h.FK (cur:=⟨us⟩) (vs:=us) (es:=es) (elem:=elem) (cap:=len) (by rw [hlen]; exact aax _) (by simp [maxLen]; omega) (by simpa using YQ) g2.g u2 u3 (by rw [hlen,← YQ]; exact List.take_length);rw [hlen] at r1;exact ⟨_,.slice (some ⟨w.heap.size,0,none⟩) len len,_,R.add (.tok len w.heap.size len),β,bE,.inl rfl,r1.put o.dst (x:=.v (.eu s.G.length len 0 esz len)) (Rel.eu (gq h _) ⟨aax _,fun _=>⟨rfl,abX _,.inl (ab8 _).symm⟩⟩ (aax _)),by rw [a6]; exact cZ h _ _ (by exact fun _ h=>h)⟩
end ops
end Go.Am
