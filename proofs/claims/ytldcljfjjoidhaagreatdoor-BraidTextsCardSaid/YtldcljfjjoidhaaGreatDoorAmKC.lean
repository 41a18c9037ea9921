/- The abstract machine: what it does is what the model does: slices that are cut,made,measured. -/
import Derived.Test.YtldcljfjjoidhaaGreatDoorAmKB
set_option linter.all false
open Array renaming length_toList→aa5, getElem?_toList→acT
open Bool renaming and_eq_true→aah
open Go.Builtin renaming len_→aaF, min2→abW
open Go.Instr renaming sliceAt→aaZ, slice→aa3, sureAddr→abS, sliceBound→abU, makeSlice→ace
open Go.Op renaming bytesLess→acW
open Go.Result renaming andThen_ok→aab
open Go.Sem renaming run_bind→aad, run_pure→aa1
open List renaming mem_of_mem_take→aaf, replicate→aao, length_nil→aap, mem_of_mem_drop→aa0, length_take→aa2, getElem?_take→aa6, drop_of_length_le→aa7, length_append→aby, length_drop→abI, nil_append→abN, foldlM_cons→abV, getElem?_eq_getElem→abX, mem_append→acw, length_replicate→acU, toList_toArray→acV
open Nat renaming eq_of_beq_eq_true→aac, le_refl→aae, mul_le_mul_right→aai, succ_mul→aa4, le_succ_of_le→aa8, le_zero_eq→abx, add_sub_cancel_left→abD, zero_add→ab1, add_mul→acz, le_of_ble_eq_true→acS, zero_mul→acY
open Ne renaming symm→abT
open Option renaming map_none→aag, map_some→ab2
namespace Go.Am
open Go
section ops
variable {E:Env} {R:ak} {w:World} {β:Nat→Nat} {s:St} {a:Act} {o:Oper}
def Vs (R:ak) (w:World) (β:Nat→Nat):Option SV→Option Value→Prop
 |none,none=>True
 |some x,some c=>rm R w β x c
 |_,_=>False
theorem A7 {y y' n:Nat} {x:SV} {c:Value} (hx:rm R w β x c) (hb:B1 y x=some (true,n)) (hy:y≤y') (code:BoundsCode) :
  (abU c y' code).run E.P w=.ok n w∧n≤y:=by
 unfold B1 at hb;split at hb
 ·rename_i k m;injection hb with hb;injection hb with h1 h2;subst h2;obtain ⟨h0,h3⟩:=of_decide_eq_true h1;have oW:Rel R w (.int k m) c:=hx;cases oW;exact ⟨run_sliceBound (P:=E.P) w k m y' code h0 (by omega),by omega⟩
 ·cases hb
theorem ef (isS:Bool) {len cap l h:Nat} (Fv:len≤cap) {lo hi:Option SV} {lv hv:Option Value} (hl:Vs R w β lo lv) (hh:Vs R w β hi hv) (hb:FE len lo hi=some (true,l,h)) :
  (Instr.sliceBounds isS len cap lv hv none).run E.P w=.ok (l,h,cap) w∧l≤h∧h≤len:=by
 unfold FE at hb;split at hb
 ·cases hb
 ·rename_i c1 h' lN;split at hb
  ·cases hb
  ·rename_i c2 l' Vt;injection hb with hb;injection hb with hc hb;injection hb with e1 e2;subst e1; subst e2;simp only [aah] at hc;obtain ⟨rfl,rfl⟩:=hc;have H:∃ _:True,(match hv with | some v=>abU v cap (if isS=true then .sliceAcap else .sliceAlen) | none=>pure len).run E.P w=.ok h' w∧h'≤len:=by
    refine ⟨trivial,?_⟩;cases hi with
    |none=>cases hv with
     |none=>simp at lN; subst lN; exact ⟨rfl,aae _⟩
     |some v=>exact hh.elim
    |some x=>cases hv with
     |none=>exact hh.elim
     |some v=>exact A7 (E:=E) hh lN Fv _
   have L:∃ _:True,(match lv with | some v=>abU v h' .sliceB | none=>pure 0).run E.P w=.ok l' w∧l'≤h':=by
    refine ⟨trivial,?_⟩;cases lo with
    |none=>cases lv with
     |none=>simp at Vt; subst Vt; exact ⟨rfl,Nat.zero_le _⟩
     |some v=>exact hl.elim
    |some x=>cases lv with
     |none=>exact hl.elim
     |some v=>exact A7 (E:=E) hl Vt (aae _) _
   obtain ⟨_,H1,H2⟩:=H;obtain ⟨_,L1,L2⟩:=L;refine ⟨?_,L2,H2⟩;cases hv <;> cases lv <;> simp_all [Instr.sliceBounds]
theorem Dv (h:bt E R w β s a) {x:Option Operand} {y:Option SV} (hx:nO E s.ae x=some y):Vs R w β y (x.map a.eval):=by
 cases x with
 |none=>simp [nO] at hx; subst hx; trivial
 |some x=>simp [nO] at hx; subst hx; exact aW h x
theorem lO {α:Type} {l:List α} {lo hi:Nat} (h:hi≤l.length):(bC lo hi l).length=hi - lo:=by
 simp [bC];omega
theorem Al (l:List UInt8) (lo hi:Nat):(⟨⟨l⟩⟩:ByteArray).extract lo hi=⟨⟨bC lo hi l⟩⟩:=by
 apply ByteArray.ext;rw [ByteArray.data_extract];apply Array.ext';simp [List.extract_eq_take_drop,bC,List.drop_take]
theorem HR {ag:Bool} {b sz:Nat} (e7:(ag || Nat.beq sz 1)=true):∀ (n:Nat) {cs:List AV} {o:Nat},dV R w b o cs→n * sz≤cs.length→allFit (FF ag) (hZ ag sz n cs)=true→gj R w b o sz (hZ ag sz n cs)
 |0,_,_,_,_,_=>.nil
 |n+1,cs,o,hc,hl,hf=>by
  simp only [hZ,allFit,aah] at hf;obtain ⟨Lh,hf2⟩:=hf;unfold FF at Lh;simp only [aah] at Lh;obtain ⟨⟨h1,h2⟩,h3⟩:=Lh;have hle:sz≤cs.length:=by rw [aa4] at hl; omega
  have mu:(Zv ag (cs.take sz)).cells=cs.take sz:=by
   cases ag with
   |true=>rfl
   |false=>
    have Fu:sz=1:=by simpa using e7
    subst Fu
    match cs,hle with
    |a :: cs,_=>
     show AV.cells a=[a];have ho:a.one=true:=by simpa [Zv,eH] using h2
     cases a <;> first | rfl | simp [AV.one] at ho
  obtain ⟨vs,k1,k2,k3,k4⟩:=hc.get;have hA:dV R w b o (cs.take sz):=dV.make (k1.take sz) (fun v hv=>k2 v (aaf hv)) (fun j v hv=>k3 j v (by
   rw [aa6] at hv;split at hv
   ·exact hv
   ·cases hv)) (fun j hj=>k4 j (by rw [aa2] at hj; omega))
  exact .cons (by rw [mu,aa2,Nat.min_eq_left hle]) h1 h3 (by rw [mu]; exact hA) (HR e7 n (hc.drop sz) (by rw [abI]; rw [aa4] at hl; omega) hf2)
theorem rD (ag:Bool) (sz:Nat):∀ (n:Nat) (cs:List AV),(hZ ag sz n cs).length=n
 |0,_=>rfl
 |n+1,cs=>by simp [hZ,rD ag sz n]
theorem FU (h:bt E R w β s a) (t:TypeId) (x:Operand) (lo hi:Option Operand) (ho:o.op=.slice t x lo hi none) {l h':Option SV} (hl:nO E s.ae lo=some l) (hh:nO E s.ae hi=some h') {v:AV} (hv:B2 E t (bP E s.ae x) l h' none=some (true,v)) :
  cu E R w β s a o (s.put o.dst (.v v)):=by
 have rx:=aW h x;have rl:=Dv h hl;have rh:=Dv h hh;unfold B2 at hv;split at hv
 ·rename_i i um hmx;obtain ⟨ia,u,e1,e2,e3,e4,e5,e6⟩:=cD E um;split at hv
  ·-- a string
   rename_i bs hk hx;rw [hx] at rx;have dN:Rel R w (.str bs) (a.eval x):=rx;generalize fu:a.eval x=xv at dN;cases dN;rw [hk] at e5;have:=kD e5;subst this;split at hv
   ·rename_i c p q hb;injection hv with hv;injection hv with h1 h2;subst h1; subst h2;obtain ⟨k1,k2,k3⟩:=ef (E:=E) false (aae _) rl rh hb;refine ao h (c:=.string ⟨⟨bC p q bs⟩⟩) ?_ (Rel.str _);rw [← Al];simp only [execOp,ho,aaZ,aad,run_underlying e2,aab,aa3,fu,aag,Option.isSome_none,Bool.false_eq_true,if_false,size_bytes,k1,aa1]
   ·cases hv
  ·-- a list
   rename_i elem esz ag pt z k sz es hk hx;rw [hx] at rx;rw [hk] at e5;obtain ⟨ie,ue,rfl,f1,f2,f3,f4,f5,f6⟩:=eu e5;split at hv
   ·rename_i e7;split at hv
    ·rename_i c p q hb;injection hv with hv;injection hv with h1 h2;subst h1; subst h2;have dN:Rel R w (.list k sz es) (a.eval x):=rx;generalize fu:a.eval x=xv at dN;cases dN with
     |kC=>
      obtain ⟨k1,k2,k3⟩:=ef (E:=E) true (aae _) rl rh hb;simp only [aap,abx] at k3;subst k3;have:p=0:=by omega
      subst this;refine ao h (c:=.slice none 0 0) ?_ ?_
      ·simp only [execOp,ho,aaZ,aad,run_underlying e2,aab,aa3,fu,aag];simp only [aap] at k1;simp [k1,run_sizeOf w f1]
      ·exact Rel.kC
     |jc=>
      obtain ⟨k1,k2,k3⟩:=ef (E:=E) true (aae _) rl rh hb;simp only [aap,abx] at k3;subst k3;have:p=0:=by omega
      subst this;refine ao h (c:=.slice none 0 0) ?_ ?_
      ·simp only [execOp,ho,aaZ,aad,run_underlying e2,aab,aa3,fu,aag];simp only [aap] at k1;simp [k1,run_sizeOf w f1]
      ·exact Rel.jc
     | @nQ _ ad=>
      obtain ⟨k1,k2,k3⟩:=ef (E:=E) true (aae _) rl rh hb;simp only [aap,abx] at k3;subst k3;have:p=0:=by omega
      subst this;refine ao h (c:=.slice (some ad) 0 0) ?_ ?_
      ·simp only [execOp,ho,aaZ,aad,run_underlying e2,aab,aa3,fu,aag];simp only [aap] at k1;simp [k1,run_sizeOf w f1]
      ·exact Rel.nQ
     |mN h0 YU=>
      obtain ⟨k1,k2,k3⟩:=ef (E:=E) true (aae _) rl rh hb;simp only [aap,abx] at k3;subst k3;have:p=0:=by omega
      subst this;refine ao h (c:=.slice none 0 0) ?_ ?_
      ·simp only [execOp,ho,aaZ,aad,run_underlying e2,aab,aa3,fu,aag];simp only [aap] at k1;simp [k1,run_sizeOf w f1]
      ·exact Rel.jc
     |nR h0 YU=>
      obtain ⟨k1,k2,k3⟩:=ef (E:=E) true (aae _) rl rh hb;simp only [aap,abx] at k3;subst k3;have:p=0:=by omega
      subst this;refine ao h (c:=.slice none 0 0) ?_ ?_
      ·simp only [execOp,ho,aaZ,aad,run_underlying e2,aab,aa3,fu,aag];simp only [aap] at k1;simp [k1,run_sizeOf w f1]
      ·exact Rel.jc
     | @list _ _ _ b o' len cap hr hlen ib Lb=>
      subst hlen;obtain ⟨k1,k2,k3⟩:=ef (E:=E) true ib rl rh hb;have ZL:es≠[]→sz=esz:=fun cS=>by
       simp only [Bool.or_eq_true] at e7;rcases e7 with hc|hc
       ·exact aac hc
       ·simp at hc; exact absurd hc cS
      have bM:(execOp a.eval o).run E.P w=.ok (.value (.slice (if cap=p then some ⟨b,o',none⟩ else some ⟨b,o'+p * esz,none⟩) (q - p) (cap - p))) w:=by
       simp only [execOp,ho,aaZ,aad,run_underlying e2,aab,aa3,fu,aag,k1,run_sizeOf w f1,f2,aa1,ab2,cM]
      have wS:∀ b2 o2,B3 R (match k with | .nil=>LK.nil | .full=>(match h' with | none=>LK.full | some _=>LK.ly) | _=>LK.ly) b2 o2 (q - p) (cap - p):=by
       intro b2 o2;cases k with
       |nil=>exact Lb.elim
       |ly=>trivial
       |own id=>trivial
       |bK id j=>trivial
       |full=>
        have hc:cap=es.length:=Lb;cases h' with
        |some _=>trivial
        |none=>
         have hq:q=es.length:=by
          unfold FE at hb;simp only at hb;split at hb
          ·cases hb
          ·injection hb with hb;injection hb with _ hb;injection hb with _ hb;exact hb.symm
         show cap - p=q - p;omega
      by_cases YV:cap=p
      ·refine ao h (c:=.slice (some ⟨b,o',none⟩) (q - p) (cap - p)) (by rw [bM,if_pos YV]) ?_;have he:bC p q es=[]:=List.eq_nil_of_length_eq_zero (by rw [lO k3]; omega);exact Rel.list (by rw [he]; exact .nil) (by rw [lO k3]) (by omega) (wS _ _)
      ·refine ao h (c:=.slice (some ⟨b,o'+p * esz,none⟩) (q - p) (cap - p)) (by rw [bM,if_neg YV]) ?_;refine Rel.list ?_ (by rw [lO k3]) (by omega) (wS _ _);by_cases cS:es=[]
       ·subst cS;simp [bC];exact .nil
       ·have:=ZL cS;subst this;exact A6 p (uq q hr)
    ·cases hv
   ·cases hv
  ·-- a heap slice
   rename_i elem esz ag pt z id off sz len cap hk hx;rw [hx] at rx;rw [hk] at e5;obtain ⟨ie,ue,rfl,f1,f2,f3,f4,f5,f6⟩:=eu e5;split at hv
   ·rename_i e7;have e7:=aac e7;subst e7;split at hv
    ·rename_i c p q hb;injection hv with hv;injection hv with h1 h2;subst h1; subst h2;have dN:Rel R w (.j7 id off sz len cap) (a.eval x):=rx;generalize fu:a.eval x=xv at dN;cases dN with
     | @j7 _ _ _ _ _ b hbk ib=>
      obtain ⟨k1,k2,k3⟩:=ef (E:=E) true ib rl rh hb;refine ao h (c:=.slice (some ⟨b,bif Nat.beq cap p then off else off+p * sz,none⟩) (q - p) (cap - p)) ?_ (Rel.j7 hbk (by omega));have hb:(bif Nat.beq cap p then off else off+p * sz)=if cap=p then off else off+p * sz:=by
       by_cases e:cap=p
       ·rw [if_pos e,e,show Nat.beq p p=true from Nat.beq_refl p]; rfl
       ·rw [if_neg e];cases hq:Nat.beq cap p with
        |true=>exact absurd (aac hq) e
        |false=>rfl
      rw [hb];simp only [execOp,ho,aaZ,aad,run_underlying e2,aab,aa3,fu,aag,k1,run_sizeOf w f1,f2,aa1,ab2,cM];split <;> rfl
    ·cases hv
   ·cases hv
  ·-- a slice that grows
   rename_i elem esz ag pt z id f' off sz len hk hx;rw [hx] at rx;rw [hk] at e5;obtain ⟨ie,ue,rfl,f1,f2,f3,f4,f5,f6⟩:=eu e5;split at hv
   ·rename_i e7;have e7:=aac e7;subst e7;split at hv
    ·rename_i c p q hb;injection hv with hv;injection hv with h1 h2;subst h1; subst h2;have dN:Rel R w (.eF id f' off sz len) (a.eval x):=rx;generalize fu:a.eval x=xv at dN;cases dN with
     |iY h0 YU=>
      obtain ⟨k1,k2,k3⟩:=ef (E:=E) true (aae _) rl rh hb;simp only [abx] at k3;subst k3;have:p=0:=by omega
      subst this;refine ao h (c:=.slice none 0 0) ?_ ?_
      ·simp only [execOp,ho,aaZ,aad,run_underlying e2,aab,aa3,fu,aag];simp [k1,run_sizeOf w f1]
      ·exact Rel.iY h0 YU
     | @eF _ _ _ _ _ cap b o' ro b9 eN ib=>
      obtain ⟨k1,k2,k3⟩:=ef (E:=E) true ib rl rh hb;have bM:(execOp a.eval o).run E.P w=.ok (.value (.slice (if cap=p then some ⟨b,o',none⟩ else some ⟨b,o'+p * sz,none⟩) (q - p) (cap - p))) w:=by
       simp only [execOp,ho,aaZ,aad,run_underlying e2,aab,aa3,fu,aag,k1,run_sizeOf w f1,f2,aa1,ab2,cM]
      have Vu:∀ o2,(o2=o'+p * sz∨cap=p)→Jd b o2 f' (off+p) sz (cap - p) ro:=fun o2 h2=>by
       cases ro with
       |none=>trivial
       |bU=>exact eN.elim
       |ck _=>exact eN.elim
       |bK _=>exact eN.elim
       |tok f1 b1 c1=>
        refine ⟨eN.1,fun e=>?_⟩;obtain ⟨q1,q2,q3⟩:=eN.2 e;refine ⟨q1,by omega,?_⟩;rcases h2 with h2|h2
        ·rcases q3 with q3|q3
         ·exact .inl (by rw [h2,q3,acz])
         ·exact .inr (by omega)
        ·exact .inr (by omega)
      by_cases YV:cap=p
      ·exact ao h (c:=.slice (some ⟨b,o',none⟩) (q - p) (cap - p)) (by rw [bM,if_pos YV]) (Rel.eF b9 (Vu _ (.inr YV)) (by omega))
      ·exact ao h (c:=.slice (some ⟨b,o'+p * sz,none⟩) (q - p) (cap - p)) (by rw [bM,if_neg YV]) (Rel.eF b9 (Vu _ (.inl rfl)) (by omega))
    ·cases hv
   ·cases hv
  ·-- an array that never changes again
   rename_i len esz ag cs hk hx;rw [hx] at rx;rw [hk] at e5;obtain ⟨e,ie,ue,rfl,f1,f2,f3,f4⟩:=pq e5;split at hv
   ·split at hv
    ·rename_i cT;simp only [aah] at cT;obtain ⟨⟨⟨c1,c2⟩,c3⟩,c4⟩:=cT;injection hv with hv;injection hv with _ h2;subst h2;have dN:Rel R w (.ep cs) (a.eval x):=rx;generalize fu:a.eval x=xv at dN;cases dN with
     | @ep _ b o' hr=>
     obtain ⟨k1,_,_⟩:=ef (E:=E) (w:=w) (R:=R) (β:=β) (l:=0) (h:=len) false (aae len) rl rh rfl;refine ao h (c:=.slice (some ⟨b,o',none⟩) len len) ?_ (Rel.list (HR c3 len hr (acS c1) c4) (rD _ _ _ _).symm (aae _) rfl);simp only [execOp,ho,aaZ,aad,run_underlying e2,aab,fu,abS,aag,k1,run_sizeOf w f1,f2,aa1];by_cases uv:len=0
     ·subst uv;simp
     ·simp [uv,cM]
    ·cases hv
   ·cases hv
  ·cases hv
 ·cases hv
theorem Cc (h:bt E R w β s a) (t:TypeId) (ho:o.op=.makeMap t none):cu E R w β s a o ((s.dU (.map [])).put o.dst (.v (.map s.G.length))):=by
 have iH:gI (R.add (.ck w.heap.size)) (w.alloc (.map #[] 0)) (.map []) (.ck w.heap.size):=⟨#[],0,heap_alloc_new w _,trivial,rfl,fun i e he=>by simp at he⟩;refine ⟨_,.map (some w.heap.size),w.alloc (.map #[] 0),R.add (.ck w.heap.size),β,?_,.inl rfl,(h.mr (.map #[] 0) (.map []) (.ck w.heap.size) (by exact fun _ h=>h) iH).put o.dst (x:=.v (.map s.G.length)) (Rel.map (gl h _)),by rw [bc]; exact c9 h _ _ (by exact fun _ h=>h)⟩;simp only [execOp,ho,Instr.makeMap,aag,aad,run_newObj,aab,aa1];rfl
theorem rE (h:bt E R w β s a) (t:TypeId) (x y:Operand) (ho:o.op=.makeSlice t x y) {i:TI} (hi:E.ti t=some i) {k k':IntKind} {n m:Int} (hx:bP E s.ae x=.v (.int k n)) (hy:bP E s.ae y=.v (.int k' m))
  {elem esz pt:Nat} {ag:Bool} {z:AV} (hk:i.k=.sl elem esz ag pt (some z)) (hz:z.cells.length=esz) (Dd:1≤esz) (sI:z.a8=true) (hc:0≤n∧n≤m∧m≤140737488355328∧m * pt≤140737488355328) :
  ∃ us,aN R w (aq (aao m.toNat z)) us∧(∀ v∈us,v.oneCell'=true)∧(execOp a.eval o).run E.P w=.ok (.value (.slice (some ⟨w.heap.size,0,none⟩) n.toNat m.toNat)) (w.alloc (.cells ⟨us⟩ elem)):=by
 have rx:=aW h x;have ry:=aW h y;rw [hx] at rx;rw [hy] at ry;have dN:Rel R w (.int k n) (a.eval x):=rx;have rC:Rel R w (.int k' m) (a.eval y):=ry;generalize fu:a.eval x=xv at dN;generalize ZF:a.eval y=yv at rC;cases dN;cases rC;obtain ⟨c1,c2,c3,c4⟩:=hc;obtain ⟨ia,u,e1,e2,e3,e4,e5,e6⟩:=cD E hi;rw [hk] at e5;obtain ⟨ie,ue,rfl,f1,f2,f3,f4,f5,f6⟩:=eu e5;obtain ⟨zc,tX,Fw⟩:=dp f6;have Ul:=Fw R w;obtain ⟨d1,d2⟩:=Rel.cells Ul sI;have qF:zc.cells.size=esz:=by rw [← hz,d1.length]; simp
 obtain ⟨z1,z2⟩:=mT Ul sI m.toNat;have xQ:((Array.range (m.toNat * esz)).map fun i=>zc.cells[i % zc.cells.size]!)=⟨(aao m.toNat zc.cells.toList).flatten⟩:=by
  apply Array.ext';rw [← qF];exact px zc.cells m.toNat
 have wn:IntKind.i64.wrap n=n:=IntWalk.i64_in n (by omega);have wm:IntKind.i64.wrap m=m:=IntWalk.i64_in m (by omega);have bM:(ace t (.int k n) (.int k' m)).run E.P w=.ok (.slice (some ⟨w.heap.size,0,none⟩) n.toNat m.toNat) (w.alloc (.cells ⟨(aao m.toNat zc.cells.toList).flatten⟩ elem)):=by
  have hby:(ie.bytes:Int) * m≤281474976710656:=by rw [f3,Int.mul_comm]; omega
  have ZM:¬ 281474976710656 < (ie.bytes:Int) * m:=by omega
  have h1:¬ m < 0:=by omega
  have h2:¬ n < 0:=by omega
  have h3:¬ m < n:=by omega
  have Vv:(typeInfo elem).run E.P w=.ok ie w:=by simp [typeInfo,f1]
  by_cases h0:m.toNat * esz=0
  ·have hm0:m.toNat=0:=by
    rcases Nat.mul_eq_zero.1 h0 with h0|h0 <;> omega
   have Du:∀ f:Nat→Value,Array.map f (Array.range 0)=#[]:=fun f=>by simp
   simp [ace,run_underlying e2,asInt,asIntOf,Vv,wn,wm,h1,h2,h3,ZM,run_sizeOf w f1,f2,hm0,newRow];rw [Du]
  ·simp [ace,run_underlying e2,asInt,asIntOf,Vv,wn,wm,h1,h2,h3,ZM,run_sizeOf w f1,f2,h0,gK w f1 tX,newRow];rw [← xQ]
 refine ⟨_,z1,z2,?_⟩;simp only [execOp,ho,fu,ZF,aad,bM,aab,aa1]
theorem xR (h:bt E R w β s a) (t:TypeId) (x y:Operand) (ho:o.op=.makeSlice t x y) {i:TI} (hi:E.ti t=some i) {k k':IntKind} {n m:Int} (hx:bP E s.ae x=.v (.int k n)) (hy:bP E s.ae y=.v (.int k' m))
  {elem esz pt:Nat} {ag:Bool} {z:AV} (hk:i.k=.sl elem esz ag pt (some z)) (hz:z.cells.length=esz) (Dd:1≤esz) (sI:z.a8=true) (hc:0≤n∧n≤m∧m≤140737488355328∧m * pt≤140737488355328) :
  cu E R w β s a o ((s.dU (.row (aq (aao m.toNat z)) elem)).put o.dst (.v (.j7 s.G.length 0 esz n.toNat m.toNat))):=by
 obtain ⟨us,z1,z2,bM⟩:=rE h t x y ho hi hx hy hk hz Dd sI hc;have e:=gU (R:=R) (w:=w) h.g.wf (.cells ⟨us⟩ elem) (.ck w.heap.size);have iH:gI (R.add (.ck w.heap.size)) (w.alloc (.cells ⟨us⟩ elem)) (.row (aq (aao m.toNat z)) elem) (.ck w.heap.size):=
  ⟨_,heap_alloc_new w _,z1.mono e,z2,fun o' hi=>by have:=h.g.wf _ _ hi; omega⟩
 exact ⟨_,.slice (some ⟨w.heap.size,0,none⟩) n.toNat m.toNat,_,R.add (.ck w.heap.size),β,bM,.inl rfl,(h.mr _ _ (.ck w.heap.size) (by exact fun _ h=>h) iH).put o.dst (x:=.v (.j7 s.G.length 0 esz n.toNat m.toNat)) (Rel.j7 (gl h _) (by omega)),by rw [bc]; exact c9 h _ _ (by exact fun _ h=>h)⟩
end ops
end Go.Am
namespace Go.Am
open Go
section ops
variable {E:Env} {R:ak} {w:World} {β:Nat→Nat} {s:St} {a:Act} {o:Oper}
theorem kE (x:Array Operand) (f:Operand→Value):x.map f=⟨x.toList.map f⟩:=Array.ext' (by simp)
theorem fe {b:Builtin} {args:Array Operand} {tys:Array TypeId} (ho:o.op=.call { callee:=.builtin b,args:=args,argTypes:=tys }) (vs:List Value) (hv:args.toList.map a.eval=vs) :
  (execOp a.eval o).run E.P w=(builtin b tys o.type (args.map fun | .const _=>true | _=>false) ⟨vs⟩).run E.P w:=by
 simp only [execOp,ho,resolve,aad,aa1,aab,invoke,kE args a.eval,hv];rfl
theorem dB.length:∀ {l:List (AV × AV)} {es:List MapEntry},dB R w l es→l.length=es.length
 |[],[],_=>rfl
 |_ :: _,_ :: _,h=>by simp [dB.length h.2.2]
 |[],_ :: _,h=>h.elim
 |_ :: _,[],h=>h.elim
theorem Li (h:bt E R w β s a) {args:Array Operand} {tys:List TypeId} (ho:o.op=.call { callee:=.builtin .len,args:=args,argTypes:=⟨tys⟩ }) {l:List AV} (hl:nL E s.ae args.toList=some l) {s':St} (hs:bW E s o.dst .len l tys=some (true,s')) :
  cu E R w β s a o s':=by
 have hr:=gV h hl;generalize hv:args.toList.map a.eval=vs at hr;have hx:=fe (E:=E) (w:=w) ho vs hv;unfold bW at hs;split at hs <;> first | (rename_i h1; cases h1; done) | skip
 ·rename_i x;cases hr with
  |cons h0 h1=>
  cases h1;split at hs
  ·rename_i t tl;split at hs
   ·rename_i i hi;obtain ⟨ia,u,e1,e2,e3,e4,e5,e6⟩:=cD E hi;split at hs
    ·rename_i bs hk;cases hs;cases h0;rw [hk] at e5;have:=kD e5;subst this;refine ao h (c:=.int .i64 bs.length) ?_ (Rel.int _ _);rw [hx];simp [builtin,aaF,run_underlying e2,goInt,size_bytes]
    ·rename_i kk sz es hk;cases hs;rw [hk] at e5;obtain ⟨ie,ue,rfl,_⟩:=eu e5;refine ao h (c:=.int .i64 es.length) ?_ (Rel.int _ _);rw [hx];cases h0 with
     |kC=>simp [builtin,aaF,run_underlying e2,goInt]
     |jc=>simp [builtin,aaF,run_underlying e2,goInt]
     |nQ=>simp [builtin,aaF,run_underlying e2,goInt]
     |mN=>simp [builtin,aaF,run_underlying e2,goInt]
     |nR=>simp [builtin,aaF,run_underlying e2,goInt]
     |list _ hlen _ _=>subst hlen; simp [builtin,aaF,run_underlying e2,goInt]
    ·rename_i id off sz len cap hk;cases hs;rw [hk] at e5;obtain ⟨ie,ue,rfl,_⟩:=eu e5;refine ao h (c:=.int .i64 len) ?_ (Rel.int _ _);rw [hx];cases h0;simp [builtin,aaF,run_underlying e2,goInt]
    ·rename_i id f' off sz len hk;cases hs;rw [hk] at e5;obtain ⟨ie,ue,rfl,_⟩:=eu e5;refine ao h (c:=.int .i64 len) ?_ (Rel.int _ _);rw [hx];cases h0 <;> simp [builtin,aaF,run_underlying e2,goInt]
    ·rename_i n esz ag hk;cases hs;rw [hk] at e5;obtain ⟨e,ie,ue,rfl,_⟩:=pq e5;refine ao h (c:=.int .i64 n) ?_ (Rel.int _ _);rw [hx];simp [builtin,aaF,run_underlying e2,goInt]
    ·rename_i hk;cases hs;rw [hk] at e5;obtain ⟨rfl,_⟩:=mQ e5;refine ao h (c:=.int .i64 0) ?_ (Rel.int _ _);rw [hx];cases h0;simp [builtin,aaF,run_underlying e2,goInt]
    ·rename_i id hk;split at hs
     ·rename_i es hg;cases hs;rw [hk] at e5;obtain ⟨rfl,_⟩:=mQ e5;cases h0 with
      | @map _ b hb=>
      obtain ⟨ax,clock,g1,g2,g3⟩:=h.g.obj id _ _ hg hb;refine ao h (c:=.int .i64 es.length) ?_ (Rel.int _ _);rw [hx];have iH:(getObj b).run E.P w=.ok (.map ax clock) w:=by simp [getObj,Sem.run,g1]
      simp [builtin,aaF,run_underlying e2,goInt,iH,g2.length]
     ·cases hs
    ·cases hs
   ·cases hs
  ·cases hs
 ·cases hs
theorem HS {b:Bool}:∀ {l:List AV} {x v:AV} {c:Value} {cs:List Value},Rel R w x c→aN R w l cs→Jb x l=some v→∃ c',(cs.foldlM Builtin.max2 c).run E.P w=.ok c' w∧Rel R w v c'
 |[],x,v,c,cs,hr,hl,hv=>by
  cases hl;simp only [Jb] at hv;cases hv;exact ⟨c,rfl,hr⟩
 |y :: l,x,v,c,cs,hr,hl,hv=>by
  cases hl with
  |cons hy hl=>
  unfold Jb at hv;split at hv
  ·rename_i lN; cases lN
  ·rename_i k n k' m l' lN;cases lN;split at hv
   ·rename_i hk;subst hk;cases hr;cases hy;obtain ⟨c',h1,h2⟩:=HS (b:=b) (Rel.int k (if m > n then m else n)) hl hv;refine ⟨c',?_,h2⟩;simp only [abV,aad,Builtin.max2,aa1,aab];exact h1
   ·cases hv
  ·cases hv
theorem Cd {b:Bool}:∀ {l:List AV} {x v:AV} {c:Value} {cs:List Value},Rel R w x c→aN R w l cs→FG x l=some v→∃ c',(cs.foldlM abW c).run E.P w=.ok c' w∧Rel R w v c'
 |[],x,v,c,cs,hr,hl,hv=>by
  cases hl;simp only [FG] at hv;cases hv;exact ⟨c,rfl,hr⟩
 |y :: l,x,v,c,cs,hr,hl,hv=>by
  cases hl with
  |cons hy hl=>
  unfold FG at hv;split at hv
  ·rename_i lN; cases lN
  ·rename_i k n k' m l' lN;cases lN;split at hv
   ·rename_i hk;subst hk;cases hr;cases hy;obtain ⟨c',h1,h2⟩:=Cd (b:=b) (Rel.int k (if m < n then m else n)) hl hv;refine ⟨c',?_,h2⟩;simp only [abV,aad,abW,aa1,aab];exact h1
   ·cases hv
  ·rename_i n m l' lN;cases lN;cases hr;cases hy;obtain ⟨c',h1,h2⟩:=Cd (b:=b) (Rel.str (bif acW n m || n == m then n else m)) hl hv;refine ⟨c',?_,h2⟩;have e:(abW (.string ⟨⟨n⟩⟩) (.string ⟨⟨m⟩⟩)).run E.P w=.ok (.string ⟨⟨bif acW n m || n == m then n else m⟩⟩) w:=by
    simp only [abW,Op.stringOp,aad,aa1,aab];show Result.andThen ((asBool _).run E.P w) _=_;cases hb:(acW n m || n == m) <;> simp_all [asBool]
   simp only [abV,aad,e,aab];exact h1
  ·cases hv
theorem Lj (h:bt E R w β s a) {args:Array Operand} {tys:Array TypeId} (ho:o.op=.call { callee:=.builtin .max,args:=args,argTypes:=tys }) {x v:AV} {l:List AV} (hl:nL E s.ae args.toList=some (x :: l)) (hm:Jb x l=some v) :
  cu E R w β s a o (s.put o.dst (.v v)):=by
 have hr:=gV h hl;generalize hv:args.toList.map a.eval=vs at hr;have hx:=fe (E:=E) (w:=w) ho vs hv;cases hr with
 |cons h0 h1=>
 obtain ⟨c',k1,k2⟩:=HS (E:=E) (b:=true) h0 h1 hm;refine ao h (c:=c') ?_ k2;rw [hx];simp [builtin,Builtin.max_,k1]
theorem Lk (h:bt E R w β s a) {args:Array Operand} {tys:Array TypeId} (ho:o.op=.call { callee:=.builtin .min,args:=args,argTypes:=tys }) {x v:AV} {l:List AV} (hl:nL E s.ae args.toList=some (x :: l)) (hm:FG x l=some v) :
  cu E R w β s a o (s.put o.dst (.v v)):=by
 have hr:=gV h hl;generalize hv:args.toList.map a.eval=vs at hr;have hx:=fe (E:=E) (w:=w) ho vs hv;cases hr with
 |cons h0 h1=>
 obtain ⟨c',k1,k2⟩:=Cd (E:=E) (b:=true) h0 h1 hm;refine ao h (c:=c') ?_ k2;rw [hx];simp [builtin,Builtin.min_,k1]
end ops
end Go.Am
namespace Go.Am
open Go
section ops
variable {E:Env} {R:ak} {w:World} {β:Nat→Nat} {s:St} {a:Act} {o:Oper}
def ak.upto (R:ak) (g n:Nat) (obj:List RO):ak:=⟨fun b o=>R.I b o∨(b=g∧o < n),obj⟩
theorem aH {l:List RO} {id i:Nat} {x r y:RO} (aje:nth l id=some y) (h:nth (aI l id x) i=some r):(i=id∧r=x)∨(i≠id∧nth l i=some r):=by
 rcases du h with ⟨rfl,rfl,_⟩|⟨cS,h⟩
 ·exact .inl ⟨rfl,rfl⟩
 ·exact .inr ⟨abT cS,h⟩
theorem FV (wf:∀ b o,R.I b o→b < w.heap.size) (x:Obj) (n:Nat) (ro:RO):Ext R w (R.upto w.heap.size n (R.obj++[ro])) (w.drew.alloc x):=
 ⟨fun _ _ h=>.inl h,fun b o h=>cn (heap_alloc_old w.drew x b (wf b o h)) o,fun _ r h=>⟨r,dv h,cJ.refl r⟩,.old fun b hb=>heap_alloc_old w.drew x b hb⟩
theorem FW (wf:∀ b o,R.I b o→b < w.heap.size) (x:Obj) {n id m:Nat} {r0:RO} (hid:nth R.obj id=some r0) (b' c':Nat) (cm:cJ r0 (.tok m b' c')):Ext R w (R.upto w.heap.size n (aI R.obj id (.tok m b' c'))) (w.drew.alloc x):=
 ⟨fun _ _ h=>.inl h,fun b o h=>cn (heap_alloc_old w.drew x b (wf b o h)) o,fun i r h=>by
  by_cases e:id=i
  ·subst e;rw [hid] at h;cases h;exact ⟨_,aQ hid,cm⟩
  ·exact ⟨r,by rw [ak.upto,cq e]; exact h,cJ.refl r⟩,.old fun b hb=>heap_alloc_old w.drew x b hb⟩
theorem bt.Vw (h:bt E R w β s a) {cur:Array Value} {elem:TypeId} {n sz cap:Nat} (hn:n≤cap) (hm:cap≤maxLen) (hs:cur.size=cap * sz) :
  bt E (R.upto w.heap.size (n * sz) (R.obj++[.tok n w.heap.size cap])) (w.drew.alloc (.cells cur elem)) β (s.dU (.tok n sz elem)) a ∧
  Step R w β s.boxes (R.upto w.heap.size (n * sz) (R.obj++[.tok n w.heap.size cap])) (w.drew.alloc (.cells cur elem)) β s.boxes:=by
 have e:=FV (R:=R) (w:=w) h.g.wf (.cells cur elem) (n * sz) (.tok n w.heap.size cap);have old:∀ b,b < w.heap.size→(w.drew.alloc (.cells cur elem)).heap[b]?=w.heap[b]?:=fun b hb=>heap_alloc_old w.drew _ b hb
 have new:(w.drew.alloc (.cells cur elem)).heap[w.heap.size]?=some (.cells cur elem (0,0)):=heap_alloc_new w.drew _;have hI:∀ b o,b < w.heap.size→(R.upto w.heap.size (n * sz) (R.obj++[.tok n w.heap.size cap])).I b o→R.I b o:=fun b o hb hi=>by
  rcases hi with hi|⟨hi,_⟩
  ·exact hi
  ·omega
 refine ⟨⟨⟨by simp [St.dU,ak.upto,h.g.len],fun id g r h1 h2=>?_,fun i j ri rj b h1 h2 b1 b2=>?_,fun b o hi=>?_,fun g cs hg=>(h.g.cr g cs hg).mono e,by first | exact h.g.lo | exact aa8 h.g.lo⟩,?_,h.t.mono e,h.n,h.d.mono e⟩,?_⟩
 ·rcases ar h2 with h2|⟨h3,rfl⟩
  ·have cm:=ca h2;rw [h.g.len] at cm;rcases ar h1 with h1|⟨h4,_⟩
   ·exact (h.g.obj id g r h1 h2).mono e (fun b hb=>old b (h.g.cj ⟨id,r,h2,hb⟩)) (fun b o hb=>hI b o (h.g.cj ⟨id,r,h2,hb⟩))
   ·omega
  ·rcases ar h1 with h1|⟨h4,rfl⟩
   ·have:=ca h1;rw [h3,h.g.len] at this;omega
   ·refine ⟨rfl,cur,new,hn,hm,hs,fun o' pd hi=>?_⟩;rcases hi with hi|⟨_,hi⟩
    ·have:=h.g.wf _ _ hi;omega
    ·omega
 ·rcases ar h1 with g1|⟨h3,e1⟩
  ·rcases ar h2 with g2|⟨h4,e2⟩
   ·exact h.g.inj i j ri rj b g1 g2 b1 b2
   ·have:=h.g.cj ⟨i,ri,g1,b1⟩;rw [e2] at b2;simp [RO.has] at b2;omega
  ·rcases ar h2 with g2|⟨h4,e2⟩
   ·have:=h.g.cj ⟨j,rj,g2,b2⟩;rw [e1] at b1;simp [RO.has] at b1;omega
   ·omega
 ·rcases hi with hi|⟨rfl,_⟩
  ·have:=h.g.wf b o hi;simp;omega
  ·simp
 ·refine h.b.aY e (fun k cs hk=>old _ (h.eC (.inr ⟨k,cs,hk,rfl⟩))) (fun k cs o hk=>hI _ o (h.eC (.inr ⟨k,cs,hk,rfl⟩))) (fun k cs hk hl=>?_);rcases mP (R:=R) (ro:=.tok n w.heap.size cap) hl with hl|hl
  ·exact hl
  ·have:=h.eC (.inr ⟨k,cs,hk,rfl⟩);simp [RO.has] at hl;omega
 ·refine ⟨e,rfl,rfl,rfl,by simp,fun b hb _=>old b hb,fun b hb ho=>?_,fun b o hi hb _=>hI b o hb hi⟩;rcases ho with ho|ho
  ·rcases mP (R:=R) (ro:=.tok n w.heap.size cap) ho with ho|ho
   ·exact .inl ho
   ·simp [RO.has] at ho;omega
  ·exact .inr ho
theorem Dw (wf:∀ b o,R.I b o→b < w.heap.size) (x:Obj) (n:Nat) (ro:RO):Ext R w (R.upto w.heap.size n (R.obj++[ro])) (w.alloc x):=
 ⟨fun _ _ h=>.inl h,fun b o h=>cn (heap_alloc_old w x b (wf b o h)) o,fun _ r h=>⟨r,dv h,cJ.refl r⟩,.old fun b hb=>heap_alloc_old w x b hb⟩
theorem bt.PC (h:bt E R w β s a) {cur:Array Value} {elem:TypeId} {n sz cap:Nat} (hn:n≤cap) (hm:cap≤maxLen) (hs:cur.size=cap * sz) :
  bt E (R.upto w.heap.size (n * sz) (R.obj++[.tok n w.heap.size cap])) (w.alloc (.cells cur elem)) β (s.dU (.tok n sz elem)) a ∧
  Step R w β s.boxes (R.upto w.heap.size (n * sz) (R.obj++[.tok n w.heap.size cap])) (w.alloc (.cells cur elem)) β s.boxes:=by
 have e:=Dw (R:=R) (w:=w) h.g.wf (.cells cur elem) (n * sz) (.tok n w.heap.size cap);have old:∀ b,b < w.heap.size→(w.alloc (.cells cur elem)).heap[b]?=w.heap[b]?:=fun b hb=>heap_alloc_old w _ b hb
 have new:(w.alloc (.cells cur elem)).heap[w.heap.size]?=some (.cells cur elem (0,0)):=heap_alloc_new w _;have hI:∀ b o,b < w.heap.size→(R.upto w.heap.size (n * sz) (R.obj++[.tok n w.heap.size cap])).I b o→R.I b o:=fun b o hb hi=>by
  rcases hi with hi|⟨hi,_⟩
  ·exact hi
  ·omega
 refine ⟨⟨⟨by simp [St.dU,ak.upto,h.g.len],fun id g r h1 h2=>?_,fun i j ri rj b h1 h2 b1 b2=>?_,fun b o hi=>?_,fun g cs hg=>(h.g.cr g cs hg).mono e,by first | exact h.g.lo | exact aa8 h.g.lo⟩,?_,h.t.mono e,h.n,h.d.mono e⟩,?_⟩
 ·rcases ar h2 with h2|⟨h3,rfl⟩
  ·have cm:=ca h2;rw [h.g.len] at cm;rcases ar h1 with h1|⟨h4,_⟩
   ·exact (h.g.obj id g r h1 h2).mono e (fun b hb=>old b (h.g.cj ⟨id,r,h2,hb⟩)) (fun b o hb=>hI b o (h.g.cj ⟨id,r,h2,hb⟩))
   ·omega
  ·rcases ar h1 with h1|⟨h4,rfl⟩
   ·have:=ca h1;rw [h3,h.g.len] at this;omega
   ·refine ⟨rfl,cur,new,hn,hm,hs,fun o' pd hi=>?_⟩;rcases hi with hi|⟨_,hi⟩
    ·have:=h.g.wf _ _ hi;omega
    ·omega
 ·rcases ar h1 with g1|⟨h3,e1⟩
  ·rcases ar h2 with g2|⟨h4,e2⟩
   ·exact h.g.inj i j ri rj b g1 g2 b1 b2
   ·have:=h.g.cj ⟨i,ri,g1,b1⟩;rw [e2] at b2;simp [RO.has] at b2;omega
  ·rcases ar h2 with g2|⟨h4,e2⟩
   ·have:=h.g.cj ⟨j,rj,g2,b2⟩;rw [e1] at b1;simp [RO.has] at b1;omega
   ·omega
 ·rcases hi with hi|⟨rfl,_⟩
  ·have:=h.g.wf b o hi;simp;omega
  ·simp
 ·refine h.b.aY e (fun k cs hk=>old _ (h.eC (.inr ⟨k,cs,hk,rfl⟩))) (fun k cs o hk=>hI _ o (h.eC (.inr ⟨k,cs,hk,rfl⟩))) (fun k cs hk hl=>?_);rcases mP (R:=R) (ro:=.tok n w.heap.size cap) hl with hl|hl
  ·exact hl
  ·have:=h.eC (.inr ⟨k,cs,hk,rfl⟩);simp [RO.has] at hl;omega
 ·refine ⟨e,rfl,rfl,rfl,by simp,fun b hb _=>old b hb,fun b hb ho=>?_,fun b o hi hb _=>hI b o hb hi⟩;rcases ho with ho|ho
  ·rcases mP (R:=R) (ro:=.tok n w.heap.size cap) ho with ho|ho
   ·exact .inl ho
   ·simp [RO.has] at ho;omega
  ·exact .inr ho
theorem uy (h:bt E R w β s a) (t:TypeId) (len:Nat) (parts:Array (Nat × Operand)) (ho:o.op=.buildSlice t len parts) {k:LK} {esz:Nat} {es:List AV} (hv:cp E s t len parts.toList=some (.list k esz es)) {i:TI} (hi:E.ti t=some i) {elem bV pt:Nat} {ag:Bool} {z:Option AV} (hk:i.k=.sl elem bV ag pt z) (hm:len≤65536) :
  cu E R w β s a o ((s.dU (.tok len esz elem)).put o.dst (.v (.list (.own s.G.length) esz es))):=by
 obtain ⟨es',Vr,us,ZN,ZK,bM,g2,hlen,u2,u3,i',ag',by',z',um,iJ⟩:=iK h t len parts ho hv;cases ZK;rw [hi] at um;cases um;rw [hk] at iJ;cases iJ;have ZO:us.length=len * esz:=by rw [← u2.length,dO g2,hlen]
 obtain ⟨r1,r2⟩:=h.PC (cur:=⟨us⟩) (elem:=elem) (n:=len) (sz:=esz) (cap:=len) (aae _) (by simp [maxLen]; omega) (by simpa using ZO);refine ⟨_,.slice (some ⟨w.heap.size,0,none⟩) len len,_,_,β,bM,.inl rfl,r1.put o.dst (x:=.v (.list (.own s.G.length) esz es)) ?_,by rw [bc]; exact r2⟩;refine Rel.list (mS g2 (dV.make (u2.mono r2.ext) u3 (fun j x hx=>?_) (fun j hj=>.inr ⟨rfl,?_⟩))) hlen.symm (aae _) ⟨.tok len w.heap.size len,gl h _,?_⟩
 ·rw [jy (heap_alloc_new w _)];simpa using hx
 ·rw [dO g2,hlen] at hj;omega
 ·exact ⟨aae _,fun _=>⟨rfl,rfl,rfl⟩⟩
theorem bt.Ll (h:bt E R w β s a) {cur:Array Value} {elem e0:TypeId} {n sz cap id f:Nat} {r0:RO} (hg:nth s.G id=some (.tok f sz e0)) (hid:nth R.obj id=some r0) (hf:∀ b c,cJ r0 (.tok n b c)) (hn:n≤cap) (hm:cap≤maxLen) (hs:cur.size=cap * sz) :
  bt E (R.upto w.heap.size (n * sz) (aI R.obj id (.tok n w.heap.size cap))) (w.drew.alloc (.cells cur elem)) β (s.cH (aI s.G id (.tok n sz elem))) a ∧
  Step R w β s.boxes (R.upto w.heap.size (n * sz) (aI R.obj id (.tok n w.heap.size cap))) (w.drew.alloc (.cells cur elem)) β s.boxes:=by
 have e:=FW (R:=R) (w:=w) (n:=n * sz) h.g.wf (.cells cur elem) hid w.heap.size cap (hf _ _);have old:∀ b,b < w.heap.size→(w.drew.alloc (.cells cur elem)).heap[b]?=w.heap[b]?:=fun b hb=>heap_alloc_old w.drew _ b hb
 have new:(w.drew.alloc (.cells cur elem)).heap[w.heap.size]?=some (.cells cur elem (0,0)):=heap_alloc_new w.drew _;have hI:∀ b o,b < w.heap.size→(R.upto w.heap.size (n * sz) (aI R.obj id (.tok n w.heap.size cap))).I b o→R.I b o:=fun b o hb hi=>by
  rcases hi with hi|⟨hi,_⟩
  ·exact hi
  ·omega
 have live:∀ b,b < w.heap.size→Live (R.upto w.heap.size (n * sz) (aI R.obj id (.tok n w.heap.size cap))) b→Live R b:=fun b hb hl=>by
  obtain ⟨i,r,h1,h2⟩:=hl;rcases aH hid h1 with ⟨_,rfl⟩|⟨_,h1⟩
  ·simp [RO.has] at h2;omega
  ·exact ⟨i,r,h1,h2⟩
 refine ⟨⟨⟨by simp [St.cH,ak.upto,h.g.len],fun i gg r h1 h2=>?_,fun i j ri rj b h1 h2 b1 b2=>?_,fun b o hi=>?_,fun g cs hg=>(h.g.cr g cs hg).mono e,by first | exact h.g.lo | exact aa8 h.g.lo⟩,?_,h.t.mono e,h.n,h.d.mono e⟩,?_⟩
 ·rcases aH hid h2 with ⟨rfl,rfl⟩|⟨cS,h2⟩
  ·simp only [St.cH] at h1;rw [aQ hg] at h1;cases h1;refine ⟨rfl,cur,new,hn,hm,hs,fun o' pd hi=>?_⟩;rcases hi with hi|⟨_,hi⟩
   ·have:=h.g.wf _ _ hi;omega
   ·omega
  ·simp only [St.cH] at h1;rw [cq (abT cS)] at h1;exact (h.g.obj i gg r h1 h2).mono e (fun b hb=>old b (h.g.cj ⟨i,r,h2,hb⟩)) (fun b o hb=>hI b o (h.g.cj ⟨i,r,h2,hb⟩))
 ·rcases aH hid h1 with ⟨g3,e1⟩|⟨g3,g1⟩
  ·rcases aH hid h2 with ⟨g4,e2⟩|⟨g4,g2⟩
   ·omega
   ·have:=h.g.cj ⟨j,rj,g2,b2⟩;rw [e1] at b1;simp [RO.has] at b1;omega
  ·rcases aH hid h2 with ⟨g4,e2⟩|⟨g4,g2⟩
   ·have:=h.g.cj ⟨i,ri,g1,b1⟩;rw [e2] at b2;simp [RO.has] at b2;omega
   ·exact h.g.inj i j ri rj b g1 g2 b1 b2
 ·rcases hi with hi|⟨rfl,_⟩
  ·have:=h.g.wf b o hi;simp;omega
  ·simp
 ·exact h.b.aY e (fun k cs hk=>old _ (h.eC (.inr ⟨k,cs,hk,rfl⟩))) (fun k cs o hk=>hI _ o (h.eC (.inr ⟨k,cs,hk,rfl⟩))) (fun k cs hk hl=>live _ (h.eC (.inr ⟨k,cs,hk,rfl⟩)) hl)
 ·refine ⟨e,rfl,rfl,rfl,by simp,fun b hb _=>old b hb,fun b hb ho=>?_,fun b o hi hb _=>hI b o hb hi⟩;rcases ho with ho|ho
  ·exact .inl (live b hb ho)
  ·exact .inr ho
theorem bt.PD (h:bt E R w β s a) {cur:Array Value} {news:List Value} {elem:TypeId} {n sz id f g c:Nat} (hg:nth s.G id=some (.tok f sz elem)) (hid:nth R.obj id=some (.tok f g c)) (hf:f < n) (hn:n≤c)
  (iZ:w.heap[g]?=some (.cells cur elem (0,0))) (hs:cur.size=c * sz) (hm:c≤maxLen) (hl:f * sz+news.length=n * sz) :
  Ext R w (R.upto g (n * sz) (aI R.obj id (.tok n g c))) (w.setRow g (cur.toList.take (f * sz)++news++cur.toList.drop (f * sz+news.length)).toArray) ∧
  bt E (R.upto g (n * sz) (aI R.obj id (.tok n g c))) (w.setRow g (cur.toList.take (f * sz)++news++cur.toList.drop (f * sz+news.length)).toArray) β (s.cH (aI s.G id (.tok n sz elem))) a ∧
  Step R w β s.boxes (R.upto g (n * sz) (aI R.obj id (.tok n g c))) (w.setRow g (cur.toList.take (f * sz)++news++cur.toList.drop (f * sz+news.length)).toArray) β s.boxes:=by
 obtain ⟨_,Dx,Um,_,_,_,jA⟩:=h.g.obj id _ _ hg hid;rw [iZ] at Um;cases Um;have hle:n * sz≤c * sz:=aai _ hn;generalize mU:(cur.toList.take (f * sz)++news++cur.toList.drop (f * sz+news.length)).toArray=cur2;have old:∀ b,b≠g→(w.setRow g cur2).heap[b]?=w.heap[b]?:=fun b hb=>setRow_other w g b cur2 hb
 have new:(w.setRow g cur2).heap[g]?=some (.cells cur2 elem (0,0)):=setRow_heap w g cur cur2 elem (0,0) iZ;have hlen:f * sz≤cur.toList.length:=by simp; omega
 have e7:cur2.size=c * sz:=by
  rw [← mU];simp;omega
 have rW:Live R g:=⟨id,_,hid,rfl⟩;have e:Ext R w (R.upto g (n * sz) (aI R.obj id (.tok n g c))) (w.setRow g cur2):=by
  refine ⟨fun _ _ hi=>.inl hi,fun b o hi=>?_,fun i r hr=>?_,fun b r hb=>⟨r,(old b fun e=>by subst e; rw [iZ] at hb; cases hb).trans hb,rfl,rfl,rfl,rfl,rfl⟩⟩
  ·by_cases hb:b=g
   ·subst hb;have ho:o < f * sz:=Nat.lt_of_not_le fun hle=>jA o hle hi
    simp only [World.cell?,new,iZ];have:cur2[o]?=cur[o]?:=by
     rw [← mU,List.append_assoc];simp only [List.getElem?_toArray];rw [List.getElem?_append_left (by simp; omega),aa6,if_pos ho,acT]
    simp [this]
   ·exact cn (old b hb) o
  ·by_cases ei:id=i
   ·subst ei;rw [hid] at hr;cases hr;exact ⟨_,aQ hid,by omega,fun e=>by omega⟩
   ·exact ⟨r,by rw [ak.upto,cq ei]; exact hr,cJ.refl r⟩
 have hI:∀ b o,b≠g→(R.upto g (n * sz) (aI R.obj id (.tok n g c))).I b o→R.I b o:=fun b o hb hi=>by
  rcases hi with hi|⟨hi,_⟩
  ·exact hi
  ·exact absurd hi hb
 have live:∀ b,Live (R.upto g (n * sz) (aI R.obj id (.tok n g c))) b→Live R b:=fun b hl=>by
  obtain ⟨i,r,h1,h2⟩:=hl;rcases aH hid h1 with ⟨_,rfl⟩|⟨_,h1⟩
  ·exact ⟨id,_,hid,h2⟩
  ·exact ⟨i,r,h1,h2⟩
 have rX:∀ k cs,dA s.boxes k=some cs→β k≠g:=fun k cs hk eq=>(h.b.box k cs hk).2.2 (eq ▸ rW)
 refine ⟨e,⟨⟨by simp [St.cH,ak.upto,h.g.len],fun i gg r h1 h2=>?_,fun i j ri rj b h1 h2 b1 b2=>?_,fun b o hi=>?_,fun g cs hg=>(h.g.cr g cs hg).mono e,by first | exact h.g.lo | exact aa8 h.g.lo⟩,?_,h.t.mono e,h.n,h.d.mono e⟩,?_⟩
 ·rcases aH hid h2 with ⟨rfl,rfl⟩|⟨cS,h2⟩
  ·simp only [St.cH] at h1;rw [aQ hg] at h1;cases h1;refine ⟨rfl,cur2,new,hn,hm,e7,fun o' pd hi=>?_⟩;rcases hi with hi|⟨_,hi⟩
   ·exact jA o' (Nat.le_trans (aai _ (Nat.le_of_lt hf)) pd) hi
   ·omega
  ·simp only [St.cH] at h1;rw [cq (abT cS)] at h1;have Vx:∀ b,r.has b→b≠g:=fun b hb eq=>cS (h.g.inj i id _ _ b h2 hid hb (by rw [eq]; rfl))
   exact (h.g.obj i gg r h1 h2).mono e (fun b hb=>old b (Vx b hb)) (fun b o hb=>hI b o (Vx b hb))
 ·rcases aH hid h1 with ⟨g3,e1⟩|⟨g3,g1⟩
  ·rcases aH hid h2 with ⟨g4,e2⟩|⟨g4,g2⟩
   ·omega
   ·rw [e1] at b1;exact g3.trans (h.g.inj id j _ _ b hid g2 b1 b2)
  ·rcases aH hid h2 with ⟨g4,e2⟩|⟨g4,g2⟩
   ·rw [e2] at b2;exact (h.g.inj i id _ _ b g1 hid b1 b2).trans g4.symm
   ·exact h.g.inj i j ri rj b g1 g2 b1 b2
 ·rcases hi with hi|⟨rfl,_⟩
  ·have:=h.g.wf b o hi;simpa using this
  ·have:=bl iZ;simpa using this
 ·exact h.b.aY e (fun k cs hk=>old _ (rX k cs hk)) (fun k cs o hk=>hI _ o (rX k cs hk)) (fun k cs hk hl=>live _ hl)
 ·refine ⟨e,rfl,rfl,rfl,by simp,fun b hb uz=>old b (fun eq=>uz (.inl (eq ▸ rW))),fun b hb ho=>?_,fun b o hi hb uz=>hI b o (fun eq=>uz (.inl (eq ▸ rW))) hi⟩;rcases ho with ho|ho
  ·exact .inl (live b ho)
  ·exact .inr ho
structure One (w w':World) (x:Obj):Prop where
 old:∀ b,b < w.heap.size→w'.heap[b]?=w.heap[b]?
 new:w'.heap[w.heap.size]?=some x
 size:w'.heap.size=w.heap.size+1
 os:w'.os=w.os
 tape:w'.tape=w.tape
 output:w'.output=w.output
 drawn:w.drawn≤w'.drawn
theorem One.alloc (w:World) (x:Obj):One w (w.alloc x) x:=⟨fun b hb=>heap_alloc_old w x b hb,heap_alloc_new w x,by simp,rfl,rfl,rfl,aae _⟩
theorem One.drew (w:World) (x:Obj):One w (w.drew.alloc x) x:=⟨fun b hb=>heap_alloc_old w.drew x b hb,heap_alloc_new w.drew x,by simp,rfl,rfl,rfl,Nat.le_succ _⟩
theorem PE {w':World} {x:Obj} (o1:One w w' x) (wf:∀ b o,R.I b o→b < w.heap.size) {n id:Nat} {r0 r1:RO} (hid:nth R.obj id=some r0) (hle:cJ r0 r1):Ext R w (R.upto w.heap.size n (aI R.obj id r1)) w':=
 ⟨fun _ _ h=>.inl h,fun b o h=>cn (o1.old b (wf b o h)) o,fun i r h=>by
  by_cases e:id=i
  ·subst e;rw [hid] at h;cases h;exact ⟨_,aQ hid,hle⟩
  ·exact ⟨r,by rw [ak.upto,cq e]; exact h,cJ.refl r⟩,.old fun b hb=>o1.old b hb⟩
theorem bt.Vy (h:bt E R w β s a) {w':World} {x:Obj} (o1:One w w' x) {n id:Nat} {r0 r1:RO} {KK go:GO} (hg:nth s.G id=some KK) (hid:nth R.obj id=some r0) (hle:cJ r0 r1) (xS:∀ b,r1.has b→b=w.heap.size∨r0.has b)
  (iH:gI (R.upto w.heap.size n (aI R.obj id r1)) w' go r1) :
  bt E (R.upto w.heap.size n (aI R.obj id r1)) w' β (s.cH (aI s.G id go)) a∧Step R w β s.boxes (R.upto w.heap.size n (aI R.obj id r1)) w' β s.boxes:=by
 have e:=PE (R:=R) (n:=n) o1 h.g.wf hid hle;have hI:∀ b o,b < w.heap.size→(R.upto w.heap.size n (aI R.obj id r1)).I b o→R.I b o:=fun b o hb hi=>by
  rcases hi with hi|⟨hi,_⟩
  ·exact hi
  ·omega
 have live:∀ b,b < w.heap.size→Live (R.upto w.heap.size n (aI R.obj id r1)) b→Live R b:=fun b hb hl=>by
  obtain ⟨i,r,h1,h2⟩:=hl;rcases aH hid h1 with ⟨_,rfl⟩|⟨_,h1⟩
  ·rcases xS b h2 with h3|h3
   ·omega
   ·exact ⟨id,r0,hid,h3⟩
  ·exact ⟨i,r,h1,h2⟩
 refine ⟨⟨⟨by simp [St.cH,ak.upto,h.g.len],fun i gg r h1 h2=>?_,fun i j ri rj b h1 h2 b1 b2=>?_,fun b o hi=>?_,fun g cs hg=>(h.g.cr g cs hg).mono e,Nat.le_trans h.g.lo o1.drawn⟩,?_,h.t.mono e,h.n,h.d.mono e⟩,?_⟩
 ·rcases aH hid h2 with ⟨rfl,rfl⟩|⟨cS,h2⟩
  ·simp only [St.cH] at h1;rw [aQ hg] at h1;cases h1;exact iH
  ·simp only [St.cH] at h1;rw [cq (abT cS)] at h1;exact (h.g.obj i gg r h1 h2).mono e (fun b hb=>o1.old b (h.g.cj ⟨i,r,h2,hb⟩)) (fun b o hb=>hI b o (h.g.cj ⟨i,r,h2,hb⟩))
 ·rcases aH hid h1 with ⟨g3,e1⟩|⟨g3,g1⟩
  ·rcases aH hid h2 with ⟨g4,e2⟩|⟨g4,g2⟩
   ·omega
   ·rw [e1] at b1;rcases xS b b1 with b3|b3
    ·have:=h.g.cj ⟨j,rj,g2,b2⟩;omega
    ·exact g3.trans (h.g.inj id j _ _ b hid g2 b3 b2)
  ·rcases aH hid h2 with ⟨g4,e2⟩|⟨g4,g2⟩
   ·rw [e2] at b2;rcases xS b b2 with b3|b3
    ·have:=h.g.cj ⟨i,ri,g1,b1⟩;omega
    ·exact (h.g.inj i id _ _ b g1 hid b1 b3).trans g4.symm
   ·exact h.g.inj i j ri rj b g1 g2 b1 b2
 ·rcases hi with hi|⟨rfl,_⟩
  ·have:=h.g.wf b o hi;rw [o1.size];omega
  ·rw [o1.size]; omega
 ·exact h.b.aY e (fun k cs hk=>o1.old _ (h.eC (.inr ⟨k,cs,hk,rfl⟩))) (fun k cs o hk=>hI _ o (h.eC (.inr ⟨k,cs,hk,rfl⟩))) (fun k cs hk hl=>live _ (h.eC (.inr ⟨k,cs,hk,rfl⟩)) hl)
 ·refine ⟨e,o1.os,o1.tape,o1.output,by rw [o1.size]; omega,fun b hb _=>o1.old b hb,fun b hb ho=>?_,fun b o hi hb _=>hI b o hb hi⟩;rcases ho with ho|ho
  ·exact .inl (live b hb ho)
  ·exact .inr ho
theorem bt.PF (h:bt E R w β s a) {cur cur2:Array Value} {elem:TypeId} {n id g:Nat} {r0 r1:RO} {KK go:GO} (hg:nth s.G id=some KK) (hid:nth R.obj id=some r0) (Pf:r0.has g) (hle:cJ r0 r1) (xS:∀ b,r1.has b→r0.has b)
  (iZ:w.heap[g]?=some (.cells cur elem (0,0))) (xT:∀ o,R.I g o→cur2[o]?=cur[o]?)
  (iH:Ext R w (R.upto g n (aI R.obj id r1)) (w.setRow g cur2)→gI (R.upto g n (aI R.obj id r1)) (w.setRow g cur2) go r1) :
  Ext R w (R.upto g n (aI R.obj id r1)) (w.setRow g cur2)∧bt E (R.upto g n (aI R.obj id r1)) (w.setRow g cur2) β (s.cH (aI s.G id go)) a∧Step R w β s.boxes (R.upto g n (aI R.obj id r1)) (w.setRow g cur2) β s.boxes:=by
 have old:∀ b,b≠g→(w.setRow g cur2).heap[b]?=w.heap[b]?:=fun b hb=>setRow_other w g b cur2 hb
 have new:(w.setRow g cur2).heap[g]?=some (.cells cur2 elem (0,0)):=setRow_heap w g cur cur2 elem (0,0) iZ;have rW:Live R g:=⟨id,_,hid,Pf⟩;have e:Ext R w (R.upto g n (aI R.obj id r1)) (w.setRow g cur2):=by
  refine ⟨fun _ _ hi=>.inl hi,fun b o hi=>?_,fun i r hr=>?_,fun b r hb=>⟨r,(old b fun e=>by subst e; rw [iZ] at hb; cases hb).trans hb,rfl,rfl,rfl,rfl,rfl⟩⟩
  ·by_cases hb:b=g
   ·subst hb;simp only [World.cell?,new,iZ,xT o hi]
   ·exact cn (old b hb) o
  ·by_cases ei:id=i
   ·subst ei;rw [hid] at hr;cases hr;exact ⟨_,aQ hid,hle⟩
   ·exact ⟨r,by rw [ak.upto,cq ei]; exact hr,cJ.refl r⟩
 have hI:∀ b o,b≠g→(R.upto g n (aI R.obj id r1)).I b o→R.I b o:=fun b o hb hi=>by
  rcases hi with hi|⟨hi,_⟩
  ·exact hi
  ·exact absurd hi hb
 have live:∀ b,Live (R.upto g n (aI R.obj id r1)) b→Live R b:=fun b hl=>by
  obtain ⟨i,r,h1,h2⟩:=hl;rcases aH hid h1 with ⟨_,rfl⟩|⟨_,h1⟩
  ·exact ⟨id,_,hid,xS b h2⟩
  ·exact ⟨i,r,h1,h2⟩
 have rX:∀ k cs,dA s.boxes k=some cs→β k≠g:=fun k cs hk eq=>(h.b.box k cs hk).2.2 (eq ▸ rW)
 refine ⟨e,⟨⟨by simp [St.cH,ak.upto,h.g.len],fun i gg r h1 h2=>?_,fun i j ri rj b h1 h2 b1 b2=>?_,fun b o hi=>?_,fun g cs hg=>(h.g.cr g cs hg).mono e,h.g.lo⟩,?_,h.t.mono e,h.n,h.d.mono e⟩,?_⟩
 ·rcases aH hid h2 with ⟨rfl,rfl⟩|⟨cS,h2⟩
  ·simp only [St.cH] at h1;rw [aQ hg] at h1;cases h1;exact iH e
  ·simp only [St.cH] at h1;rw [cq (abT cS)] at h1;have Vx:∀ b,r.has b→b≠g:=fun b hb eq=>cS (h.g.inj i id _ _ b h2 hid hb (by rw [eq]; exact Pf))
   exact (h.g.obj i gg r h1 h2).mono e (fun b hb=>old b (Vx b hb)) (fun b o hb=>hI b o (Vx b hb))
 ·rcases aH hid h1 with ⟨g3,e1⟩|⟨g3,g1⟩
  ·rcases aH hid h2 with ⟨g4,e2⟩|⟨g4,g2⟩
   ·omega
   ·rw [e1] at b1;exact g3.trans (h.g.inj id j _ _ b hid g2 (xS b b1) b2)
  ·rcases aH hid h2 with ⟨g4,e2⟩|⟨g4,g2⟩
   ·rw [e2] at b2;exact (h.g.inj i id _ _ b g1 hid b1 (xS b b2)).trans g4.symm
   ·exact h.g.inj i j ri rj b g1 g2 b1 b2
 ·rcases hi with hi|⟨rfl,_⟩
  ·have:=h.g.wf b o hi;simpa using this
  ·have:=bl iZ;simpa using this
 ·exact h.b.aY e (fun k cs hk=>old _ (rX k cs hk)) (fun k cs o hk=>hI _ o (rX k cs hk)) (fun k cs hk hl=>live _ hl)
 ·refine ⟨e,rfl,rfl,rfl,by simp,fun b hb uz=>old b (fun eq=>uz (.inl (eq ▸ rW))),fun b hb ho=>?_,fun b o hi hb uz=>hI b o (fun eq=>uz (.inl (eq ▸ rW))) hi⟩;rcases ho with ho|ho
  ·exact .inl (live b ho)
  ·exact .inr ho
theorem ul.set {ts:List TR} {j:Nat} {t t':TR} (ht:nth ts j=some t) (hle:mq t t'):ul ts (aI ts j t'):=fun i u hu=>by
 by_cases e:j=i
 ·subst e;rw [ht] at hu;cases hu;exact ⟨t',aQ ht,hle⟩
 ·exact ⟨u,by rw [cq e]; exact hu,mq.refl u⟩
theorem HT {ts:List TR} {j n g c b:Nat} (h:RO.has (.bK (aI ts j (.tok n g c))) b):b=g∨RO.has (.bK ts) b:=by
 obtain ⟨i,f,c',hi⟩:=h;rcases du hi with ⟨_,e,_⟩|⟨_,hi⟩
 ·cases e; exact .inl rfl
 ·exact .inr ⟨i,f,c',hi⟩
theorem AZ.of {R':ak} {w':World} {sz f:Nat} {e:TypeId} {t:TR} (h:AZ R w sz e f t) (hold:∀ f b c,t=.tok f b c→w'.heap[b]?=w.heap[b]?∧∀ o,R'.I b o→R.I b o):AZ R' w' sz e f t:=by
 cases t with
 |bU=>exact h
 |full f'=>exact h
 |tok f' b c=>
  obtain ⟨h0,cur,h1,h2,h3,h4,h5⟩:=h;obtain ⟨k1,k2⟩:=hold f' b c rfl;exact ⟨h0,cur,k1.trans h1,h2,h3,h4,fun o ho hi=>h5 o ho (k2 o hi)⟩
theorem xD.set {R':ak} {w':World} {sz:Nat} {e:TypeId} {fs:List Nat} {ts:List TR} (h:xD R w sz e fs ts) {j n g c:Nat} (mU:AZ R' w' sz e n (.tok n g c)) (Lm:∀ i f c,nth ts i=some (.tok f g c)→i=j)
  (hold:∀ i f b c,i≠j→nth ts i=some (.tok f b c)→w'.heap[b]?=w.heap[b]?∧∀ o,R'.I b o→R.I b o):xD R' w' sz e (aI fs j n) (aI ts j (.tok n g c)):=by
 obtain ⟨h1,h2,h3⟩:=h;refine ⟨by simp [h1],fun i i' f1 b c1 f2 c2 q1 q2=>?_,fun i f1 t1 q1 q2=>?_⟩
 ·rcases du q1 with ⟨n1,e1,_⟩|⟨n1,q1⟩
  ·cases e1;rcases du q2 with ⟨n2,_,_⟩|⟨n2,q2⟩
   ·exact n1.symm.trans n2
   ·exact absurd (Lm _ _ _ q2).symm n2
  ·rcases du q2 with ⟨n2,e2,_⟩|⟨n2,q2⟩
   ·cases e2;exact (Lm _ _ _ q1).trans n2
   ·exact h2 i i' _ _ _ _ _ q1 q2
 ·rcases du q1 with ⟨n1,e1,_⟩|⟨n1,q1⟩
  ·rcases du q2 with ⟨_,e2,_⟩|⟨n2,_⟩
   ·subst e1 e2;exact mU
   ·exact absurd n1 n2
  ·rcases du q2 with ⟨n2,_,_⟩|⟨n2,q2⟩
   ·exact absurd n2 n1
   ·exact (h3 i f1 t1 q1 q2).of fun f b c ht=>by subst ht; exact hold i f b c (abT n2) q2
end ops
end Go.Am
namespace Go.Am
open Go
section lists
theorem xU {α:Type} (c us:List α) (n p sz off:Nat) (hn:n≤c.length) (hp:p+sz≤n) (ho:off+us.length≤sz) :
  (c.take (p+off)++us++c.drop (p+off+us.length)).take n =
   (c.take n).take p++((((c.take n).drop p).take sz).take off++us++(((c.take n).drop p).take sz).drop (off+us.length))++(c.take n).drop (p+sz):=by
 apply List.ext_getElem?;intro j;simp only [List.getElem?_append,aa6,List.getElem?_drop,aby,aa2,abI];by_cases h1:j < p
 ·rw [if_pos (by omega),if_pos (by omega),if_pos (by omega),if_pos (by omega),if_pos (by omega),if_pos (by omega),if_pos (by omega),if_pos (by omega)]
 ·by_cases h2:j < p+off
  ·rw [if_pos (by omega),if_pos (by omega),if_pos (by omega),if_pos (by omega),if_pos (by omega),if_neg (by omega),if_pos (by omega),if_pos (by omega),if_pos (by omega),if_pos (by omega),if_pos (by omega)];congr 1; omega
  ·by_cases h3:j < p+off+us.length
   ·rw [if_pos (by omega),if_pos (by omega),if_neg (by omega),if_pos (by omega),if_neg (by omega),if_pos (by omega),if_neg (by omega)];congr 1; omega
   ·by_cases h4:j < p+sz
    ·rw [if_pos (by omega),if_neg (by omega),if_pos (by omega),if_neg (by omega),if_neg (by omega),if_pos (by omega),if_pos (by omega)];congr 1; omega
    ·by_cases h5:j < n
     ·rw [if_pos (by omega),if_neg (by omega),if_neg (by omega),if_pos (by omega)];congr 1; omega
     ·rw [if_neg (by omega),if_neg (by omega),if_neg (by omega)]
theorem rY {sz:Nat}:∀ {es:List AV} {i:Nat} {e:AV},dM sz es→nth es i=some e→((aq es).drop (i * sz)).take sz=e.cells
 |[],_,_,_,h=>by simp [nth] at h
 |x :: es,0,e,h,hi=>by
  simp only [nth] at hi;cases hi;have h1:=(h x (by simp)).1;rw [acY,List.drop_zero];simp only [aq];rw [← h1,List.take_left]
 |x :: es,i+1,e,h,hi=>by
  have h1:=(h x (by simp)).1;have ih:=rY (i:=i) (fun y hy=>h y (by simp [hy])) (show nth es i=some e from hi);simp only [aq];rw [show (i+1) * sz=x.cells.length+i * sz by rw [h1,aa4]; omega,List.drop_append,aa7 (by omega),abN,abD];exact ih
theorem sY {sz:Nat} {l r:List AV} (h:dM sz l) (k:dM sz r):dM sz (l++r):=fun e he=>by
 rcases acw.1 he with he|he
 ·exact h e he
 ·exact k e he
theorem A8 {sz:Nat} {l:List AV} (n:Nat) (h:dM sz l):dM sz (l.take n):=fun e he=>h e (aaf he)
theorem Jn {sz:Nat} {l:List AV} (n:Nat) (h:dM sz l):dM sz (l.drop n):=fun e he=>h e (aa0 he)
theorem jB {sz:Nat}:∀ {es:List AV} (i:Nat),dM sz es→aq (es.take i)=(aq es).take (i * sz)
 |[],i,_=>by simp [aq]
 |e :: es,0,_=>by simp [aq]
 |e :: es,i+1,h=>by
  have h1:=(h e (by simp)).1;simp only [List.take_succ_cons,aq];rw [jB i (fun y hy=>h y (by simp [hy])),show (i+1) * sz=e.cells.length+i * sz by rw [h1,aa4]; omega,List.take_append,abD,List.take_of_length_le (by omega:e.cells.length≤e.cells.length+i * sz)]
theorem py {sz:Nat}:∀ {es:List AV} (i:Nat),dM sz es→aq (es.drop i)=(aq es).drop (i * sz)
 |[],i,_=>by simp [aq]
 |e :: es,0,_=>by simp [aq]
 |e :: es,i+1,h=>by
  have h1:=(h e (by simp)).1;simp only [List.drop_succ_cons,aq];rw [py i (fun y hy=>h y (by simp [hy])),show (i+1) * sz=e.cells.length+i * sz by rw [h1,aa4]; omega,List.drop_append,aa7 (by omega:e.cells.length≤e.cells.length+i * sz),abN,abD]
theorem dq {sz:Nat} {es:List AV} (h:dM sz es):(aq es).length=es.length * sz:=by
 induction es with
 |nil=>simp [aq]
 |cons e es ih=>
  have h1:=(h e (by simp)).1;have:=ih (fun x hx=>h x (by simp [hx]));simp only [aq,aby,this,h1,List.length_cons,acz];omega
theorem FX {sz:Nat} {es:List AV} {i:Nat} {v:AV} (h:dM sz es) (h1:v.cells.length=sz) (h2:v.a8=true):dM sz (aI es i v):=fun e he=>by
 rw [gk] at he;rcases List.mem_or_eq_of_mem_set he with he|rfl
 ·exact h e he
 ·exact ⟨h1,h2⟩
theorem Dy {sz:Nat} {es:List AV} {i:Nat} {v:AV} (h:dM sz es) (hi:i < es.length) (hv:v.cells.length=sz):aq (aI es i v)=bh (aq es) (i * sz) v.cells:=by
 have FY:i * sz+sz≤es.length * sz:=by
  rw [← aa4];exact aai _ hi
 rw [gk,List.set_eq_take_append_cons_drop,if_pos hi,eT _ _ _ (by rw [hv,dq h]; exact FY),c8,jB i h,hv];simp only [aq];rw [py (i+1) h,aa4,List.append_assoc]
end lists
section ops
variable {E:Env} {R:ak} {w:World} {β:Nat→Nat} {s:St} {a:Act} {o:Oper}
theorem lP {G:List GO} (h:dC E R w G) {id:Nat} {es:List AV} {sz:Nat} {el:TypeId} {ro:RO} (hid:nth G id=some (.dZ es sz el)) (b9:nth R.obj id=some ro) (hn:ro≠.bU) :
  ∃ b c cur vs,ro=.tok es.length b c∧dM sz es∧w.heap[b]?=some (.cells cur el (0,0))∧es.length≤c∧c≤maxLen∧cur.size=c * sz∧(∀ o,¬ R.I b o)∧aN R w (aq es) vs∧(∀ v∈vs,v.oneCell'=true)∧cur.toList.take (es.length * sz)=vs:=by
 have hr:=h.obj id _ _ hid b9;cases ro with
 |none=>exact hr.elim
 |bU=>exact absurd rfl hn
 |ck b=>exact hr.elim
 |bK _=>exact hr.elim
 |tok f b c=>
  obtain ⟨rfl,h1,cur,vs,h2,h3,h4,h5,h6,h7,h8,h9⟩:=hr;exact ⟨b,c,cur,vs,rfl,h1,h2,h3,h4,h5,h6,h7,h8,h9⟩
theorem xV {id f i sz:Nat} {t:TypeId} {v:AV} (h:xz E s id f i sz t=some (true,v)) :
  ∃ es el e,nth s.G id=some (.dZ es sz el)∧f=es.length∧nth es i=some e∧jb e v:=by
 unfold xz at h;split at h
 ·rename_i es bV el hid;split at h
  ·rename_i p hp;split at h
   ·rename_i e7;have e7:=aac e7;subst e7;injection h with h;injection h with h1 h2;simp only [aah,decide_eq_true_eq] at h1;obtain ⟨⟨h3,h4⟩,h5⟩:=h1;obtain ⟨e,he⟩:∃ e,nth es i=some e:=⟨es[i],by rw [bi]; exact abX h4⟩;have hd:ah es i=e:=by simp [ah,he]
    rw [hd] at h5 h2;rw [← h2];exact ⟨es,el,e,hid,h3,he,p.dh h5⟩
   ·cases h
  ·split at h
   ·rename_i e7;have e7:=aac e7;subst e7;injection h with h;injection h with h1 h2;simp only [aah,decide_eq_true_eq] at h1;obtain ⟨h3,h4⟩:=h1;obtain ⟨e,he⟩:∃ e,nth es i=some e:=⟨es[i],by rw [bi]; exact abX h4⟩;have hd:ah es i=e:=by simp [ah,he]
    rw [hd] at h2;rw [← h2];exact ⟨es,el,e,hid,h3,he,jb.refl e⟩
   ·cases h
 ·cases h
theorem HU {α:Type} {l:List α} {i:Nat} {x:α} (h:nth l i=some x):x∈l:=by
 rw [bi] at h;exact List.mem_of_getElem? h
theorem FZ {i n sz:Nat} (h:i < n):i * sz+sz≤n * sz:=by
 rw [← aa4];exact aai _ h
theorem F0 (h:bt E R w β s a) (t:TypeId) (x:Operand) (ho:o.op=.load t x) {v:AV} (hl:AW E s t (bP E s.ae x)=some (true,v)) :
  cu E R w β s a o (s.put o.dst (.v v)):=by
 have rx:=aW h x;unfold AW at hl;split at hl
 ·rename_i id f i off sz ty hx;rw [hx] at rx;split at hl
  ·rename_i ti c ve Vv hg;split at hl
   ·rename_i l hs;split at hl
    ·rename_i r hm;injection hl with hl;injection hl with h1 h2;subst h1; subst h2;obtain ⟨es,el,e,hid,Vz,he,wv⟩:=xV hg;have dN:Rel R w (.gp id f i off sz ty) (a.eval x):=rx;generalize fu:a.eval x=xv at dN;cases dN with
     | @gp _ _ _ _ _ b o' _ ro b9 eN=>
     obtain ⟨b',c',cur,vs,rfl,g1,g2,g3,g4,g5,g6,g7,g8,g9⟩:=lP h.g hid b9 (fun k=>by subst k; exact eN);obtain ⟨rfl,rfl⟩:=eN.2 Vz;have hem:=g1 e (HU he);have eD:aN R w e.cells ((vs.drop (i * sz)).take sz):=by
      rw [← rY g1 he];exact (g7.drop _).take _
     have hw:=(wv.cells hem.2).rel eD;obtain ⟨k1,k2,k3,k4⟩:=qE hs hw (fun y hy=>g8 y (aa0 (aaf hy)));obtain ⟨c,hc,hrr⟩:=po (E:=E) Vv (b:=b) (off:=i * sz+off) k1 k2 k3 (fun j y hy=>by
      have h1:=k4 j y hy;rw [aa6] at h1;split at h1
      ·rw [List.getElem?_drop,← g9,aa6] at h1;split at h1
       ·rw [cell_of_row w b _ cur el (0,0) g2,Nat.add_assoc,← acT];exact h1
       ·cases h1
      ·cases h1) hm
     refine ao h (c:=c) ?_ hrr;simp [execOp,ho,Instr.loadAt,fu,abS,hc]
    ·cases hl
   ·cases hl
  ·cases hl
 ·split at hl
  ·rename_i v' hv;injection hl with hl;injection hl with h1 h2;subst h2;exact Jh h t x ho hv
  ·cases hl
theorem bt.Ce (h:bt E R w β s a) {id f b c:Nat} {es es':List AV} {sz:Nat} {el:TypeId} {cur Dx:Array Value} {vs':List Value} (hid:nth s.G id=some (.dZ es sz el)) (b9:nth R.obj id=some (.tok f b c))
  (hb:w.heap[b]?=some (.cells cur el (0,0))) (hlen:es'.length=es.length) (qD:dM sz es') (e7:Dx.size=cur.size) (hr:aN R w (aq es') vs') (h1:∀ v∈vs',v.oneCell'=true) (ht:Dx.toList.take (f * sz)=vs') :
  bt E R (w.setRow b Dx) β (s.cH (aI s.G id (.dZ es' sz el))) a∧Step R w β s.boxes R (w.setRow b Dx) β s.boxes:=by
 obtain ⟨q0,q1,ZP,vs0,p1,p2,p3,p4,p5,p6,p7,p8⟩:=h.g.obj id _ _ hid b9;rw [hb] at p1;cases p1;have hex:=jd (R:=R) (w:=w) p5 Dx;have F1:∀ k cs,dA s.boxes k=some cs→β k≠b:=fun k cs hk e=>(h.b.box k cs hk).2.2 ⟨id,_,b9,by rw [e]; rfl⟩
 refine ⟨⟨⟨by simp [St.cH,h.g.len],fun jP go ro hg ms=>?_,h.g.inj,fun b' o' um=>by have:=h.g.wf b' o' um; simp; omega,fun g cs' hg=>(h.g.cr g cs' hg).mono hex,h.g.lo⟩,?_,h.t.mono hex,h.n,h.d⟩,?_⟩
 ·rcases du hg with ⟨rfl,rfl,_⟩|⟨cS,rV⟩
  ·rw [b9] at ms;cases ms;exact ⟨by rw [hlen]; exact q0,qD,Dx,vs',setRow_heap w _ _ _ _ (0,0) hb,p2,p3,by rw [e7]; exact p4,p5,hr.mono hex,h1,ht⟩
  ·refine (h.g.obj jP go ro rV ms).mono hex (fun b' gJ=>setRow_other w _ b' _ (fun e=>cS ?_)) (fun _ _ _ hi=>hi);subst e;exact h.g.inj id jP _ _ b' b9 ms rfl gJ
 ·exact h.b.aY hex (fun k cs' iJ=>setRow_other w _ _ _ (F1 k cs' iJ)) (fun _ _ _ _ hi=>hi) (fun _ _ _ hl=>hl)
 ·have B5:Own R β s.boxes b:=.inl ⟨id,_,b9,rfl⟩;exact ⟨hex,rfl,rfl,rfl,by simp,fun b' _ hn=>setRow_other w _ b' _ (fun e=>hn (e ▸ B5)),fun _ _ hb=>hb,fun b o hi _ _=>hi⟩
theorem bt.HV (h:bt E R w β s a) {id b c i off:Nat} {es:List AV} {sz:Nat} {el:TypeId} {cur:Array Value} {vs us:List Value} {e':AV} (hid:nth s.G id=some (.dZ es sz el)) (b9:nth R.obj id=some (.tok es.length b c))
  (hb:w.heap[b]?=some (.cells cur el (0,0))) (qD:dM sz es) (hle:es.length≤c) (qF:cur.size=c * sz) (hr:aN R w (aq es) vs) (h1:∀ v∈vs,v.oneCell'=true) (ht:cur.toList.take (es.length * sz)=vs) (hi:i < es.length)
  (h2:∀ v∈us,v.oneCell'=true) (Cf:off+us.length≤sz) (A0:e'.cells.length=sz) (ZQ:e'.a8=true) (ZR:aN R w e'.cells (((vs.drop (i * sz)).take sz).take off++us++((vs.drop (i * sz)).take sz).drop (off+us.length))) :
  bt E R (w.setRow b ⟨cur.toList.take (i * sz+off)++us++cur.toList.drop (i * sz+off+us.length)⟩) β (s.cH (aI s.G id (.dZ (aI es i e') sz el))) a ∧
   Step R w β s.boxes R (w.setRow b ⟨cur.toList.take (i * sz+off)++us++cur.toList.drop (i * sz+off+us.length)⟩) β s.boxes:=by
 have FY:=FZ (sz:=sz) hi;have Pg:es.length * sz≤cur.toList.length:=by
  rw [show cur.toList.length=cur.size from aa5,qF];exact aai _ hle
 have Uk:vs.length=es.length * sz:=by rw [← hr.length,dq qD]
 refine h.Ce hid b9 hb (iw _ _ _) (FX qD A0 ZQ) ?_ (vs':=vs.take (i * sz)++(((vs.drop (i * sz)).take sz).take off++us++((vs.drop (i * sz)).take sz).drop (off+us.length))++vs.drop (i * sz+sz)) ?_ ?_ ?_
 ·rw [List.size_toArray,← aa5];simp only [aby,aa2,abI];omega
 ·rw [Dy qD hi A0,eT _ _ _ (by rw [A0,dq qD]; exact FY),A0];exact ((hr.take _).append ZR).append (hr.drop _)
 ·intro v hv;simp only [acw] at hv;rcases hv with (hv|((hv|hv)|hv))|hv
  ·exact h1 v (aaf hv)
  ·exact h1 v (aa0 (aaf (aaf hv)))
  ·exact h2 v hv
  ·exact h1 v (aa0 (aaf (aa0 hv)))
  ·exact h1 v (aa0 hv)
 ·rw [acV,xU _ _ _ _ _ _ Pg FY Cf,ht]
theorem bt.HW (h:bt E R w β s a) {id b c off:Nat} {es ns:List AV} {sz:Nat} {el:TypeId} {cur:Array Value} {vs us:List Value} (hid:nth s.G id=some (.dZ es sz el)) (b9:nth R.obj id=some (.tok es.length b c))
  (hb:w.heap[b]?=some (.cells cur el (0,0))) (qD:dM sz es) (hle:es.length≤c) (qF:cur.size=c * sz) (hr:aN R w (aq es) vs) (h1:∀ v∈vs,v.oneCell'=true) (ht:cur.toList.take (es.length * sz)=vs)
  (Cf:off+ns.length≤es.length) (hns:dM sz ns) (hu:aN R w (aq ns) us) (h2:∀ v∈us,v.oneCell'=true) :
  bt E R (w.setRow b ⟨cur.toList.take (off * sz)++us++cur.toList.drop (off * sz+us.length)⟩) β (s.cH (aI s.G id (.dZ (bh es off ns) sz el))) a ∧
   Step R w β s.boxes R (w.setRow b ⟨cur.toList.take (off * sz)++us++cur.toList.drop (off * sz+us.length)⟩) β s.boxes:=by
 have VA:us.length=ns.length * sz:=by rw [← hu.length,dq hns]
 have FY:off * sz+ns.length * sz≤es.length * sz:=by rw [← acz]; exact aai _ Cf
 have Pg:es.length * sz≤cur.toList.length:=by
  rw [show cur.toList.length=cur.size from aa5,qF];exact aai _ hle
 have Uk:vs.length=es.length * sz:=by rw [← hr.length,dq qD]
 have hm:=xU cur.toList us (es.length * sz) (off * sz) (ns.length * sz) 0 Pg FY (by omega);simp only [Nat.add_zero,List.take_zero,abN,ab1] at hm;rw [VA,ht,show List.drop (ns.length * sz) (List.take (ns.length * sz) (List.drop (off * sz) vs))=[] from aa7 (by rw [aa2]; exact Nat.min_le_left _ _),List.append_nil] at hm;rw [eT _ _ _ Cf];refine h.Ce hid b9 hb (by simp; omega) (sY (sY (A8 _ qD) hns) (Jn _ qD)) ?_ (vs':=vs.take (off * sz)++us++vs.drop (off * sz+ns.length * sz)) ?_ ?_ ?_
 ·rw [List.size_toArray,← aa5];simp only [aby,aa2,abI,VA];omega
 ·rw [c8,c8,jB _ qD,py _ qD,acz];exact ((hr.take _).append hu).append (hr.drop _)
 ·intro v hv;simp only [acw] at hv;rcases hv with (hv|hv)|hv
  ·exact h1 v (aaf hv)
  ·exact h2 v hv
  ·exact h1 v (aa0 hv)
 ·rw [acV,VA];exact hm
theorem Dz (h:bt E R w β s a) (t:TypeId) (p x:Operand) (ho:o.op=.store t p x) (hd:o.dst=none) {s':St} (hs:jS E s t (bP E s.ae p) (bP E s.ae x)=some (true,s')) :
  cu E R w β s a o s':=by
 have rp:=aW h p;have rx:=aW h x;unfold jS at hs;split at hs
 ·rename_i id f i off sz ty ZA;rw [ZA] at rp;have ZC:Rel R w (.gp id f i off sz ty) (a.eval p):=rp;generalize ZD:a.eval p=pv at ZC;split at hs
  ·rename_i ti v es bV el Vv hx hid;rw [hx] at rx;split at hs
   ·rename_i fG;simp only [aah] at fG;obtain ⟨⟨Pb,hlen⟩,VB⟩:=fG;have hlen:=aac hlen;have VB:=aac VB;subst VB;have rxw:Rel R w v (a.eval x):=rx;obtain ⟨c1,c2⟩:=Rel.cells rxw Pb;have Dc:v.cells.length=(a.eval x).cells.toList.length:=c1.length;cases ZC with
    | @gp _ _ _ _ _ b o' _ ro b9 eN=>
    obtain ⟨b',c',cur,vs,rfl,g1,g2,g3,g4,g5,g6,g7,g8,g9⟩:=lP h.g hid b9 (fun k=>by subst k; exact eN);have Uk:vs.length=es.length * sz:=by rw [← g7.length,dq g1]
    have Pg:es.length * sz≤cur.toList.length:=by
     rw [show cur.toList.length=cur.size from aa5,g5];exact aai _ g3
    split at hs
    ·rename_i hw;rw [aah] at hw;have Cf:=aac hw.1;have hts:=aac hw.2;subst Cf;injection hs with hs;injection hs with h1 h2;rw [aah,decide_eq_true_eq,decide_eq_true_eq] at h1;subst h2;obtain ⟨rfl,rfl⟩:=eN.2 h1.1;have FY:=FZ (sz:=sz) h1.2;have bM:=j9 (E:=E) (w:=w) Vv (b:=b) (vs:=cur.toList) (off:=i * sz+0) (c:=a.eval x) g2 (by rw [← Dc]; exact hlen) (by rw [← Dc]; omega) c2;obtain ⟨r1,r2⟩:=h.HV (us:=(a.eval x).cells.toList) (off:=0) (i:=i) (e':=v) hid b9 g2 g1 g3 g5 g7 g8 g9 h1.2 c2 (by rw [← Dc]; omega) (by omega) Pb (by
      rw [List.take_zero,abN,ab1,aa7 (by rw [aa2,← Dc]; omega),List.append_nil];exact c1)
     simp only [Nat.add_zero] at ZD bM r1 r2;refine ⟨.skip,undef,_,R,β,?_,.inr ⟨rfl,rfl⟩,by rw [hd]; exact r1,r2⟩;simp [execOp,ho,Instr.storeAt,ZD,abS,bM]
    ·split at hs
     ·rename_i cc cs hg;split at hs
      ·rename_i hw;simp only [aah] at hw;obtain ⟨hle,VC⟩:=hw;have hle:=acS hle;have VC:=aac VC;injection hs with hs;injection hs with h1 h2;subst h1; subst h2;obtain ⟨es0,el0,e,Ln,Vz,he,wv⟩:=xV hg;rw [hid] at Ln;cases Ln;obtain ⟨rfl,rfl⟩:=eN.2 Vz;have hi:i < es.length:=ca he;have FY:=FZ (sz:=sz) hi;have hem:=g1 e (HU he);have eD:aN R w e.cells ((vs.drop (i * sz)).take sz):=by
        rw [← rY g1 he];exact (g7.drop _).take _
       have hw:=(wv.cells hem.2).rel eD;have hw':aN R w cs ((vs.drop (i * sz)).take sz):=hw;have bM:=j9 (E:=E) (w:=w) Vv (b:=b) (vs:=cur.toList) (off:=i * sz+off) (c:=a.eval x) g2 (by rw [← Dc]; exact hlen) (by rw [← Dc]; omega) c2;have De:off+v.cells.length≤cs.length:=by omega
       obtain ⟨r1,r2⟩:=h.HV (us:=(a.eval x).cells.toList) (off:=off) (i:=i) (e':=.agg (bh cs off v.cells)) hid b9 g2 g1 g3 g5 g7 g8 g9 hi c2 (by rw [← Dc]; omega) (by show (bh cs off v.cells).length=sz; rw [Aj _ _ _ De]; exact VC) rfl (by
        show aN R w (bh cs off v.cells) _;rw [eT _ _ _ De,Dc];exact ((hw'.take _).append c1).append (hw'.drop _))
       refine ⟨.skip,undef,_,R,β,?_,.inr ⟨rfl,rfl⟩,by rw [hd]; exact r1,r2⟩;simp [execOp,ho,Instr.storeAt,ZD,abS,bM]
      ·cases hs
     ·cases hs
   ·cases hs
  ·cases hs
 ·split at hs
  ·rename_i DA hv;injection hs with hs;injection hs with h1 h2;subst h2;exact FL h t p x ho hd hv
  ·cases hs
def ak.reset (R:ak) (id:Nat) (ro:RO):ak:=⟨R.I,aI R.obj id ro⟩
theorem xW {id g:Nat} {r0 ro:RO} (hid:nth R.obj id=some r0) (b9:∀ b,ro.has b→b=g) {b:Nat} (hl:Live (R.reset id ro) b):b=g∨Live R b:=by
 obtain ⟨i,r,h1,h2⟩:=hl;rcases aH hid h1 with ⟨_,rfl⟩|⟨_,h1⟩
 ·exact .inl (b9 b h2)
 ·exact .inr ⟨i,r,h1,h2⟩
theorem bt.VD (h:bt E R w β s a) {cur:Array Value} {vs:List Value} {es es':List AV} {elem:TypeId} {sz cap id:Nat} {r0:RO} (hg:nth s.G id=some (.dZ es sz elem)) (hid:nth R.obj id=some r0) (hf:∀ b c,cJ r0 (.tok es'.length b c))
  (hn:es'.length≤cap) (hm:cap≤maxLen) (hs:cur.size=cap * sz) (qD:dM sz es') (hr:aN R w (aq es') vs) (h1:∀ v∈vs,v.oneCell'=true) (ht:cur.toList.take (es'.length * sz)=vs) :
  bt E (R.reset id (.tok es'.length w.heap.size cap)) (w.drew.alloc (.cells cur elem)) β (s.cH (aI s.G id (.dZ es' sz elem))) a ∧
  Step R w β s.boxes (R.reset id (.tok es'.length w.heap.size cap)) (w.drew.alloc (.cells cur elem)) β s.boxes:=by
 have e:Ext R w (R.reset id (.tok es'.length w.heap.size cap)) (w.drew.alloc (.cells cur elem)):=
  ⟨fun _ _ h=>h,fun b o hi=>cn (heap_alloc_old w.drew _ b (h.g.wf b o hi)) o,fun i r hr=>by
   by_cases ei:id=i
   ·subst ei;rw [hid] at hr;cases hr;exact ⟨_,aQ hid,hf _ _⟩
   ·exact ⟨r,by rw [ak.reset,cq ei]; exact hr,cJ.refl r⟩,.old fun b hb=>heap_alloc_old w.drew _ b hb⟩
 have old:∀ b,b < w.heap.size→(w.drew.alloc (.cells cur elem)).heap[b]?=w.heap[b]?:=fun b hb=>heap_alloc_old w.drew _ b hb
 have new:(w.drew.alloc (.cells cur elem)).heap[w.heap.size]?=some (.cells cur elem (0,0)):=heap_alloc_new w.drew _;have live:∀ b,b < w.heap.size→Live (R.reset id (.tok es'.length w.heap.size cap)) b→Live R b:=fun b hb hl=>by
  rcases xW (g:=w.heap.size) (ro:=.tok es'.length w.heap.size cap) hid (fun _ h=>h) hl with rfl|hl
  ·omega
  ·exact hl
 refine ⟨⟨⟨by simp [St.cH,ak.reset,h.g.len],fun i gg r xG h2=>?_,fun i j ri rj b xG h2 b1 b2=>?_,fun b o hi=>?_,fun g cs hg=>(h.g.cr g cs hg).mono e,aa8 h.g.lo⟩,?_,h.t.mono e,h.n,h.d.mono e⟩,?_⟩
 ·rcases aH hid h2 with ⟨rfl,rfl⟩|⟨cS,h2⟩
  ·simp only [St.cH] at xG;rw [aQ hg] at xG;cases xG;exact ⟨rfl,qD,cur,vs,new,hn,hm,hs,fun o hi=>by have:=h.g.wf _ _ hi; omega,hr.mono e,h1,ht⟩
  ·simp only [St.cH] at xG;rw [cq (abT cS)] at xG;exact (h.g.obj i gg r xG h2).mono e (fun b hb=>old b (h.g.cj ⟨i,r,h2,hb⟩)) (fun b o _ hi=>hi)
 ·rcases aH hid xG with ⟨g3,e1⟩|⟨g3,g1⟩
  ·rcases aH hid h2 with ⟨g4,e2⟩|⟨g4,g2⟩
   ·omega
   ·have:=h.g.cj ⟨j,rj,g2,b2⟩;rw [e1] at b1;simp [RO.has] at b1;omega
  ·rcases aH hid h2 with ⟨g4,e2⟩|⟨g4,g2⟩
   ·have:=h.g.cj ⟨i,ri,g1,b1⟩;rw [e2] at b2;simp [RO.has] at b2;omega
   ·exact h.g.inj i j ri rj b g1 g2 b1 b2
 ·have:=h.g.wf b o hi;simp;omega
 ·exact h.b.aY e (fun k cs hk=>old _ (h.eC (.inr ⟨k,cs,hk,rfl⟩))) (fun k cs o hk hi=>hi) (fun k cs hk hl=>live _ (h.eC (.inr ⟨k,cs,hk,rfl⟩)) hl)
 ·refine ⟨e,rfl,rfl,rfl,by simp,fun b hb _=>old b hb,fun b hb ho=>?_,fun b o hi hb _=>hi⟩;rcases ho with ho|ho
  ·exact .inl (live b hb ho)
  ·exact .inr ho
theorem bt.PG (h:bt E R w β s a) {cur cur2:Array Value} {vs:List Value} {es es':List AV} {elem:TypeId} {sz id g c:Nat} (hg:nth s.G id=some (.dZ es sz elem)) (hid:nth R.obj id=some (.tok es.length g c)) (cm:es.length < es'.length) (hn:es'.length≤c)
  (iZ:w.heap[g]?=some (.cells cur elem (0,0))) (hs:cur2.size=cur.size) (qD:dM sz es') (hr:aN R w (aq es') vs) (h1:∀ v∈vs,v.oneCell'=true) (ht:cur2.toList.take (es'.length * sz)=vs) :
  bt E (R.reset id (.tok es'.length g c)) (w.setRow g cur2) β (s.cH (aI s.G id (.dZ es' sz elem))) a ∧
  Step R w β s.boxes (R.reset id (.tok es'.length g c)) (w.setRow g cur2) β s.boxes:=by
 obtain ⟨q0,q1,ZP,vs0,p1,p2,p3,p4,p5,p6,p7,p8⟩:=h.g.obj id _ _ hg hid;rw [iZ] at p1;cases p1;have rW:Live R g:=⟨id,_,hid,rfl⟩;have old:∀ b,b≠g→(w.setRow g cur2).heap[b]?=w.heap[b]?:=fun b hb=>setRow_other w g b cur2 hb
 have new:(w.setRow g cur2).heap[g]?=some (.cells cur2 elem (0,0)):=setRow_heap w g cur cur2 elem (0,0) iZ;have e:Ext R w (R.reset id (.tok es'.length g c)) (w.setRow g cur2):=by
  have e0:=jd (R:=R) (w:=w) p5 cur2;refine ⟨fun _ _ h=>h,e0.cell,fun i r hr=>?_,e0.lp⟩;by_cases ei:id=i
  ·subst ei;rw [hid] at hr;cases hr;exact ⟨_,aQ hid,by omega,fun e=>by omega⟩
  ·exact ⟨r,by rw [ak.reset,cq ei]; exact hr,cJ.refl r⟩
 have live:∀ b,Live (R.reset id (.tok es'.length g c)) b→Live R b:=fun b hl=>by
  rcases xW (g:=g) (ro:=.tok es'.length g c) hid (fun _ h=>h) hl with rfl|hl
  ·exact rW
  ·exact hl
 have rX:∀ k cs,dA s.boxes k=some cs→β k≠g:=fun k cs hk eq=>(h.b.box k cs hk).2.2 (eq ▸ rW)
 refine ⟨⟨⟨by simp [St.cH,ak.reset,h.g.len],fun i gg r xG h2=>?_,fun i j ri rj b xG h2 b1 b2=>?_,fun b o hi=>?_,fun g cs hg=>(h.g.cr g cs hg).mono e,h.g.lo⟩,?_,h.t.mono e,h.n,h.d.mono e⟩,?_⟩
 ·rcases aH hid h2 with ⟨rfl,rfl⟩|⟨cS,h2⟩
  ·simp only [St.cH] at xG;rw [aQ hg] at xG;cases xG;exact ⟨rfl,qD,cur2,vs,new,hn,p3,by rw [hs]; exact p4,p5,hr.mono e,h1,ht⟩
  ·simp only [St.cH] at xG;rw [cq (abT cS)] at xG;have Vx:∀ b,r.has b→b≠g:=fun b hb eq=>cS (h.g.inj i id _ _ b h2 hid hb (by rw [eq]; rfl))
   exact (h.g.obj i gg r xG h2).mono e (fun b hb=>old b (Vx b hb)) (fun b o hb hi=>hi)
 ·rcases aH hid xG with ⟨g3,e1⟩|⟨g3,g1⟩
  ·rcases aH hid h2 with ⟨g4,e2⟩|⟨g4,g2⟩
   ·omega
   ·rw [e1] at b1;exact g3.trans (h.g.inj id j _ _ b hid g2 b1 b2)
  ·rcases aH hid h2 with ⟨g4,e2⟩|⟨g4,g2⟩
   ·rw [e2] at b2;exact (h.g.inj i id _ _ b g1 hid b1 b2).trans g4.symm
   ·exact h.g.inj i j ri rj b g1 g2 b1 b2
 ·have:=h.g.wf b o hi;simpa using this
 ·exact h.b.aY e (fun k cs hk=>old _ (rX k cs hk)) (fun k cs o hk hi=>hi) (fun k cs hk hl=>live _ hl)
 ·refine ⟨e,rfl,rfl,rfl,by simp,fun b hb uz=>old b (fun eq=>uz (.inl (eq ▸ rW))),fun b hb ho=>?_,fun b o hi hb uz=>hi⟩;rcases ho with ho|ho
  ·exact .inl (live b ho)
  ·exact .inr ho
theorem bt.F2 (h:bt E R w β s a) {cur:Array Value} {vs:List Value} {es:List AV} {elem:TypeId} {sz cap:Nat} (hn:es.length≤cap) (hm:cap≤maxLen) (hs:cur.size=cap * sz) (qD:dM sz es) (hr:aN R w (aq es) vs) (h1:∀ v∈vs,v.oneCell'=true) (ht:cur.toList.take (es.length * sz)=vs) :
  bt E (R.add (.tok es.length w.heap.size cap)) (w.alloc (.cells cur elem)) β (s.dU (.dZ es sz elem)) a:=
 h.mr (.cells cur elem) (.dZ es sz elem) (.tok es.length w.heap.size cap) (by exact fun _ h=>h)
  ⟨rfl,qD,cur,vs,heap_alloc_new w _,hn,hm,hs,fun o hi=>by have:=h.g.wf _ _ hi; omega,hr.mono (gU h.g.wf _ _),h1,ht⟩
theorem wx (h:bt E R w β s a) (t:TypeId) (x y:Operand) (ho:o.op=.makeSlice t x y) {i:TI} (hi:E.ti t=some i) {k k':IntKind} {n m:Int} (hx:bP E s.ae x=.v (.int k n)) (hy:bP E s.ae y=.v (.int k' m))
  {elem esz pt:Nat} {ag:Bool} {z:AV} (hk:i.k=.sl elem esz ag pt (some z)) (hz:z.cells.length=esz) (Dd:1≤esz) (sI:z.a8=true) (tX:z.closed=true) (hc:0≤n∧n≤m∧m≤140737488355328∧m * pt≤140737488355328) :
  cu E R w β s a o ((s.dU (.dZ (aao n.toNat z) esz elem)).put o.dst (.v (.eF s.G.length n.toNat 0 esz n.toNat))):=by
 obtain ⟨us,z1,z2,bM⟩:=rE h t x y ho hi hx hy hk hz Dd sI hc;have YW:n.toNat≤m.toNat:=by omega
 have qD:=(fQ (n:=m.toNat) hz sI tX).g;have VA:us.length=m.toNat * esz:=by rw [← z1.length,dq qD,acU]
 have Pg:(aao n.toNat z).length=n.toNat:=acU;have Fx:(aao m.toNat z).take n.toNat=aao n.toNat z:=by rw [List.take_replicate,Nat.min_eq_left YW]
 have hr:aN R w (aq (aao n.toNat z)) (us.take (n.toNat * esz)):=by
  rw [← Fx,jB _ qD];exact z1.take _
 have r1:=h.F2 (cur:=⟨us⟩) (vs:=us.take (n.toNat * esz)) (es:=aao n.toNat z) (elem:=elem) (cap:=m.toNat) (by rw [Pg]; exact YW) (by unfold maxLen; omega) (by simpa using VA) (fQ hz sI tX).g hr (fun v hv=>z2 v (aaf hv)) (by rw [Pg]);rw [Pg] at r1;have e:=gU (R:=R) (w:=w) h.g.wf (.cells ⟨us⟩ elem) (.tok n.toNat w.heap.size m.toNat);exact ⟨_,.slice (some ⟨w.heap.size,0,none⟩) n.toNat m.toNat,_,R.add (.tok n.toNat w.heap.size m.toNat),β,bM,.inl rfl,r1.put o.dst (x:=.v (.eF s.G.length n.toNat 0 esz n.toNat)) (Rel.eF (gl h _) ⟨aae _,fun _=>⟨rfl,ab1 _,.inl (acY _).symm⟩⟩ YW),by rw [bc]; exact c9 h _ _ (by exact fun _ h=>h)⟩
theorem uA (h:bt E R w β s a) (t:TypeId) (len:Nat) (parts:Array (Nat × Operand)) (ho:o.op=.buildSlice t len parts) {k:LK} {esz:Nat} {es:List AV} (hv:cp E s t len parts.toList=some (.list k esz es)) {i:TI} (hi:E.ti t=some i) {elem bV pt:Nat} {ag:Bool} {z:Option AV} (hk:i.k=.sl elem bV ag pt z) (hm:len≤65536) :
  cu E R w β s a o ((s.dU (.dZ es esz elem)).put o.dst (.v (.eF s.G.length len 0 esz len))):=by
 obtain ⟨es',Vr,us,ZN,ZK,bM,g2,hlen,u2,u3,i',ag',by',z',um,iJ⟩:=iK h t len parts ho hv;cases ZK;rw [hi] at um;cases um;rw [hk] at iJ;cases iJ;have ZO:us.length=len * esz:=by rw [← u2.length,dO g2,hlen]
 have r1:=h.F2 (cur:=⟨us⟩) (vs:=us) (es:=es) (elem:=elem) (cap:=len) (by rw [hlen]; exact aae _) (by simp [maxLen]; omega) (by simpa using ZO) g2.g u2 u3 (by rw [hlen,← ZO]; exact List.take_length);rw [hlen] at r1;exact ⟨_,.slice (some ⟨w.heap.size,0,none⟩) len len,_,R.add (.tok len w.heap.size len),β,bM,.inl rfl,r1.put o.dst (x:=.v (.eF s.G.length len 0 esz len)) (Rel.eF (gl h _) ⟨aae _,fun _=>⟨rfl,ab1 _,.inl (acY _).symm⟩⟩ (aae _)),by rw [bc]; exact c9 h _ _ (by exact fun _ h=>h)⟩
end ops
end Go.Am
