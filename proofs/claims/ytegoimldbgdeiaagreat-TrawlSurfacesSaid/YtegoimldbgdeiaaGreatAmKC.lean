/- The abstract machine: what it does is what the model does: slices that are built and cut. -/
import Derived.Test.YtegoimldbgdeiaaGreatAmKB
import Derived.IntWalk
set_option linter.all false
open Array renaming range→abx, ext'→abR
open Bool renaming and_eq_true→abr
open Go.Builtin renaming len_→aas, min2→acy
open Go.Instr renaming sliceAt→aaN, slice→abt, buildSlice→abu, sliceBound→abS, makeSlice→acD
open Go.Op renaming bytesLess→ac0
open Go.Result renaming andThen_ok→aaa
open Go.Sem renaming run_bind→aag, run_pure→aah
open List renaming replicate→aar, length_nil→aaF, length_append→abL, getElem?_take→abN, getElem?_append_left→abO, foldlM_cons→abY, getElem?_eq_none→acJ, mem_of_mem_take→acR, replicate_succ→acU
open Nat renaming le_refl→aak, eq_of_beq_eq_true→aaG, le_of_ble_eq_true→abp, le_zero_eq→abv, mul_le_mul_right→abw, le_succ_of_le→abz, succ_mul→abA, add_mul→abK, mul_eq_zero→acC, zero_mul→acX
open Ne renaming symm→acP
open Option renaming map_none→aaq, map_some→abJ
namespace Go.Am
open Go
theorem dH (l r:List AV):aE (l++r)=aE l++aE r:=by
 induction l with
 |nil=>rfl
 |cons e l ih=>simp [aE,ih]
theorem fG {sz:Nat} {es:List AV} (h:jF sz es):(aE es).length=es.length * sz:=by
 induction es with
 |nil=>simp [aE]
 |cons e es ih=>
  have h1:=(h e (by simp)).1;have:=ih (fun x hx=>h x (by simp [hx]));simp only [aE,abL,this,h1,List.length_cons,abK];omega
section rel
variable {R:aj} {w:World}
theorem oJ {b sz:Nat}:∀ {es:List AV} {o:Nat},jF sz es→ik R w b o (aE es)→kn R w b o sz es
 |[],_,_,_=>.nil
 |e :: es,o,h,hc=>by
  obtain ⟨h1,h2,h3⟩:=h e (by simp);obtain ⟨vs,k1,k2,k3,k4⟩:=hc.get;have hd:=hc.drop sz;have aeq:(aE (e :: es)).drop sz=aE es:=by simp only [aE]; rw [← h1,List.drop_left]
  have Rt:(aE (e :: es)).take sz=e.cells:=by simp only [aE]; rw [← h1,List.take_left]
  rw [aeq] at hd;refine .cons h1 h2 h3 ?_ (oJ (fun x hx=>h x (by simp [hx])) hd);have kt:=k1.take sz;rw [Rt] at kt;refine .make kt (fun v hv=>k2 v (acR hv)) (fun j v hv=>k3 j v ?_) (fun j hj=>k4 j ?_)
  ·rw [abN] at hv;split at hv
   ·exact hv
   ·cases hv
  ·simp only [aE,abL];omega
theorem CK {b sz:Nat}:∀ {es:List AV} {o:Nat},kn R w b o sz es→jF sz es∧∃ vs,aQ R w (aE es) vs∧(∀ v∈vs,v.oneCell'=true)∧(∀ j v,vs[j]?=some v→w.cell? ⟨b,o+j,none⟩=some v)∧∀ j,j < es.length * sz→R.I b (o+j)
 |[],o,_=>⟨fun e he=>by simp at he,[],.nil,by simp,by simp,by simp⟩
 |e :: es,o,h=>by
  cases h with
  |cons hl ht hk hc t=>
   obtain ⟨g0,vs,g1,g2,g3,g4⟩:=CK t;obtain ⟨us,f1,f2,f3,f4⟩:=hc.get;have hlen:us.length=sz:=by rw [← f1.length,hl]
   refine ⟨fun x hx=>?_,us++vs,f1.append g1,fun v hv=>?_,fun j v hv=>?_,fun j hj=>?_⟩
   ·rcases List.mem_cons.1 hx with rfl|hx
    ·exact ⟨hl,ht,hk⟩
    ·exact g0 x hx
   ·rcases List.mem_append.1 hv with hv|hv
    ·exact f2 v hv
    ·exact g2 v hv
   ·by_cases hj:j < sz
    ·rw [abO (by omega)] at hv;exact f3 j v hv
    ·rw [List.getElem?_append_right (by omega),hlen] at hv;have:=g3 _ v hv;rwa [show o+sz+(j - sz)=o+j by omega] at this
   ·by_cases KT:j < sz
    ·exact f4 j (by omega)
    ·have:=g4 (j - sz) (by simp only [List.length_cons,abK] at hj; omega);rwa [show o+sz+(j - sz)=o+j by omega] at this
theorem zY {b sz:Nat}:∀ (n:Nat) {es:List AV} {o:Nat},kn R w b o sz es→kn R w b (o+n * sz) sz (es.drop n)
 |0,es,o,h=>by simpa using h
 |n+1,[],o,h=>by simpa using kn.nil
 |n+1,e :: es,o,h=>by
  cases h with
  |cons hl ht hk hc t=>
   have:=zY n t;rw [show o+sz+n * sz=o+(n+1) * sz by rw [abK]; omega] at this;simpa using this
theorem zZ {b sz:Nat}:∀ (n:Nat) {es:List AV} {o:Nat},kn R w b o sz es→kn R w b o sz (es.take n)
 |0,es,o,h=>by simpa using kn.nil
 |n+1,[],o,h=>by simpa using kn.nil
 |n+1,e :: es,o,h=>by
  cases h with
  |cons hl ht hk hc t=>simpa using kn.cons hl ht hk hc (zZ n t)
end rel
theorem gu {sz n:Nat} {z:AV} (h1:z.cells.length=sz) (h2:z.ba=true) (h3:z.closed=true):jF sz (aar n z):=fun e he=>by
 rw [List.mem_replicate] at he;rw [he.2];exact ⟨h1,h2,h3⟩
theorem CL {sz:Nat}:∀ {es:List AV} {i:Nat} {v:AV},jF sz es→i < es.length→v.cells.length=sz→aE (aC es i v)=eC (aE es) (i * sz) v.cells
 |[],i,v,_,h,_=>by simp at h
 |e :: es,0,v,h,_,hv=>by
  have h1:=(h e (by simp)).1;simp only [aC,aE,acX];rw [gQ _ 0 _ (by simp; omega)];simp only [List.take_zero,List.nil_append,Nat.zero_add];rw [hv,← h1,List.drop_left]
 |e :: es,i+1,v,h,hi,hv=>by
  have h1:=(h e (by simp)).1;have E2:jF sz es:=fun x hx=>h x (by simp [hx])
  have ih:=CL (i:=i) (v:=v) E2 (by simpa using hi) hv;have cE:i < es.length:=by simpa using hi
  have hle:i * sz+sz≤es.length * sz:=by rw [← abA]; exact abw _ cE
  have hl:=fG E2;simp only [aC,aE];have e1:(i+1) * sz=e.cells.length+i * sz:=by rw [h1,abA]; omega
  have e2:List.take (e.cells.length+i * sz) e.cells=e.cells:=List.take_of_length_le (by omega);rw [ih,gQ _ _ _ (by omega),e1,gQ _ _ _ (by simp only [abL]; omega)];rw [List.take_append,e2,Nat.add_assoc,List.drop_append,List.drop_of_length_le (by omega:e.cells.length≤e.cells.length+(i * sz+v.cells.length))];simp [Nat.add_sub_cancel_left]
theorem FK {sz:Nat} {es:List AV} {i:Nat} {v:AV} (h:jF sz es) (h1:v.cells.length=sz) (h2:v.ba=true) (h3:v.closed=true):jF sz (aC es i v):=fun e he=>by
 rw [fg] at he;rcases List.mem_or_eq_of_mem_set he with he|rfl
 ·exact h e he
 ·exact ⟨h1,h2,h3⟩
theorem A5 {sz:Nat}:∀ {ps:List (Nat × AV)} {es es':List AV},Ix sz es ps=some es'→jF sz es →
  A0 (fun i=>some (i * sz,sz)) (aE es) ps=some (aE es')∧jF sz es'∧es'.length=es.length
 |[],es,es',h,hk=>by simp [Ix] at h; subst h; exact ⟨rfl,hk,rfl⟩
 |(i,v) :: ps,es,es',h,hk=>by
  unfold Ix at h;split at h
  ·rename_i hc;simp only [abr] at hc;obtain ⟨⟨⟨hn,hl⟩,hi⟩,Ve⟩:=hc;have hl':=aaG hl;have sQ:=abp hi;obtain ⟨g1,g2,g3⟩:=A5 h (FK hk hl' hn Ve);refine ⟨?_,g2,by simpa using g3⟩;unfold A0;have hle:Nat.ble (i * sz+sz) (aE es).length=true:=by
    apply Nat.ble_eq_true_of_le;rw [fG hk,← abA];exact abw _ sQ
   simp only [hn,hl,hle,Bool.and_self,if_true];rw [← CL hk (by omega) hl'];exact g1
  ·cases h
section ops
variable {E:Env} {R:aj} {w:World} {β:Nat→Nat} {s:St} {a:Act} {o:Oper}
def aj.imm (R:aj) (b:Nat):aj:=⟨fun b' o=>R.I b' o∨b'=b,R.obj⟩
theorem G8 (wf:∀ b o,R.I b o→b < w.heap.size) (x:Obj):Ext R w (R.imm w.heap.size) (w.alloc x):=
 ⟨fun _ _ h=>.inl h,fun b o h=>cw (heap_alloc_old w x b (wf b o h)) o,fun _ ro h=>⟨ro,h,cQ.refl ro⟩,.old fun b hb=>heap_alloc_old w x b hb⟩
theorem bi.imm (h:bi E R w β s a) (x:Obj):bi E (R.imm w.heap.size) (w.alloc x) β s a:=
 h.bD (G8 h.g.wf x) rfl (fun b hb=>heap_alloc_old w x b (h.fu hb)) (fun b o hb hi=>by
  rcases hi with hi|hi
  ·exact hi
  ·have:=h.fu hb;omega) (fun b o hi=>by
  rcases hi with hi|hi
  ·have:=h.g.wf b o hi;simp;omega
  ·simp;omega)
theorem Ru (h:bi E R w β s a) (x:Obj):Step R w β s.boxes (R.imm w.heap.size) (w.alloc x) β s.boxes:=
 ⟨G8 h.g.wf x,rfl,rfl,rfl,by simp,fun b hb _=>heap_alloc_old w x b hb,fun _ _ ho=>ho,fun b o hi hb _=>by
  rcases hi with hi|hi
  ·exact hi
  ·omega⟩
theorem uk (z:Array Value):∀ (n:Nat),(((abx (n * z.size)).map fun i=>z[i % z.size]!)).toList=(aar n z.toList).flatten
 |0=>by simp
 |n+1=>by
  have ih:=uk z n;simp only [Array.toList_map,Array.toList_range] at ih ⊢;rw [abK,Nat.one_mul,List.range_add,List.map_append,ih,List.replicate_succ',List.flatten_append];congr 1;simp only [List.map_map,List.flatten_cons,List.flatten_nil,List.append_nil];apply List.ext_getElem?;intro i;by_cases hi:i < z.size
  ·simp only [List.getElem?_map,List.getElem?_range hi,abJ,Function.comp_apply];rw [Nat.mul_comm n,Nat.mul_add_mod,Nat.mod_eq_of_lt hi];simp [hi]
  ·rw [acJ (by simp; omega),acJ (by simp; omega)]
theorem rI {z:AV} {c:Value} (hr:Rel R w z c) (hn:z.ba=true):∀ (n:Nat),aQ R w (aE (aar n z)) (aar n c.cells.toList).flatten∧∀ v∈(aar n c.cells.toList).flatten,v.oneCell'=true
 |0=>by simp [aE]; exact .nil
 |n+1=>by
  obtain ⟨c1,c2⟩:=Rel.cells hr hn;obtain ⟨h1,h2⟩:=rI hr hn n;refine ⟨?_,fun v hv=>?_⟩
  ·simpa [acU,aE] using c1.append h1
  ·simp only [acU,List.flatten_cons,List.mem_append] at hv;rcases hv with hv|hv
   ·exact c2 v hv
   ·exact h2 v hv
theorem Aa:∀ {ps:List (Nat × AV)} {us:List Value},aQ R w (ps.map (·.2)) us→aQ R w ((Fx ps).map (·.2)) us
 |[],_,h=>h
 |(_,_) :: _,_,.cons h t=>.cons h.jB (Aa t)
theorem Ab:∀ (ps:List (Nat × AV)),(Fx ps).map (·.1)=ps.map (·.1)
 |[]=>rfl
 |(i,v) :: l=>by simp [Fx,Ab l]
theorem lJ (h:bi E R w β s a) (t:TypeId) (len:Nat) (parts:Array (Nat × Operand)) (ho:o.op=.buildSlice t len parts) {v:AV} (hv:cV E s t len parts.toList=some v) :
  ∃ es esz us elem,v=.list .full esz es∧(execOp a.eval o).run E.P w=.ok (.value (.slice (some ⟨w.heap.size,0,none⟩) len len)) (w.alloc (.cells ⟨us⟩ elem))∧jF esz es∧es.length=len∧aQ R w (aE es) us∧(∀ x∈us,x.oneCell'=true)∧∃ i ag sE z,E.ti t=some i∧i.k=.sl elem esz ag sE z:=by
 unfold cV at hv;split at hv
 ·rename_i i ps hi QP;split at hv
  ·rename_i elem esz ag sE z hk;split at hv
   ·rename_i hc;simp only [abr] at hc;obtain ⟨⟨⟨⟨Lr,hz2⟩,hz3⟩,hz4⟩,hz5⟩:=hc;have Lr:=aaG Lr;have hz2:=abp hz2;have hz3:=abp hz3;split at hv
    ·rename_i es E2;cases hv;obtain ⟨kr,u,e1,e2,e3,e4,e5,e6⟩:=dR E hi;rw [hk] at e5;obtain ⟨ie,ue,rfl,f1,f2,f3,f4,f5,f6⟩:=fT e5;obtain ⟨zc,sU,Im⟩:=eT f6;have Yp:=Im R w;obtain ⟨c1,c2⟩:=Rel.cells Yp hz4;have wg:zc.cells.size=esz:=by rw [← Lr,c1.length]; simp
     obtain ⟨p1,p2⟩:=B4 h QP;obtain ⟨z1,z2⟩:=rI Yp hz4 len;obtain ⟨g1,g2,g3⟩:=A5 E2 (gu Lr hz4 hz5);obtain ⟨us,u1,u2,u3⟩:=uj (R:=R) (w:=w) _ (Aa p1) ((Ab ps).trans p2) z1 z2 g1;have ZW:(parts.map fun (x:Nat × Operand)=>(x.1,a.eval x.2)).toList=parts.toList.map fun x=>(x.1,a.eval x.2):=by simp
     have om:((abx (len * esz)).map fun i=>zc.cells[i % zc.cells.size]!)=⟨(aar len zc.cells.toList).flatten⟩:=by
      apply abR;rw [← wg];exact uk zc.cells len
     have hlen:es.length=len:=by simpa using g3
     have bL:(abu t len (parts.map fun (x:Nat × Operand)=>(x.1,a.eval x.2))).run E.P w=.ok (.slice (some ⟨w.heap.size,0,none⟩) len len) (w.alloc (.cells ⟨us⟩ elem)):=by
      have UI:¬ len * esz > 2 ^ 24:=by omega
      by_cases h0:len * esz=0
      ·have Ac:len=0:=by
        rcases acC.1 h0 with h0|h0 <;> omega
       subst Ac;have u1':Instr.fill (fun i=>some (i * esz,esz)) #[] (parts.toList.map fun x=>(x.1,a.eval x.2))=some ⟨us⟩:=by simpa using u1
       simp only [abu,aag,run_underlying e2,aaa,run_sizeOf w f1,f2];simp only [acX,gt_iff_lt,Nat.not_lt_zero,if_false,if_true,aag,aah,aaa,ZW];have IH:∀ f:Nat→Value,Array.map f (abx 0)=#[]:=fun f=>by simp
       simp only [IH,u1',newRow,aag,run_newObj,aaa,aah];rfl
      ·simp only [abu,aag,run_underlying e2,aaa,run_sizeOf w f1,f2];rw [if_neg UI,if_neg h0];simp only [aag,aah,aaa,ks w f1 sU,ZW,om,u1,newRow,run_newObj];rfl
     exact ⟨es,esz,us,elem,rfl,by simp only [execOp,ho,aag,bL,aaa,aah],g2,hlen,u2,u3,i,ag,sE,_,hi,hk⟩
    ·cases hv
   ·cases hv
  ·cases hv
 ·cases hv
theorem BE (h:bi E R w β s a) (t:TypeId) (len:Nat) (parts:Array (Nat × Operand)) (ho:o.op=.buildSlice t len parts) {cs:List AV} (hv:og E s t len parts.toList=some cs) :
  ∃ esz us elem,(execOp a.eval o).run E.P w=.ok (.value (.slice (some ⟨w.heap.size,0,none⟩) len len)) (w.alloc (.cells ⟨us⟩ elem))∧aQ R w cs us∧(∀ x∈us,x.oneCell'=true)∧∃ i ag sE z,E.ti t=some i∧i.k=.sl elem esz ag sE z:=by
 unfold og at hv;split at hv
 ·rename_i i ps hi QP;split at hv
  ·rename_i elem esz ag sE z hk;split at hv
   ·rename_i hc;simp only [abr] at hc;obtain ⟨⟨⟨Lr,hz2⟩,hz3⟩,hz4⟩:=hc;have Lr:=aaG Lr;have hz2:=abp hz2;have hz3:=abp hz3
    ·have g1:=hv;obtain ⟨kr,u,e1,e2,e3,e4,e5,e6⟩:=dR E hi;rw [hk] at e5;obtain ⟨ie,ue,rfl,f1,f2,f3,f4,f5,f6⟩:=fT e5;obtain ⟨zc,sU,Im⟩:=eT f6;have Yp:=Im R w;obtain ⟨c1,c2⟩:=Rel.cells Yp hz4;have wg:zc.cells.size=esz:=by rw [← Lr,c1.length]; simp
     obtain ⟨p1,p2⟩:=B4 h QP;obtain ⟨z1,z2⟩:=rI Yp hz4 len;obtain ⟨us,u1,u2,u3⟩:=uj (R:=R) (w:=w) _ (Aa p1) ((Ab ps).trans p2) z1 z2 g1;have ZW:(parts.map fun (x:Nat × Operand)=>(x.1,a.eval x.2)).toList=parts.toList.map fun x=>(x.1,a.eval x.2):=by simp
     have om:((abx (len * esz)).map fun i=>zc.cells[i % zc.cells.size]!)=⟨(aar len zc.cells.toList).flatten⟩:=by
      apply abR;rw [← wg];exact uk zc.cells len
     have bL:(abu t len (parts.map fun (x:Nat × Operand)=>(x.1,a.eval x.2))).run E.P w=.ok (.slice (some ⟨w.heap.size,0,none⟩) len len) (w.alloc (.cells ⟨us⟩ elem)):=by
      have UI:¬ len * esz > 2 ^ 24:=by omega
      by_cases h0:len * esz=0
      ·have Ac:len=0:=by
        rcases acC.1 h0 with h0|h0 <;> omega
       subst Ac;have u1':Instr.fill (fun i=>some (i * esz,esz)) #[] (parts.toList.map fun x=>(x.1,a.eval x.2))=some ⟨us⟩:=by simpa using u1
       simp only [abu,aag,run_underlying e2,aaa,run_sizeOf w f1,f2];simp only [acX,gt_iff_lt,Nat.not_lt_zero,if_false,if_true,aag,aah,aaa,ZW];have IH:∀ f:Nat→Value,Array.map f (abx 0)=#[]:=fun f=>by simp
       simp only [IH,u1',newRow,aag,run_newObj,aaa,aah];rfl
      ·simp only [abu,aag,run_underlying e2,aaa,run_sizeOf w f1,f2];rw [if_neg UI,if_neg h0];simp only [aag,aah,aaa,ks w f1 sU,ZW,om,u1,newRow,run_newObj];rfl
     exact ⟨esz,us,elem,by simp only [execOp,ho,aag,bL,aaa,aah],u2,u3,i,ag,sE,_,hi,hk⟩
   ·cases hv
  ·cases hv
 ·cases hv
theorem BF (h:bi E R w β s a) (t:TypeId) (len:Nat) (parts:Array (Nat × Operand)) (ho:o.op=.buildSlice t len parts) {v:AV} (hv:cV E s t len parts.toList=some v) :
  cq E R w β s a o (s.put o.dst (.v v)):=by
 obtain ⟨es,esz,us,elem,rfl,bL,g2,hlen,u2,u3,_⟩:=lJ h t len parts ho hv;have e:=G8 (R:=R) (w:=w) h.g.wf (.cells ⟨us⟩ elem);refine ⟨_,.slice (some ⟨w.heap.size,0,none⟩) len len,_,R.imm w.heap.size,β,bL,.inl rfl,(h.imm (.cells ⟨us⟩ elem)).put o.dst ?_,by rw [bn]; exact Ru h _⟩;refine Rel.list (oJ g2 (ik.make (u2.mono e) u3 (fun j x hx=>?_) (fun j _=>.inr rfl))) hlen.symm (aak _) rfl;rw [rD (heap_alloc_new w _)];simpa using hx
theorem Ad (h:bi E R w β s a) (t:TypeId) (len:Nat) (parts:Array (Nat × Operand)) (ho:o.op=.buildSlice t len parts) {cs:List AV} (hv:og E s t len parts.toList=some cs) {i:TI} (hi:E.ti t=some i) {el:TypeId} {esz eb:Nat} {ag:Bool} {z:Option AV} (hk:i.k=.sl el esz ag eb z) :
  cq E R w β s a o ((s.fL (.row cs el)).put o.dst (.v (.ob s.G.length 0 esz len len))):=by
 obtain ⟨ZX,us,elem,bL,u2,u3,i',ag',by',z',sQ,ly⟩:=BE h t len parts ho hv;rw [hi] at sQ;cases sQ;rw [hk] at ly;cases ly;have e:=jY (R:=R) (w:=w) h.g.wf (.cells ⟨us⟩ el) (.bZ w.heap.size);have kp:jW (R.add (.bZ w.heap.size)) (w.alloc (.cells ⟨us⟩ el)) (.row cs el) (.bZ w.heap.size):=
  ⟨_,heap_alloc_new w _,u2.mono e,u3,fun o' hi=>by have:=h.g.wf _ _ hi; omega⟩
 exact ⟨_,_,_,R.add (.bZ w.heap.size),β,bL,.inl rfl,(h.oU _ _ _ (by exact fun _ h=>h) kp).put o.dst (x:=.v (.ob s.G.length 0 esz len len)) (Rel.ob (jy h _) (aak _)),by rw [bn]; exact eF h _ _ (by exact fun _ h=>h)⟩
theorem Ae (h:bi E R w β s a) (t:TypeId) (len:Nat) (parts:Array (Nat × Operand)) (ho:o.op=.buildSlice t len parts) {k:LK} {esz:Nat} {es:List AV} (hv:cV E s t len parts.toList=some (.list k esz es)) {i:TI} (hi:E.ti t=some i) {el:TypeId} {bP eb:Nat} {ag:Bool} {z:Option AV} (hk:i.k=.sl el bP ag eb z) :
  cq E R w β s a o ((s.fL (.row (aE es) el)).put o.dst (.v (.ob s.G.length 0 esz len len))):=by
 obtain ⟨es',ZX,us,elem,hve,bL,g2,hlen,u2,u3,i',ag',by',z',sQ,ly⟩:=lJ h t len parts ho hv;cases hve;rw [hi] at sQ;cases sQ;rw [hk] at ly;cases ly;have e:=jY (R:=R) (w:=w) h.g.wf (.cells ⟨us⟩ el) (.bZ w.heap.size);have kp:jW (R.add (.bZ w.heap.size)) (w.alloc (.cells ⟨us⟩ el)) (.row (aE es) el) (.bZ w.heap.size):=
  ⟨_,heap_alloc_new w _,u2.mono e,u3,fun o' hi=>by have:=h.g.wf _ _ hi; omega⟩
 exact ⟨_,_,_,R.add (.bZ w.heap.size),β,bL,.inl rfl,(h.oU _ _ _ (by exact fun _ h=>h) kp).put o.dst (x:=.v (.ob s.G.length 0 esz len len)) (Rel.ob (jy h _) (aak _)),by rw [bn]; exact eF h _ _ (by exact fun _ h=>h)⟩
end ops
end Go.Am
namespace Go.Am
open Go
section ops
variable {E:Env} {R:aj} {w:World} {β:Nat→Nat} {s:St} {a:Act} {o:Oper}
def ZY (R:aj) (w:World) (β:Nat→Nat):Option SV→Option Value→Prop
 |none,none=>True
 |some x,some c=>tR R w β x c
 |_,_=>False
theorem FL {y y' n:Nat} {x:SV} {c:Value} (hx:tR R w β x c) (hb:Cz y x=some (true,n)) (hy:y≤y') (code:BoundsCode) :
  (abS c y' code).run E.P w=.ok n w∧n≤y:=by
 unfold Cz at hb;split at hb
 ·rename_i k m;injection hb with hb;injection hb with h1 h2;subst h2;obtain ⟨h0,h3⟩:=of_decide_eq_true h1;have zM:Rel R w (.int k m) c:=hx;cases zM;exact ⟨run_sliceBound (P:=E.P) w k m y' code h0 (by omega),by omega⟩
 ·cases hb
theorem fX (isS:Bool) {len cap l h:Nat} (IG:len≤cap) {lo hi:Option SV} {lv hv:Option Value} (hl:ZY R w β lo lv) (hh:ZY R w β hi hv) (hb:GX len lo hi=some (true,l,h)) :
  (Instr.sliceBounds isS len cap lv hv none).run E.P w=.ok (l,h,cap) w∧l≤h∧h≤len:=by
 unfold GX at hb;split at hb
 ·cases hb
 ·rename_i c1 h' oK;split at hb
  ·cases hb
  ·rename_i c2 l' ZZ;injection hb with hb;injection hb with hc hb;injection hb with e1 e2;subst e1; subst e2;simp only [abr] at hc;obtain ⟨rfl,rfl⟩:=hc;have H:∃ _:True,(match hv with | some v=>abS v cap (if isS=true then .sliceAcap else .sliceAlen) | none=>pure len).run E.P w=.ok h' w∧h'≤len:=by
    refine ⟨trivial,?_⟩;cases hi with
    |none=>cases hv with
     |none=>simp at oK; subst oK; exact ⟨rfl,aak _⟩
     |some v=>exact hh.elim
    |some x=>cases hv with
     |none=>exact hh.elim
     |some v=>exact FL (E:=E) hh oK IG _
   have L:∃ _:True,(match lv with | some v=>abS v h' .sliceB | none=>pure 0).run E.P w=.ok l' w∧l'≤h':=by
    refine ⟨trivial,?_⟩;cases lo with
    |none=>cases lv with
     |none=>simp at ZZ; subst ZZ; exact ⟨rfl,Nat.zero_le _⟩
     |some v=>exact hl.elim
    |some x=>cases lv with
     |none=>exact hl.elim
     |some v=>exact FL (E:=E) hl ZZ (aak _) _
   obtain ⟨_,H1,H2⟩:=H;obtain ⟨_,L1,L2⟩:=L;refine ⟨?_,L2,H2⟩;cases hv <;> cases lv <;> simp_all [Instr.sliceBounds]
theorem xY (h:bi E R w β s a) {x:Option Operand} {y:Option SV} (hx:pZ E s.ab x=some y):ZY R w β y (x.map a.eval):=by
 cases x with
 |none=>simp [pZ] at hx; subst hx; trivial
 |some x=>simp [pZ] at hx; subst hx; exact a6 h x
theorem um {α:Type} {l:List α} {lo hi:Nat} (h:hi≤l.length):(qH lo hi l).length=hi - lo:=by
 simp [qH];omega
theorem E8 (l:List UInt8) (lo hi:Nat):(⟨⟨l⟩⟩:ByteArray).extract lo hi=⟨⟨qH lo hi l⟩⟩:=by
 apply ByteArray.ext;rw [ByteArray.data_extract];apply abR;simp [List.extract_eq_take_drop,qH,List.drop_take]
theorem NG {ag:Bool} {b sz:Nat} (gJ:(ag || Nat.beq sz 1)=true):∀ (n:Nat) {cs:List AV} {o:Nat},ik R w b o cs→n * sz≤cs.length→allFit (K8 ag) (kJ ag sz n cs)=true→kn R w b o sz (kJ ag sz n cs)
 |0,_,_,_,_,_=>.nil
 |n+1,cs,o,hc,hl,hf=>by
  simp only [kJ,allFit,abr] at hf;obtain ⟨G9,hf2⟩:=hf;unfold K8 at G9;simp only [abr] at G9;obtain ⟨⟨h1,h2⟩,h3⟩:=G9;have hle:sz≤cs.length:=by rw [abA] at hl; omega
  have qL:(mkD ag (cs.take sz)).cells=cs.take sz:=by
   cases ag with
   |true=>rfl
   |false=>
    have Rp:sz=1:=by simpa using gJ
    subst Rp
    match cs,hle with
    |a :: cs,_=>
     show AV.cells a=[a];have ho:a.one=true:=by simpa [mkD,gr] using h2
     cases a <;> first | rfl | simp [AV.one] at ho
  obtain ⟨vs,k1,k2,k3,k4⟩:=hc.get;have hA:ik R w b o (cs.take sz):=ik.make (k1.take sz) (fun v hv=>k2 v (acR hv)) (fun j v hv=>k3 j v (by
   rw [abN] at hv;split at hv
   ·exact hv
   ·cases hv)) (fun j hj=>k4 j (by rw [List.length_take] at hj; omega))
  exact .cons (by rw [qL,List.length_take,Nat.min_eq_left hle]) h1 h3 (by rw [qL]; exact hA) (NG gJ n (hc.drop sz) (by rw [List.length_drop]; rw [abA] at hl; omega) hf2)
theorem wx (ag:Bool) (sz:Nat):∀ (n:Nat) (cs:List AV),(kJ ag sz n cs).length=n
 |0,_=>rfl
 |n+1,cs=>by simp [kJ,wx ag sz n]
theorem Ls (h:bi E R w β s a) (t:TypeId) (x:Operand) (lo hi:Option Operand) (ho:o.op=.slice t x lo hi none) {l h':Option SV} (hl:pZ E s.ab lo=some l) (hh:pZ E s.ab hi=some h') {v:AV} (hv:GY E t (bO E s.ab x) l h' none=some (true,v)) :
  cq E R w β s a o (s.put o.dst (.v v)):=by
 have rx:=a6 h x;have rl:=xY h hl;have rh:=xY h hh;unfold GY at hv;split at hv
 ·rename_i i sQ hmx;obtain ⟨kr,u,e1,e2,e3,e4,e5,e6⟩:=dR E sQ;split at hv
  ·-- a string
   rename_i bs hk hx;rw [hx] at rx;have fK:Rel R w (.str bs) (a.eval x):=rx;generalize jc:a.eval x=xv at fK;cases fK;rw [hk] at e5;have:=ui e5;subst this;split at hv
   ·rename_i c p q hb;injection hv with hv;injection hv with h1 h2;subst h1; subst h2;obtain ⟨k1,k2,k3⟩:=fX (E:=E) false (aak _) rl rh hb;refine ay h (c:=.string ⟨⟨qH p q bs⟩⟩) ?_ (Rel.str _);rw [← E8];simp only [execOp,ho,aaN,aag,run_underlying e2,aaa,abt,jc,aaq,Option.isSome_none,Bool.false_eq_true,if_false,size_bytes,k1,aah]
   ·cases hv
  ·-- a list
   rename_i elem esz ag sE z k sz es hk hx;rw [hx] at rx;rw [hk] at e5;obtain ⟨ie,ue,rfl,f1,f2,f3,f4,f5,f6⟩:=fT e5;split at hv
   ·rename_i gJ;split at hv
    ·rename_i c p q hb;injection hv with hv;injection hv with h1 h2;subst h1; subst h2;have fK:Rel R w (.list k sz es) (a.eval x):=rx;generalize jc:a.eval x=xv at fK;cases fK with
     |lY=>
      obtain ⟨k1,k2,k3⟩:=fX (E:=E) true (aak _) rl rh hb;simp only [aaF,abv] at k3;subst k3;have:p=0:=by omega
      subst this;refine ay h (c:=.slice none 0 0) ?_ ?_
      ·simp only [execOp,ho,aaN,aag,run_underlying e2,aaa,abt,jc,aaq];simp only [aaF] at k1;simp [k1,run_sizeOf w f1]
      ·exact Rel.lY
     |lZ=>
      obtain ⟨k1,k2,k3⟩:=fX (E:=E) true (aak _) rl rh hb;simp only [aaF,abv] at k3;subst k3;have:p=0:=by omega
      subst this;refine ay h (c:=.slice none 0 0) ?_ ?_
      ·simp only [execOp,ho,aaN,aag,run_underlying e2,aaa,abt,jc,aaq];simp only [aaF] at k1;simp [k1,run_sizeOf w f1]
      ·exact Rel.lZ
     | @rv _ ad=>
      obtain ⟨k1,k2,k3⟩:=fX (E:=E) true (aak _) rl rh hb;simp only [aaF,abv] at k3;subst k3;have:p=0:=by omega
      subst this;refine ay h (c:=.slice (some ad) 0 0) ?_ ?_
      ·simp only [execOp,ho,aaN,aag,run_underlying e2,aaa,abt,jc,aaq];simp only [aaF] at k1;simp [k1,run_sizeOf w f1]
      ·exact Rel.rv
     |qJ h0 h00=>
      obtain ⟨k1,k2,k3⟩:=fX (E:=E) true (aak _) rl rh hb;simp only [aaF,abv] at k3;subst k3;have:p=0:=by omega
      subst this;refine ay h (c:=.slice none 0 0) ?_ ?_
      ·simp only [execOp,ho,aaN,aag,run_underlying e2,aaa,abt,jc,aaq];simp only [aaF] at k1;simp [k1,run_sizeOf w f1]
      ·exact Rel.lZ
     |qa h0 h00=>
      obtain ⟨k1,k2,k3⟩:=fX (E:=E) true (aak _) rl rh hb;simp only [aaF,abv] at k3;subst k3;have:p=0:=by omega
      subst this;refine ay h (c:=.slice none 0 0) ?_ ?_
      ·simp only [execOp,ho,aaN,aag,run_underlying e2,aaa,abt,jc,aaq];simp only [aaF] at k1;simp [k1,run_sizeOf w f1]
      ·exact Rel.lZ
     | @list _ _ _ b o' len cap hr hlen jZ Ll=>
      subst hlen;obtain ⟨k1,k2,k3⟩:=fX (E:=E) true jZ rl rh hb;have aev:es≠[]→sz=esz:=fun df=>by
       simp only [Bool.or_eq_true] at gJ;rcases gJ with hc|hc
       ·exact aaG hc
       ·simp at hc; exact absurd hc df
      have bL:(execOp a.eval o).run E.P w=.ok (.value (.slice (if cap=p then some ⟨b,o',none⟩ else some ⟨b,o'+p * esz,none⟩) (q - p) (cap - p))) w:=by
       simp only [execOp,ho,aaN,aag,run_underlying e2,aaa,abt,jc,aaq,k1,run_sizeOf w f1,f2,aah,abJ,de]
      have A6:∀ b2 o2,GZ R (match k with | .nil=>LK.nil | .full=>(match h' with | none=>LK.full | some _=>LK.iu) | _=>LK.iu) b2 o2 (q - p) (cap - p):=by
       intro b2 o2;cases k with
       |nil=>exact Ll.elim
       |iu=>trivial
       |own id=>trivial
       |aY id j=>trivial
       |full=>
        have hc:cap=es.length:=Ll;cases h' with
        |some _=>trivial
        |none=>
         have hq:q=es.length:=by
          unfold GX at hb;simp only at hb;split at hb
          ·cases hb
          ·injection hb with hb;injection hb with _ hb;injection hb with _ hb;exact hb.symm
         show cap - p=q - p;omega
      by_cases Vf:cap=p
      ·refine ay h (c:=.slice (some ⟨b,o',none⟩) (q - p) (cap - p)) (by rw [bL,if_pos Vf]) ?_;have he:qH p q es=[]:=List.eq_nil_of_length_eq_zero (by rw [um k3]; omega);exact Rel.list (by rw [he]; exact .nil) (by rw [um k3]) (by omega) (A6 _ _)
      ·refine ay h (c:=.slice (some ⟨b,o'+p * esz,none⟩) (q - p) (cap - p)) (by rw [bL,if_neg Vf]) ?_;refine Rel.list ?_ (by rw [um k3]) (by omega) (A6 _ _);by_cases df:es=[]
       ·subst df;simp [qH];exact .nil
       ·have:=aev df;subst this;exact zY p (zZ q hr)
    ·cases hv
   ·cases hv
  ·-- a heap slice
   rename_i elem esz ag sE z id off sz len cap hk hx;rw [hx] at rx;rw [hk] at e5;obtain ⟨ie,ue,rfl,f1,f2,f3,f4,f5,f6⟩:=fT e5;split at hv
   ·rename_i gJ;have gJ:=aaG gJ;subst gJ;split at hv
    ·rename_i c p q hb;injection hv with hv;injection hv with h1 h2;subst h1; subst h2;have fK:Rel R w (.ob id off sz len cap) (a.eval x):=rx;generalize jc:a.eval x=xv at fK;cases fK with
     | @ob _ _ _ _ _ b hbk jZ=>
      obtain ⟨k1,k2,k3⟩:=fX (E:=E) true jZ rl rh hb;refine ay h (c:=.slice (some ⟨b,bif Nat.beq cap p then off else off+p * sz,none⟩) (q - p) (cap - p)) ?_ (Rel.ob hbk (by omega));have hb:(bif Nat.beq cap p then off else off+p * sz)=if cap=p then off else off+p * sz:=by
       by_cases e:cap=p
       ·rw [if_pos e,e,show Nat.beq p p=true from Nat.beq_refl p]; rfl
       ·rw [if_neg e];cases hq:Nat.beq cap p with
        |true=>exact absurd (aaG hq) e
        |false=>rfl
      rw [hb];simp only [execOp,ho,aaN,aag,run_underlying e2,aaa,abt,jc,aaq,k1,run_sizeOf w f1,f2,aah,abJ,de];split <;> rfl
    ·cases hv
   ·cases hv
  ·-- a slice that grows
   rename_i elem esz ag sE z id f' off sz len hk hx;rw [hx] at rx;rw [hk] at e5;obtain ⟨ie,ue,rfl,f1,f2,f3,f4,f5,f6⟩:=fT e5;split at hv
   ·rename_i gJ;have gJ:=aaG gJ;subst gJ;split at hv
    ·rename_i c p q hb;injection hv with hv;injection hv with h1 h2;subst h1; subst h2;have fK:Rel R w (.ey id f' off sz len) (a.eval x):=rx;generalize jc:a.eval x=xv at fK;cases fK with
     |mh h0 h00=>
      obtain ⟨k1,k2,k3⟩:=fX (E:=E) true (aak _) rl rh hb;simp only [abv] at k3;subst k3;have:p=0:=by omega
      subst this;refine ay h (c:=.slice none 0 0) ?_ ?_
      ·simp only [execOp,ho,aaN,aag,run_underlying e2,aaa,abt,jc,aaq];simp [k1,run_sizeOf w f1]
      ·exact Rel.mh h0 h00
     | @ey _ _ _ _ _ cap b o' ro bu fQ jZ=>
      obtain ⟨k1,k2,k3⟩:=fX (E:=E) true jZ rl rh hb;have bL:(execOp a.eval o).run E.P w=.ok (.value (.slice (if cap=p then some ⟨b,o',none⟩ else some ⟨b,o'+p * sz,none⟩) (q - p) (cap - p))) w:=by
       simp only [execOp,ho,aaN,aag,run_underlying e2,aaa,abt,jc,aaq,k1,run_sizeOf w f1,f2,aah,abJ,de]
      have hgs:∀ o2,(o2=o'+p * sz∨cap=p)→Pd b o2 f' (off+p) sz (cap - p) ro:=fun o2 h2=>by
       cases ro with
       |none=>trivial
       |bj=>exact fQ.elim
       |bZ _=>exact fQ.elim
       |aY _=>exact fQ.elim
       |tok f1 b1 c1=>
        refine ⟨fQ.1,fun e=>?_⟩;obtain ⟨q1,q2,q3⟩:=fQ.2 e;refine ⟨q1,by omega,?_⟩;rcases h2 with h2|h2
        ·rcases q3 with q3|q3
         ·exact .inl (by rw [h2,q3,abK])
         ·exact .inr (by omega)
        ·exact .inr (by omega)
      by_cases Vf:cap=p
      ·exact ay h (c:=.slice (some ⟨b,o',none⟩) (q - p) (cap - p)) (by rw [bL,if_pos Vf]) (Rel.ey bu (hgs _ (.inr Vf)) (by omega))
      ·exact ay h (c:=.slice (some ⟨b,o'+p * sz,none⟩) (q - p) (cap - p)) (by rw [bL,if_neg Vf]) (Rel.ey bu (hgs _ (.inl rfl)) (by omega))
    ·cases hv
   ·cases hv
  ·-- an array that never changes again
   rename_i len esz ag cs hk hx;rw [hx] at rx;rw [hk] at e5;obtain ⟨e,ie,ue,rfl,f1,f2,f3,f4⟩:=uh e5;split at hv
   ·split at hv
    ·rename_i dQ;simp only [abr] at dQ;obtain ⟨⟨⟨c1,c2⟩,c3⟩,c4⟩:=dQ;injection hv with hv;injection hv with _ h2;subst h2;have fK:Rel R w (.ep cs) (a.eval x):=rx;generalize jc:a.eval x=xv at fK;cases fK with
     | @ep _ b o' hr=>
     obtain ⟨k1,_,_⟩:=fX (E:=E) (w:=w) (R:=R) (β:=β) (l:=0) (h:=len) false (aak len) rl rh rfl;refine ay h (c:=.slice (some ⟨b,o',none⟩) len len) ?_ (Rel.list (NG c3 len hr (abp c1) c4) (wx _ _ _ _).symm (aak _) rfl);simp only [execOp,ho,aaN,aag,run_underlying e2,aaa,jc,Instr.sureAddr,aaq,k1,run_sizeOf w f1,f2,aah];by_cases Ac:len=0
     ·subst Ac;simp
     ·simp [Ac,de]
    ·cases hv
   ·cases hv
  ·cases hv
 ·cases hv
theorem Ha (h:bi E R w β s a) (t:TypeId) (ho:o.op=.makeMap t none):cq E R w β s a o ((s.fL (.map [])).put o.dst (.v (.map s.G.length))):=by
 have kp:jW (R.add (.bZ w.heap.size)) (w.alloc (.map #[] 0)) (.map []) (.bZ w.heap.size):=⟨#[],0,heap_alloc_new w _,trivial,rfl,fun i e he=>by simp at he⟩;refine ⟨_,.map (some w.heap.size),w.alloc (.map #[] 0),R.add (.bZ w.heap.size),β,?_,.inl rfl,(h.oU (.map #[] 0) (.map []) (.bZ w.heap.size) (by exact fun _ h=>h) kp).put o.dst (x:=.v (.map s.G.length)) (Rel.map (jy h _)),by rw [bn]; exact eF h _ _ (by exact fun _ h=>h)⟩;simp only [execOp,ho,Instr.makeMap,aaq,aag,run_newObj,aaa,aah];rfl
theorem qM (h:bi E R w β s a) (t:TypeId) (x y:Operand) (ho:o.op=.makeSlice t x y) {i:TI} (hi:E.ti t=some i) {k k':IntKind} {n m:Int} (hx:bO E s.ab x=.v (.int k n)) (hy:bO E s.ab y=.v (.int k' m))
  {elem esz sE:Nat} {ag:Bool} {z:AV} (hk:i.k=.sl elem esz ag sE (some z)) (hz:z.cells.length=esz) (Lr:1≤esz) (rH:z.ba=true) (hc:0≤n∧n≤m∧m≤140737488355328∧m * sE≤140737488355328) :
  ∃ us,aQ R w (aE (aar m.toNat z)) us∧(∀ v∈us,v.oneCell'=true)∧(execOp a.eval o).run E.P w=.ok (.value (.slice (some ⟨w.heap.size,0,none⟩) n.toNat m.toNat)) (w.alloc (.cells ⟨us⟩ elem)):=by
 have rx:=a6 h x;have ry:=a6 h y;rw [hx] at rx;rw [hy] at ry;have fK:Rel R w (.int k n) (a.eval x):=rx;have tW:Rel R w (.int k' m) (a.eval y):=ry;generalize jc:a.eval x=xv at fK;generalize hyv:a.eval y=yv at tW;cases fK;cases tW;obtain ⟨c1,c2,c3,c4⟩:=hc;obtain ⟨kr,u,e1,e2,e3,e4,e5,e6⟩:=dR E hi;rw [hk] at e5;obtain ⟨ie,ue,rfl,f1,f2,f3,f4,f5,f6⟩:=fT e5;obtain ⟨zc,sU,Im⟩:=eT f6;have Yp:=Im R w;obtain ⟨d1,d2⟩:=Rel.cells Yp rH;have wg:zc.cells.size=esz:=by rw [← hz,d1.length]; simp
 obtain ⟨z1,z2⟩:=rI Yp rH m.toNat;have om:((abx (m.toNat * esz)).map fun i=>zc.cells[i % zc.cells.size]!)=⟨(aar m.toNat zc.cells.toList).flatten⟩:=by
  apply abR;rw [← wg];exact uk zc.cells m.toNat
 have wn:IntKind.i64.wrap n=n:=IntWalk.i64_in n (by omega);have wm:IntKind.i64.wrap m=m:=IntWalk.i64_in m (by omega);have bL:(acD t (.int k n) (.int k' m)).run E.P w=.ok (.slice (some ⟨w.heap.size,0,none⟩) n.toNat m.toNat) (w.alloc (.cells ⟨(aar m.toNat zc.cells.toList).flatten⟩ elem)):=by
  have hby:(ie.bytes:Int) * m≤281474976710656:=by rw [f3,Int.mul_comm]; omega
  have aew:¬ 281474976710656 < (ie.bytes:Int) * m:=by omega
  have h1:¬ m < 0:=by omega
  have h2:¬ n < 0:=by omega
  have h3:¬ m < n:=by omega
  have QQ:(typeInfo elem).run E.P w=.ok ie w:=by simp [typeInfo,f1]
  by_cases h0:m.toNat * esz=0
  ·have hm0:m.toNat=0:=by
    rcases acC.1 h0 with h0|h0 <;> omega
   have IH:∀ f:Nat→Value,Array.map f (abx 0)=#[]:=fun f=>by simp
   simp [acD,run_underlying e2,asInt,asIntOf,QQ,wn,wm,h1,h2,h3,aew,run_sizeOf w f1,f2,hm0,newRow];rw [IH]
  ·simp [acD,run_underlying e2,asInt,asIntOf,QQ,wn,wm,h1,h2,h3,aew,run_sizeOf w f1,f2,h0,ks w f1 sU,newRow];rw [← om]
 refine ⟨_,z1,z2,?_⟩;simp only [execOp,ho,jc,hyv,aag,bL,aaa,aah]
theorem CM (h:bi E R w β s a) (t:TypeId) (x y:Operand) (ho:o.op=.makeSlice t x y) {i:TI} (hi:E.ti t=some i) {k k':IntKind} {n m:Int} (hx:bO E s.ab x=.v (.int k n)) (hy:bO E s.ab y=.v (.int k' m))
  {elem esz sE:Nat} {ag:Bool} {z:AV} (hk:i.k=.sl elem esz ag sE (some z)) (hz:z.cells.length=esz) (Lr:1≤esz) (rH:z.ba=true) (hc:0≤n∧n≤m∧m≤140737488355328∧m * sE≤140737488355328) :
  cq E R w β s a o ((s.fL (.row (aE (aar m.toNat z)) elem)).put o.dst (.v (.ob s.G.length 0 esz n.toNat m.toNat))):=by
 obtain ⟨us,z1,z2,bL⟩:=qM h t x y ho hi hx hy hk hz Lr rH hc;have e:=jY (R:=R) (w:=w) h.g.wf (.cells ⟨us⟩ elem) (.bZ w.heap.size);have kp:jW (R.add (.bZ w.heap.size)) (w.alloc (.cells ⟨us⟩ elem)) (.row (aE (aar m.toNat z)) elem) (.bZ w.heap.size):=
  ⟨_,heap_alloc_new w _,z1.mono e,z2,fun o' hi=>by have:=h.g.wf _ _ hi; omega⟩
 exact ⟨_,.slice (some ⟨w.heap.size,0,none⟩) n.toNat m.toNat,_,R.add (.bZ w.heap.size),β,bL,.inl rfl,(h.oU _ _ (.bZ w.heap.size) (by exact fun _ h=>h) kp).put o.dst (x:=.v (.ob s.G.length 0 esz n.toNat m.toNat)) (Rel.ob (jy h _) (by omega)),by rw [bn]; exact eF h _ _ (by exact fun _ h=>h)⟩
end ops
end Go.Am
namespace Go.Am
open Go
section ops
variable {E:Env} {R:aj} {w:World} {β:Nat→Nat} {s:St} {a:Act} {o:Oper}
theorem oV (x:Array Operand) (f:Operand→Value):x.map f=⟨x.toList.map f⟩:=abR (by simp)
theorem gX {b:Builtin} {args:Array Operand} {tys:Array TypeId} (ho:o.op=.call { callee:=.builtin b,args:=args,argTypes:=tys }) (vs:List Value) (hv:args.toList.map a.eval=vs) :
  (execOp a.eval o).run E.P w=(builtin b tys o.type (args.map fun | .const _=>true | _=>false) ⟨vs⟩).run E.P w:=by
 simp only [execOp,ho,resolve,aag,aah,aaa,invoke,oV args a.eval,hv];rfl
theorem fS.length:∀ {l:List (AV × AV)} {es:List MapEntry},fS R w l es→l.length=es.length
 |[],[],_=>rfl
 |_ :: _,_ :: _,h=>by simp [fS.length h.2.2]
 |[],_ :: _,h=>h.elim
 |_ :: _,[],h=>h.elim
theorem Rv (h:bi E R w β s a) {args:Array Operand} {tys:List TypeId} (ho:o.op=.call { callee:=.builtin .len,args:=args,argTypes:=⟨tys⟩ }) {l:List AV} (hl:rk E s.ab args.toList=some l) {s':St} (hs:dG E s o.dst .len l tys=some (true,s')) :
  cq E R w β s a o s':=by
 have hr:=j3 h hl;generalize hv:args.toList.map a.eval=vs at hr;have hx:=gX (E:=E) (w:=w) ho vs hv;unfold dG at hs;split at hs <;> first | (rename_i h1; cases h1; done) | skip
 ·rename_i x;cases hr with
  |cons h0 h1=>
  cases h1;split at hs
  ·rename_i t tl;split at hs
   ·rename_i i hi;obtain ⟨kr,u,e1,e2,e3,e4,e5,e6⟩:=dR E hi;split at hs
    ·rename_i bs hk;cases hs;cases h0;rw [hk] at e5;have:=ui e5;subst this;refine ay h (c:=.int .i64 bs.length) ?_ (Rel.int _ _);rw [hx];simp [builtin,aas,run_underlying e2,goInt,size_bytes]
    ·rename_i kk sz es hk;cases hs;rw [hk] at e5;obtain ⟨ie,ue,rfl,_⟩:=fT e5;refine ay h (c:=.int .i64 es.length) ?_ (Rel.int _ _);rw [hx];cases h0 with
     |lY=>simp [builtin,aas,run_underlying e2,goInt]
     |lZ=>simp [builtin,aas,run_underlying e2,goInt]
     |rv=>simp [builtin,aas,run_underlying e2,goInt]
     |qJ=>simp [builtin,aas,run_underlying e2,goInt]
     |qa=>simp [builtin,aas,run_underlying e2,goInt]
     |list _ hlen _ _=>subst hlen; simp [builtin,aas,run_underlying e2,goInt]
    ·rename_i id off sz len cap hk;cases hs;rw [hk] at e5;obtain ⟨ie,ue,rfl,_⟩:=fT e5;refine ay h (c:=.int .i64 len) ?_ (Rel.int _ _);rw [hx];cases h0;simp [builtin,aas,run_underlying e2,goInt]
    ·rename_i id f' off sz len hk;cases hs;rw [hk] at e5;obtain ⟨ie,ue,rfl,_⟩:=fT e5;refine ay h (c:=.int .i64 len) ?_ (Rel.int _ _);rw [hx];cases h0 <;> simp [builtin,aas,run_underlying e2,goInt]
    ·rename_i id j' sz len hk;cases hs;rw [hk] at e5;obtain ⟨ie,ue,rfl,_⟩:=fT e5;refine ay h (c:=.int .i64 len) ?_ (Rel.int _ _);rw [hx];cases h0 <;> simp [builtin,aas,run_underlying e2,goInt]
    ·rename_i n esz ag hk;cases hs;rw [hk] at e5;obtain ⟨e,ie,ue,rfl,_⟩:=uh e5;refine ay h (c:=.int .i64 n) ?_ (Rel.int _ _);rw [hx];simp [builtin,aas,run_underlying e2,goInt]
    ·rename_i hk;cases hs;rw [hk] at e5;obtain ⟨rfl,_⟩:=rF e5;refine ay h (c:=.int .i64 0) ?_ (Rel.int _ _);rw [hx];cases h0;simp [builtin,aas,run_underlying e2,goInt]
    ·rename_i id hk;split at hs
     ·rename_i es hg;cases hs;rw [hk] at e5;obtain ⟨rfl,_⟩:=rF e5;cases h0 with
      | @map _ b hb=>
      obtain ⟨aL,clock,g1,g2,g3⟩:=h.g.obj id _ _ hg hb;refine ay h (c:=.int .i64 es.length) ?_ (Rel.int _ _);rw [hx];have kp:(getObj b).run E.P w=.ok (.map aL clock) w:=by simp [getObj,Sem.run,g1]
      simp [builtin,aas,run_underlying e2,goInt,kp,g2.length]
     ·cases hs
    ·cases hs
   ·cases hs
  ·cases hs
 ·cases hs
theorem NH {b:Bool}:∀ {l:List AV} {x v:AV} {c:Value} {cs:List Value},Rel R w x c→aQ R w l cs→Pb x l=some v→∃ c',(cs.foldlM Builtin.max2 c).run E.P w=.ok c' w∧Rel R w v c'
 |[],x,v,c,cs,hr,hl,hv=>by
  cases hl;simp only [Pb] at hv;cases hv;exact ⟨c,rfl,hr⟩
 |y :: l,x,v,c,cs,hr,hl,hv=>by
  cases hl with
  |cons hy hl=>
  unfold Pb at hv;split at hv
  ·rename_i oK; cases oK
  ·rename_i k n k' m l' oK;cases oK;split at hv
   ·rename_i hk;subst hk;cases hr;cases hy;obtain ⟨c',h1,h2⟩:=NH (b:=b) (Rel.int k (if m > n then m else n)) hl hv;refine ⟨c',?_,h2⟩;simp only [abY,aag,Builtin.max2,aah,aaa];exact h1
   ·cases hv
  ·cases hv
theorem Hb {b:Bool}:∀ {l:List AV} {x v:AV} {c:Value} {cs:List Value},Rel R w x c→aQ R w l cs→La x l=some v→∃ c',(cs.foldlM acy c).run E.P w=.ok c' w∧Rel R w v c'
 |[],x,v,c,cs,hr,hl,hv=>by
  cases hl;simp only [La] at hv;cases hv;exact ⟨c,rfl,hr⟩
 |y :: l,x,v,c,cs,hr,hl,hv=>by
  cases hl with
  |cons hy hl=>
  unfold La at hv;split at hv
  ·rename_i oK; cases oK
  ·rename_i k n k' m l' oK;cases oK;split at hv
   ·rename_i hk;subst hk;cases hr;cases hy;obtain ⟨c',h1,h2⟩:=Hb (b:=b) (Rel.int k (if m < n then m else n)) hl hv;refine ⟨c',?_,h2⟩;simp only [abY,aag,acy,aah,aaa];exact h1
   ·cases hv
  ·rename_i n m l' oK;cases oK;cases hr;cases hy;obtain ⟨c',h1,h2⟩:=Hb (b:=b) (Rel.str (bif ac0 n m || n == m then n else m)) hl hv;refine ⟨c',?_,h2⟩;have e:(acy (.string ⟨⟨n⟩⟩) (.string ⟨⟨m⟩⟩)).run E.P w=.ok (.string ⟨⟨bif ac0 n m || n == m then n else m⟩⟩) w:=by
    simp only [acy,Op.stringOp,aag,aah,aaa];show Result.andThen ((asBool _).run E.P w) _=_;cases hb:(ac0 n m || n == m) <;> simp_all [asBool]
   simp only [abY,aag,e,aaa];exact h1
  ·cases hv
theorem Rw (h:bi E R w β s a) {args:Array Operand} {tys:Array TypeId} (ho:o.op=.call { callee:=.builtin .max,args:=args,argTypes:=tys }) {x v:AV} {l:List AV} (hl:rk E s.ab args.toList=some (x :: l)) (hm:Pb x l=some v) :
  cq E R w β s a o (s.put o.dst (.v v)):=by
 have hr:=j3 h hl;generalize hv:args.toList.map a.eval=vs at hr;have hx:=gX (E:=E) (w:=w) ho vs hv;cases hr with
 |cons h0 h1=>
 obtain ⟨c',k1,k2⟩:=NH (E:=E) (b:=true) h0 h1 hm;refine ay h (c:=c') ?_ k2;rw [hx];simp [builtin,Builtin.max_,k1]
theorem Rx (h:bi E R w β s a) {args:Array Operand} {tys:Array TypeId} (ho:o.op=.call { callee:=.builtin .min,args:=args,argTypes:=tys }) {x v:AV} {l:List AV} (hl:rk E s.ab args.toList=some (x :: l)) (hm:La x l=some v) :
  cq E R w β s a o (s.put o.dst (.v v)):=by
 have hr:=j3 h hl;generalize hv:args.toList.map a.eval=vs at hr;have hx:=gX (E:=E) (w:=w) ho vs hv;cases hr with
 |cons h0 h1=>
 obtain ⟨c',k1,k2⟩:=Hb (E:=E) (b:=true) h0 h1 hm;refine ay h (c:=c') ?_ k2;rw [hx];simp [builtin,Builtin.min_,k1]
end ops
end Go.Am
namespace Go.Am
open Go
section ops
variable {E:Env} {R:aj} {w:World} {β:Nat→Nat} {s:St} {a:Act} {o:Oper}
def aj.upto (R:aj) (g n:Nat) (obj:List RO):aj:=⟨fun b o=>R.I b o∨(b=g∧o < n),obj⟩
theorem aw {l:List RO} {id i:Nat} {x r y:RO} (amM:nth l id=some y) (h:nth (aC l id x) i=some r):(i=id∧r=x)∨(i≠id∧nth l i=some r):=by
 rcases cJ h with ⟨rfl,rfl,_⟩|⟨df,h⟩
 ·exact .inl ⟨rfl,rfl⟩
 ·exact .inr ⟨acP df,h⟩
theorem Lt (wf:∀ b o,R.I b o→b < w.heap.size) (x:Obj) (n:Nat) (ro:RO):Ext R w (R.upto w.heap.size n (R.obj++[ro])) (w.drew.alloc x):=
 ⟨fun _ _ h=>.inl h,fun b o h=>cw (heap_alloc_old w.drew x b (wf b o h)) o,fun _ r h=>⟨r,cF h,cQ.refl r⟩,.old fun b hb=>heap_alloc_old w.drew x b hb⟩
theorem Lu (wf:∀ b o,R.I b o→b < w.heap.size) (x:Obj) {n id m:Nat} {r0:RO} (hid:nth R.obj id=some r0) (b' c':Nat) (cE:cQ r0 (.tok m b' c' 0)):Ext R w (R.upto w.heap.size n (aC R.obj id (.tok m b' c' 0))) (w.drew.alloc x):=
 ⟨fun _ _ h=>.inl h,fun b o h=>cw (heap_alloc_old w.drew x b (wf b o h)) o,fun i r h=>by
  by_cases e:id=i
  ·subst e;rw [hid] at h;cases h;exact ⟨_,au hid,cE⟩
  ·exact ⟨r,by rw [aj.upto,aX e]; exact h,cQ.refl r⟩,.old fun b hb=>heap_alloc_old w.drew x b hb⟩
theorem bi.Z0 (h:bi E R w β s a) {cur:Array Value} {elem:TypeId} {n sz cap:Nat} (hn:n≤cap) (hm:cap≤maxLen) (hs:cur.size=cap * sz) :
  bi E (R.upto w.heap.size (n * sz) (R.obj++[.tok n w.heap.size cap 0])) (w.drew.alloc (.cells cur elem)) β (s.fL (.tok n sz elem)) a ∧
  Step R w β s.boxes (R.upto w.heap.size (n * sz) (R.obj++[.tok n w.heap.size cap 0])) (w.drew.alloc (.cells cur elem)) β s.boxes:=by
 have e:=Lt (R:=R) (w:=w) h.g.wf (.cells cur elem) (n * sz) (.tok n w.heap.size cap 0);have old:∀ b,b < w.heap.size→(w.drew.alloc (.cells cur elem)).heap[b]?=w.heap[b]?:=fun b hb=>heap_alloc_old w.drew _ b hb
 have new:(w.drew.alloc (.cells cur elem)).heap[w.heap.size]?=some (.cells cur elem (0,0)):=heap_alloc_new w.drew _;have hI:∀ b o,b < w.heap.size→(R.upto w.heap.size (n * sz) (R.obj++[.tok n w.heap.size cap 0])).I b o→R.I b o:=fun b o hb hi=>by
  rcases hi with hi|⟨hi,_⟩
  ·exact hi
  ·omega
 refine ⟨⟨⟨by simp [St.fL,aj.upto,h.g.len],fun id g r h1 h2=>?_,fun i j ri rj b h1 h2 b1 b2=>?_,fun b o hi=>?_,fun g cs hg=>(h.g.ft g cs hg).mono e,by first | exact h.g.lo | exact abz h.g.lo⟩,?_,h.t.mono e,h.n,h.d.mono e⟩,?_⟩
 ·rcases ak h2 with h2|⟨h3,rfl⟩
  ·have cE:=bl h2;rw [h.g.len] at cE;rcases ak h1 with h1|⟨h4,_⟩
   ·exact (h.g.obj id g r h1 h2).mono e (fun b hb=>old b (h.g.cC ⟨id,r,h2,hb⟩)) (fun b o hb=>hI b o (h.g.cC ⟨id,r,h2,hb⟩))
   ·omega
  ·rcases ak h1 with h1|⟨h4,rfl⟩
   ·have:=bl h1;rw [h3,h.g.len] at this;omega
   ·refine ⟨rfl,cur,new,hn,hm,by omega,fun o' wX hi=>?_⟩;rcases hi with hi|⟨_,hi⟩
    ·have:=h.g.wf _ _ hi;omega
    ·omega
 ·rcases ak h1 with g1|⟨h3,e1⟩
  ·rcases ak h2 with g2|⟨h4,e2⟩
   ·exact h.g.inj i j ri rj b g1 g2 b1 b2
   ·have:=h.g.cC ⟨i,ri,g1,b1⟩;rw [e2] at b2;simp [RO.has] at b2;omega
  ·rcases ak h2 with g2|⟨h4,e2⟩
   ·have:=h.g.cC ⟨j,rj,g2,b2⟩;rw [e1] at b1;simp [RO.has] at b1;omega
   ·omega
 ·rcases hi with hi|⟨rfl,_⟩
  ·have:=h.g.wf b o hi;simp;omega
  ·simp
 ·refine h.b.bD e (fun k cs hk=>old _ (h.fu (.inr ⟨k,cs,hk,rfl⟩))) (fun k cs o hk=>hI _ o (h.fu (.inr ⟨k,cs,hk,rfl⟩))) (fun k cs hk hl=>?_);rcases rE (R:=R) (ro:=.tok n w.heap.size cap 0) hl with hl|hl
  ·exact hl
  ·have:=h.fu (.inr ⟨k,cs,hk,rfl⟩);simp [RO.has] at hl;omega
 ·refine ⟨e,rfl,rfl,rfl,by simp,fun b hb _=>old b hb,fun b hb ho=>?_,fun b o hi hb _=>hI b o hb hi⟩;rcases ho with ho|ho
  ·rcases rE (R:=R) (ro:=.tok n w.heap.size cap 0) ho with ho|ho
   ·exact .inl ho
   ·simp [RO.has] at ho;omega
  ·exact .inr ho
theorem II (wf:∀ b o,R.I b o→b < w.heap.size) (x:Obj) (n:Nat) (ro:RO):Ext R w (R.upto w.heap.size n (R.obj++[ro])) (w.alloc x):=
 ⟨fun _ _ h=>.inl h,fun b o h=>cw (heap_alloc_old w x b (wf b o h)) o,fun _ r h=>⟨r,cF h,cQ.refl r⟩,.old fun b hb=>heap_alloc_old w x b hb⟩
theorem bi.Vg (h:bi E R w β s a) {cur:Array Value} {elem:TypeId} {n sz cap:Nat} (hn:n≤cap) (hm:cap≤maxLen) (hs:cur.size=cap * sz) :
  bi E (R.upto w.heap.size (n * sz) (R.obj++[.tok n w.heap.size cap 0])) (w.alloc (.cells cur elem)) β (s.fL (.tok n sz elem)) a ∧
  Step R w β s.boxes (R.upto w.heap.size (n * sz) (R.obj++[.tok n w.heap.size cap 0])) (w.alloc (.cells cur elem)) β s.boxes:=by
 have e:=II (R:=R) (w:=w) h.g.wf (.cells cur elem) (n * sz) (.tok n w.heap.size cap 0);have old:∀ b,b < w.heap.size→(w.alloc (.cells cur elem)).heap[b]?=w.heap[b]?:=fun b hb=>heap_alloc_old w _ b hb
 have new:(w.alloc (.cells cur elem)).heap[w.heap.size]?=some (.cells cur elem (0,0)):=heap_alloc_new w _;have hI:∀ b o,b < w.heap.size→(R.upto w.heap.size (n * sz) (R.obj++[.tok n w.heap.size cap 0])).I b o→R.I b o:=fun b o hb hi=>by
  rcases hi with hi|⟨hi,_⟩
  ·exact hi
  ·omega
 refine ⟨⟨⟨by simp [St.fL,aj.upto,h.g.len],fun id g r h1 h2=>?_,fun i j ri rj b h1 h2 b1 b2=>?_,fun b o hi=>?_,fun g cs hg=>(h.g.ft g cs hg).mono e,by first | exact h.g.lo | exact abz h.g.lo⟩,?_,h.t.mono e,h.n,h.d.mono e⟩,?_⟩
 ·rcases ak h2 with h2|⟨h3,rfl⟩
  ·have cE:=bl h2;rw [h.g.len] at cE;rcases ak h1 with h1|⟨h4,_⟩
   ·exact (h.g.obj id g r h1 h2).mono e (fun b hb=>old b (h.g.cC ⟨id,r,h2,hb⟩)) (fun b o hb=>hI b o (h.g.cC ⟨id,r,h2,hb⟩))
   ·omega
  ·rcases ak h1 with h1|⟨h4,rfl⟩
   ·have:=bl h1;rw [h3,h.g.len] at this;omega
   ·refine ⟨rfl,cur,new,hn,hm,by omega,fun o' wX hi=>?_⟩;rcases hi with hi|⟨_,hi⟩
    ·have:=h.g.wf _ _ hi;omega
    ·omega
 ·rcases ak h1 with g1|⟨h3,e1⟩
  ·rcases ak h2 with g2|⟨h4,e2⟩
   ·exact h.g.inj i j ri rj b g1 g2 b1 b2
   ·have:=h.g.cC ⟨i,ri,g1,b1⟩;rw [e2] at b2;simp [RO.has] at b2;omega
  ·rcases ak h2 with g2|⟨h4,e2⟩
   ·have:=h.g.cC ⟨j,rj,g2,b2⟩;rw [e1] at b1;simp [RO.has] at b1;omega
   ·omega
 ·rcases hi with hi|⟨rfl,_⟩
  ·have:=h.g.wf b o hi;simp;omega
  ·simp
 ·refine h.b.bD e (fun k cs hk=>old _ (h.fu (.inr ⟨k,cs,hk,rfl⟩))) (fun k cs o hk=>hI _ o (h.fu (.inr ⟨k,cs,hk,rfl⟩))) (fun k cs hk hl=>?_);rcases rE (R:=R) (ro:=.tok n w.heap.size cap 0) hl with hl|hl
  ·exact hl
  ·have:=h.fu (.inr ⟨k,cs,hk,rfl⟩);simp [RO.has] at hl;omega
 ·refine ⟨e,rfl,rfl,rfl,by simp,fun b hb _=>old b hb,fun b hb ho=>?_,fun b o hi hb _=>hI b o hb hi⟩;rcases ho with ho|ho
  ·rcases rE (R:=R) (ro:=.tok n w.heap.size cap 0) ho with ho|ho
   ·exact .inl ho
   ·simp [RO.has] at ho;omega
  ·exact .inr ho
theorem Af (h:bi E R w β s a) (t:TypeId) (len:Nat) (parts:Array (Nat × Operand)) (ho:o.op=.buildSlice t len parts) {k:LK} {esz:Nat} {es:List AV} (hv:cV E s t len parts.toList=some (.list k esz es)) {i:TI} (hi:E.ti t=some i) {elem bP sE:Nat} {ag:Bool} {z:Option AV} (hk:i.k=.sl elem bP ag sE z) (hm:len≤65536) :
  cq E R w β s a o ((s.fL (.tok len esz elem)).put o.dst (.v (.list (.own s.G.length) esz es))):=by
 obtain ⟨es',ZX,us,aex,hve,bL,g2,hlen,u2,u3,i',ag',by',z',sQ,ly⟩:=lJ h t len parts ho hv;cases hve;rw [hi] at sQ;cases sQ;rw [hk] at ly;cases ly;have hus:us.length=len * esz:=by rw [← u2.length,fG g2,hlen]
 obtain ⟨r1,r2⟩:=h.Vg (cur:=⟨us⟩) (elem:=elem) (n:=len) (sz:=esz) (cap:=len) (aak _) (by simp [maxLen]; omega) (by simpa using hus);refine ⟨_,.slice (some ⟨w.heap.size,0,none⟩) len len,_,_,β,bL,.inl rfl,r1.put o.dst (x:=.v (.list (.own s.G.length) esz es)) ?_,by rw [bn]; exact r2⟩;refine Rel.list (oJ g2 (ik.make (u2.mono r2.ext) u3 (fun j x hx=>?_) (fun j hj=>.inr ⟨rfl,?_⟩))) hlen.symm (aak _) ⟨.tok len w.heap.size len 0,jy h _,?_⟩
 ·rw [rD (heap_alloc_new w _)];simpa using hx
 ·rw [fG g2,hlen] at hj;omega
 ·exact ⟨aak _,fun _=>⟨rfl,.inl rfl,rfl⟩⟩
theorem bi.Ry (h:bi E R w β s a) {cur:Array Value} {elem e0:TypeId} {n sz cap id f:Nat} {r0:RO} (hg:nth s.G id=some (.tok f sz e0)) (hid:nth R.obj id=some r0) (hf:∀ b c,cQ r0 (.tok n b c 0)) (hn:n≤cap) (hm:cap≤maxLen) (hs:cur.size=cap * sz) :
  bi E (R.upto w.heap.size (n * sz) (aC R.obj id (.tok n w.heap.size cap 0))) (w.drew.alloc (.cells cur elem)) β (s.bM (aC s.G id (.tok n sz elem))) a ∧
  Step R w β s.boxes (R.upto w.heap.size (n * sz) (aC R.obj id (.tok n w.heap.size cap 0))) (w.drew.alloc (.cells cur elem)) β s.boxes:=by
 have e:=Lu (R:=R) (w:=w) (n:=n * sz) h.g.wf (.cells cur elem) hid w.heap.size cap (hf _ _);have old:∀ b,b < w.heap.size→(w.drew.alloc (.cells cur elem)).heap[b]?=w.heap[b]?:=fun b hb=>heap_alloc_old w.drew _ b hb
 have new:(w.drew.alloc (.cells cur elem)).heap[w.heap.size]?=some (.cells cur elem (0,0)):=heap_alloc_new w.drew _;have hI:∀ b o,b < w.heap.size→(R.upto w.heap.size (n * sz) (aC R.obj id (.tok n w.heap.size cap 0))).I b o→R.I b o:=fun b o hb hi=>by
  rcases hi with hi|⟨hi,_⟩
  ·exact hi
  ·omega
 have live:∀ b,b < w.heap.size→Live (R.upto w.heap.size (n * sz) (aC R.obj id (.tok n w.heap.size cap 0))) b→Live R b:=fun b hb hl=>by
  obtain ⟨i,r,h1,h2⟩:=hl;rcases aw hid h1 with ⟨_,rfl⟩|⟨_,h1⟩
  ·simp [RO.has] at h2;omega
  ·exact ⟨i,r,h1,h2⟩
 refine ⟨⟨⟨by simp [St.bM,aj.upto,h.g.len],fun i gg r h1 h2=>?_,fun i j ri rj b h1 h2 b1 b2=>?_,fun b o hi=>?_,fun g cs hg=>(h.g.ft g cs hg).mono e,by first | exact h.g.lo | exact abz h.g.lo⟩,?_,h.t.mono e,h.n,h.d.mono e⟩,?_⟩
 ·rcases aw hid h2 with ⟨rfl,rfl⟩|⟨df,h2⟩
  ·simp only [St.bM] at h1;rw [au hg] at h1;cases h1;refine ⟨rfl,cur,new,hn,hm,by omega,fun o' wX hi=>?_⟩;rcases hi with hi|⟨_,hi⟩
   ·have:=h.g.wf _ _ hi;omega
   ·omega
  ·simp only [St.bM] at h1;rw [aX (acP df)] at h1;exact (h.g.obj i gg r h1 h2).mono e (fun b hb=>old b (h.g.cC ⟨i,r,h2,hb⟩)) (fun b o hb=>hI b o (h.g.cC ⟨i,r,h2,hb⟩))
 ·rcases aw hid h1 with ⟨g3,e1⟩|⟨g3,g1⟩
  ·rcases aw hid h2 with ⟨g4,e2⟩|⟨g4,g2⟩
   ·omega
   ·have:=h.g.cC ⟨j,rj,g2,b2⟩;rw [e1] at b1;simp [RO.has] at b1;omega
  ·rcases aw hid h2 with ⟨g4,e2⟩|⟨g4,g2⟩
   ·have:=h.g.cC ⟨i,ri,g1,b1⟩;rw [e2] at b2;simp [RO.has] at b2;omega
   ·exact h.g.inj i j ri rj b g1 g2 b1 b2
 ·rcases hi with hi|⟨rfl,_⟩
  ·have:=h.g.wf b o hi;simp;omega
  ·simp
 ·exact h.b.bD e (fun k cs hk=>old _ (h.fu (.inr ⟨k,cs,hk,rfl⟩))) (fun k cs o hk=>hI _ o (h.fu (.inr ⟨k,cs,hk,rfl⟩))) (fun k cs hk hl=>live _ (h.fu (.inr ⟨k,cs,hk,rfl⟩)) hl)
 ·refine ⟨e,rfl,rfl,rfl,by simp,fun b hb _=>old b hb,fun b hb ho=>?_,fun b o hi hb _=>hI b o hb hi⟩;rcases ho with ho|ho
  ·exact .inl (live b hb ho)
  ·exact .inr ho
theorem bi.Vh (h:bi E R w β s a) {cur:Array Value} {news:List Value} {elem:TypeId} {n sz id f g c k:Nat} (hg:nth s.G id=some (.tok f sz elem)) (hid:nth R.obj id=some (.tok f g c k)) (hf:f < n) (hn:n≤c)
  (mi:w.heap[g]?=some (.cells cur elem (0,0))) (hs:cur.size=k+c * sz) (hm:c≤maxLen) (hl:f * sz+news.length=n * sz) :
  Ext R w (R.upto g (k+n * sz) (aC R.obj id (.tok n g c k))) (w.setRow g (cur.toList.take (k+f * sz)++news++cur.toList.drop (k+f * sz+news.length)).toArray) ∧
  bi E (R.upto g (k+n * sz) (aC R.obj id (.tok n g c k))) (w.setRow g (cur.toList.take (k+f * sz)++news++cur.toList.drop (k+f * sz+news.length)).toArray) β (s.bM (aC s.G id (.tok n sz elem))) a ∧
  Step R w β s.boxes (R.upto g (k+n * sz) (aC R.obj id (.tok n g c k))) (w.setRow g (cur.toList.take (k+f * sz)++news++cur.toList.drop (k+f * sz+news.length)).toArray) β s.boxes:=by
 obtain ⟨_,wY,Yq,_,_,_,oW⟩:=h.g.obj id _ _ hg hid;rw [mi] at Yq;cases Yq;have hle:n * sz≤c * sz:=abw _ hn;generalize wZ:(cur.toList.take (k+f * sz)++news++cur.toList.drop (k+f * sz+news.length)).toArray=cur2;have old:∀ b,b≠g→(w.setRow g cur2).heap[b]?=w.heap[b]?:=fun b hb=>setRow_other w g b cur2 hb
 have new:(w.setRow g cur2).heap[g]?=some (.cells cur2 elem (0,0)):=setRow_heap w g cur cur2 elem (0,0) mi;have hlen:k+f * sz≤cur.toList.length:=by simp; omega
 have gJ:cur2.size=k+c * sz:=by
  rw [← wZ];simp;omega
 have BG:Live R g:=⟨id,_,hid,rfl⟩;have e:Ext R w (R.upto g (k+n * sz) (aC R.obj id (.tok n g c k))) (w.setRow g cur2):=by
  refine ⟨fun _ _ hi=>.inl hi,fun b o hi=>?_,fun i r hr=>?_,fun b r hb=>⟨r,(old b fun e=>by subst e; rw [mi] at hb; cases hb).trans hb,rfl,rfl,rfl,rfl,rfl⟩⟩
  ·by_cases hb:b=g
   ·subst hb;have ho:o < k+f * sz:=Nat.lt_of_not_le fun hle=>oW o hle hi
    simp only [World.cell?,new,mi];have:cur2[o]?=cur[o]?:=by
     rw [← wZ,List.append_assoc];simp only [List.getElem?_toArray];rw [abO (by simp; omega),abN,if_pos ho,Array.getElem?_toList]
    simp [this]
   ·exact cw (old b hb) o
  ·by_cases ei:id=i
   ·subst ei;rw [hid] at hr;cases hr;exact ⟨_,au hid,by omega,fun e=>by omega⟩
   ·exact ⟨r,by rw [aj.upto,aX ei]; exact hr,cQ.refl r⟩
 have hI:∀ b o,b≠g→(R.upto g (k+n * sz) (aC R.obj id (.tok n g c k))).I b o→R.I b o:=fun b o hb hi=>by
  rcases hi with hi|⟨hi,_⟩
  ·exact hi
  ·exact absurd hi hb
 have live:∀ b,Live (R.upto g (k+n * sz) (aC R.obj id (.tok n g c k))) b→Live R b:=fun b hl=>by
  obtain ⟨i,r,h1,h2⟩:=hl;rcases aw hid h1 with ⟨_,rfl⟩|⟨_,h1⟩
  ·exact ⟨id,_,hid,h2⟩
  ·exact ⟨i,r,h1,h2⟩
 have xd:∀ k cs,fh s.boxes k=some cs→β k≠g:=fun k cs hk eq=>(h.b.box k cs hk).2.2 (eq ▸ BG)
 refine ⟨e,⟨⟨by simp [St.bM,aj.upto,h.g.len],fun i gg r h1 h2=>?_,fun i j ri rj b h1 h2 b1 b2=>?_,fun b o hi=>?_,fun g cs hg=>(h.g.ft g cs hg).mono e,by first | exact h.g.lo | exact abz h.g.lo⟩,?_,h.t.mono e,h.n,h.d.mono e⟩,?_⟩
 ·rcases aw hid h2 with ⟨rfl,rfl⟩|⟨df,h2⟩
  ·simp only [St.bM] at h1;rw [au hg] at h1;cases h1;refine ⟨rfl,cur2,new,hn,hm,gJ,fun o' wX hi=>?_⟩;rcases hi with hi|⟨_,hi⟩
   ·exact oW o' (by have:=abw sz (Nat.le_of_lt hf); omega) hi
   ·omega
  ·simp only [St.bM] at h1;rw [aX (acP df)] at h1;have Z1:∀ b,r.has b→b≠g:=fun b hb eq=>df (h.g.inj i id _ _ b h2 hid hb (by rw [eq]; rfl))
   exact (h.g.obj i gg r h1 h2).mono e (fun b hb=>old b (Z1 b hb)) (fun b o hb=>hI b o (Z1 b hb))
 ·rcases aw hid h1 with ⟨g3,e1⟩|⟨g3,g1⟩
  ·rcases aw hid h2 with ⟨g4,e2⟩|⟨g4,g2⟩
   ·omega
   ·rw [e1] at b1;exact g3.trans (h.g.inj id j _ _ b hid g2 b1 b2)
  ·rcases aw hid h2 with ⟨g4,e2⟩|⟨g4,g2⟩
   ·rw [e2] at b2;exact (h.g.inj i id _ _ b g1 hid b1 b2).trans g4.symm
   ·exact h.g.inj i j ri rj b g1 g2 b1 b2
 ·rcases hi with hi|⟨rfl,_⟩
  ·have:=h.g.wf b o hi;simpa using this
  ·have:=bK mi;simpa using this
 ·exact h.b.bD e (fun q cs hk=>old _ (xd q cs hk)) (fun q cs o hk=>hI _ o (xd q cs hk)) (fun q cs hk hl=>live _ hl)
 ·refine ⟨e,rfl,rfl,rfl,by simp,fun b hb xe=>old b (fun eq=>xe (.inl (eq ▸ BG))),fun b hb ho=>?_,fun b o hi hb xe=>hI b o (fun eq=>xe (.inl (eq ▸ BG))) hi⟩;rcases ho with ho|ho
  ·exact .inl (live b ho)
  ·exact .inr ho
structure One (w w':World) (x:Obj):Prop where
 old:∀ b,b < w.heap.size→w'.heap[b]?=w.heap[b]?
 new:w'.heap[w.heap.size]?=some x
 size:w'.heap.size=w.heap.size+1
 os:w'.os=w.os
 tape:w'.tape=w.tape
 output:w'.output=w.output
 drawn:w.drawn≤w'.drawn
theorem One.alloc (w:World) (x:Obj):One w (w.alloc x) x:=⟨fun b hb=>heap_alloc_old w x b hb,heap_alloc_new w x,by simp,rfl,rfl,rfl,aak _⟩
theorem One.drew (w:World) (x:Obj):One w (w.drew.alloc x) x:=⟨fun b hb=>heap_alloc_old w.drew x b hb,heap_alloc_new w.drew x,by simp,rfl,rfl,rfl,Nat.le_succ _⟩
theorem Vi {w':World} {x:Obj} (o1:One w w' x) (wf:∀ b o,R.I b o→b < w.heap.size) {n id:Nat} {r0 r1:RO} (hid:nth R.obj id=some r0) (hle:cQ r0 r1):Ext R w (R.upto w.heap.size n (aC R.obj id r1)) w':=
 ⟨fun _ _ h=>.inl h,fun b o h=>cw (o1.old b (wf b o h)) o,fun i r h=>by
  by_cases e:id=i
  ·subst e;rw [hid] at h;cases h;exact ⟨_,au hid,hle⟩
  ·exact ⟨r,by rw [aj.upto,aX e]; exact h,cQ.refl r⟩,.old fun b hb=>o1.old b hb⟩
theorem bi.Z2 (h:bi E R w β s a) {w':World} {x:Obj} (o1:One w w' x) {n id:Nat} {r0 r1:RO} {QR go:GO} (hg:nth s.G id=some QR) (hid:nth R.obj id=some r0) (hle:cQ r0 r1) (nV:∀ b,r1.has b→b=w.heap.size∨r0.has b)
  (kp:jW (R.upto w.heap.size n (aC R.obj id r1)) w' go r1) :
  bi E (R.upto w.heap.size n (aC R.obj id r1)) w' β (s.bM (aC s.G id go)) a∧Step R w β s.boxes (R.upto w.heap.size n (aC R.obj id r1)) w' β s.boxes:=by
 have e:=Vi (R:=R) (n:=n) o1 h.g.wf hid hle;have hI:∀ b o,b < w.heap.size→(R.upto w.heap.size n (aC R.obj id r1)).I b o→R.I b o:=fun b o hb hi=>by
  rcases hi with hi|⟨hi,_⟩
  ·exact hi
  ·omega
 have live:∀ b,b < w.heap.size→Live (R.upto w.heap.size n (aC R.obj id r1)) b→Live R b:=fun b hb hl=>by
  obtain ⟨i,r,h1,h2⟩:=hl;rcases aw hid h1 with ⟨_,rfl⟩|⟨_,h1⟩
  ·rcases nV b h2 with h3|h3
   ·omega
   ·exact ⟨id,r0,hid,h3⟩
  ·exact ⟨i,r,h1,h2⟩
 refine ⟨⟨⟨by simp [St.bM,aj.upto,h.g.len],fun i gg r h1 h2=>?_,fun i j ri rj b h1 h2 b1 b2=>?_,fun b o hi=>?_,fun g cs hg=>(h.g.ft g cs hg).mono e,Nat.le_trans h.g.lo o1.drawn⟩,?_,h.t.mono e,h.n,h.d.mono e⟩,?_⟩
 ·rcases aw hid h2 with ⟨rfl,rfl⟩|⟨df,h2⟩
  ·simp only [St.bM] at h1;rw [au hg] at h1;cases h1;exact kp
  ·simp only [St.bM] at h1;rw [aX (acP df)] at h1;exact (h.g.obj i gg r h1 h2).mono e (fun b hb=>o1.old b (h.g.cC ⟨i,r,h2,hb⟩)) (fun b o hb=>hI b o (h.g.cC ⟨i,r,h2,hb⟩))
 ·rcases aw hid h1 with ⟨g3,e1⟩|⟨g3,g1⟩
  ·rcases aw hid h2 with ⟨g4,e2⟩|⟨g4,g2⟩
   ·omega
   ·rw [e1] at b1;rcases nV b b1 with b3|b3
    ·have:=h.g.cC ⟨j,rj,g2,b2⟩;omega
    ·exact g3.trans (h.g.inj id j _ _ b hid g2 b3 b2)
  ·rcases aw hid h2 with ⟨g4,e2⟩|⟨g4,g2⟩
   ·rw [e2] at b2;rcases nV b b2 with b3|b3
    ·have:=h.g.cC ⟨i,ri,g1,b1⟩;omega
    ·exact (h.g.inj i id _ _ b g1 hid b1 b3).trans g4.symm
   ·exact h.g.inj i j ri rj b g1 g2 b1 b2
 ·rcases hi with hi|⟨rfl,_⟩
  ·have:=h.g.wf b o hi;rw [o1.size];omega
  ·rw [o1.size]; omega
 ·exact h.b.bD e (fun q cs hk=>o1.old _ (h.fu (.inr ⟨q,cs,hk,rfl⟩))) (fun q cs o hk=>hI _ o (h.fu (.inr ⟨q,cs,hk,rfl⟩))) (fun q cs hk hl=>live _ (h.fu (.inr ⟨q,cs,hk,rfl⟩)) hl)
 ·refine ⟨e,o1.os,o1.tape,o1.output,by rw [o1.size]; omega,fun b hb _=>o1.old b hb,fun b hb ho=>?_,fun b o hi hb _=>hI b o hb hi⟩;rcases ho with ho|ho
  ·exact .inl (live b hb ho)
  ·exact .inr ho
theorem bi.Vj (h:bi E R w β s a) {cur cur2:Array Value} {elem:TypeId} {n id g:Nat} {r0 r1:RO} {QR go:GO} (hg:nth s.G id=some QR) (hid:nth R.obj id=some r0) (hg0:r0.has g) (hle:cQ r0 r1) (nV:∀ b,r1.has b→r0.has b)
  (mi:w.heap[g]?=some (.cells cur elem (0,0))) (CN:∀ o,R.I g o→cur2[o]?=cur[o]?)
  (kp:Ext R w (R.upto g n (aC R.obj id r1)) (w.setRow g cur2)→jW (R.upto g n (aC R.obj id r1)) (w.setRow g cur2) go r1) :
  Ext R w (R.upto g n (aC R.obj id r1)) (w.setRow g cur2)∧bi E (R.upto g n (aC R.obj id r1)) (w.setRow g cur2) β (s.bM (aC s.G id go)) a∧Step R w β s.boxes (R.upto g n (aC R.obj id r1)) (w.setRow g cur2) β s.boxes:=by
 have old:∀ b,b≠g→(w.setRow g cur2).heap[b]?=w.heap[b]?:=fun b hb=>setRow_other w g b cur2 hb
 have new:(w.setRow g cur2).heap[g]?=some (.cells cur2 elem (0,0)):=setRow_heap w g cur cur2 elem (0,0) mi;have BG:Live R g:=⟨id,_,hid,hg0⟩;have e:Ext R w (R.upto g n (aC R.obj id r1)) (w.setRow g cur2):=by
  refine ⟨fun _ _ hi=>.inl hi,fun b o hi=>?_,fun i r hr=>?_,fun b r hb=>⟨r,(old b fun e=>by subst e; rw [mi] at hb; cases hb).trans hb,rfl,rfl,rfl,rfl,rfl⟩⟩
  ·by_cases hb:b=g
   ·subst hb;simp only [World.cell?,new,mi,CN o hi]
   ·exact cw (old b hb) o
  ·by_cases ei:id=i
   ·subst ei;rw [hid] at hr;cases hr;exact ⟨_,au hid,hle⟩
   ·exact ⟨r,by rw [aj.upto,aX ei]; exact hr,cQ.refl r⟩
 have hI:∀ b o,b≠g→(R.upto g n (aC R.obj id r1)).I b o→R.I b o:=fun b o hb hi=>by
  rcases hi with hi|⟨hi,_⟩
  ·exact hi
  ·exact absurd hi hb
 have live:∀ b,Live (R.upto g n (aC R.obj id r1)) b→Live R b:=fun b hl=>by
  obtain ⟨i,r,h1,h2⟩:=hl;rcases aw hid h1 with ⟨_,rfl⟩|⟨_,h1⟩
  ·exact ⟨id,_,hid,nV b h2⟩
  ·exact ⟨i,r,h1,h2⟩
 have xd:∀ k cs,fh s.boxes k=some cs→β k≠g:=fun k cs hk eq=>(h.b.box k cs hk).2.2 (eq ▸ BG)
 refine ⟨e,⟨⟨by simp [St.bM,aj.upto,h.g.len],fun i gg r h1 h2=>?_,fun i j ri rj b h1 h2 b1 b2=>?_,fun b o hi=>?_,fun g cs hg=>(h.g.ft g cs hg).mono e,h.g.lo⟩,?_,h.t.mono e,h.n,h.d.mono e⟩,?_⟩
 ·rcases aw hid h2 with ⟨rfl,rfl⟩|⟨df,h2⟩
  ·simp only [St.bM] at h1;rw [au hg] at h1;cases h1;exact kp e
  ·simp only [St.bM] at h1;rw [aX (acP df)] at h1;have Z1:∀ b,r.has b→b≠g:=fun b hb eq=>df (h.g.inj i id _ _ b h2 hid hb (by rw [eq]; exact hg0))
   exact (h.g.obj i gg r h1 h2).mono e (fun b hb=>old b (Z1 b hb)) (fun b o hb=>hI b o (Z1 b hb))
 ·rcases aw hid h1 with ⟨g3,e1⟩|⟨g3,g1⟩
  ·rcases aw hid h2 with ⟨g4,e2⟩|⟨g4,g2⟩
   ·omega
   ·rw [e1] at b1;exact g3.trans (h.g.inj id j _ _ b hid g2 (nV b b1) b2)
  ·rcases aw hid h2 with ⟨g4,e2⟩|⟨g4,g2⟩
   ·rw [e2] at b2;exact (h.g.inj i id _ _ b g1 hid b1 (nV b b2)).trans g4.symm
   ·exact h.g.inj i j ri rj b g1 g2 b1 b2
 ·rcases hi with hi|⟨rfl,_⟩
  ·have:=h.g.wf b o hi;simpa using this
  ·have:=bK mi;simpa using this
 ·exact h.b.bD e (fun q cs hk=>old _ (xd q cs hk)) (fun q cs o hk=>hI _ o (xd q cs hk)) (fun q cs hk hl=>live _ hl)
 ·refine ⟨e,rfl,rfl,rfl,by simp,fun b hb xe=>old b (fun eq=>xe (.inl (eq ▸ BG))),fun b hb ho=>?_,fun b o hi hb xe=>hI b o (fun eq=>xe (.inl (eq ▸ BG))) hi⟩;rcases ho with ho|ho
  ·exact .inl (live b ho)
  ·exact .inr ho
theorem xR.set {ts:List TR} {j:Nat} {t t':TR} (ht:nth ts j=some t) (hle:jV t t'):xR ts (aC ts j t'):=fun i u hu=>by
 by_cases e:j=i
 ·subst e;rw [ht] at hu;cases hu;exact ⟨t',au ht,hle⟩
 ·exact ⟨u,by rw [aX e]; exact hu,jV.refl u⟩
theorem NI {ts:List TR} {j n g c b:Nat} (h:RO.has (.aY (aC ts j (.tok n g c))) b):b=g∨RO.has (.aY ts) b:=by
 obtain ⟨i,f,c',hi⟩:=h;rcases cJ hi with ⟨_,e,_⟩|⟨_,hi⟩
 ·cases e; exact .inl rfl
 ·exact .inr ⟨i,f,c',hi⟩
theorem FD.of {R':aj} {w':World} {sz f:Nat} {e:TypeId} {t:TR} (h:FD R w sz e f t) (hold:∀ f b c,t=.tok f b c→w'.heap[b]?=w.heap[b]?∧∀ o,R'.I b o→R.I b o):FD R' w' sz e f t:=by
 cases t with
 |bj=>exact h
 |full f'=>exact h
 |tok f' b c=>
  obtain ⟨h0,cur,h1,h2,h3,h4,h5⟩:=h;obtain ⟨k1,k2⟩:=hold f' b c rfl;exact ⟨h0,cur,k1.trans h1,h2,h3,h4,fun o ho hi=>h5 o ho (k2 o hi)⟩
theorem CB.set {R':aj} {w':World} {sz:Nat} {e:TypeId} {fs:List Nat} {ts:List TR} (h:CB R w sz e fs ts) {j n g c:Nat} (wZ:FD R' w' sz e n (.tok n g c)) (Rz:∀ i f c,nth ts i=some (.tok f g c)→i=j)
  (hold:∀ i f b c,i≠j→nth ts i=some (.tok f b c)→w'.heap[b]?=w.heap[b]?∧∀ o,R'.I b o→R.I b o):CB R' w' sz e (aC fs j n) (aC ts j (.tok n g c)):=by
 obtain ⟨h1,h2,h3⟩:=h;refine ⟨by simp [h1],fun i i' f1 b c1 f2 c2 q1 q2=>?_,fun i f1 t1 q1 q2=>?_⟩
 ·rcases cJ q1 with ⟨n1,e1,_⟩|⟨n1,q1⟩
  ·cases e1;rcases cJ q2 with ⟨n2,_,_⟩|⟨n2,q2⟩
   ·exact n1.symm.trans n2
   ·exact absurd (Rz _ _ _ q2).symm n2
  ·rcases cJ q2 with ⟨n2,e2,_⟩|⟨n2,q2⟩
   ·cases e2;exact (Rz _ _ _ q1).trans n2
   ·exact h2 i i' _ _ _ _ _ q1 q2
 ·rcases cJ q1 with ⟨n1,e1,_⟩|⟨n1,q1⟩
  ·rcases cJ q2 with ⟨_,e2,_⟩|⟨n2,_⟩
   ·subst e1 e2;exact wZ
   ·exact absurd n1 n2
  ·rcases cJ q2 with ⟨n2,_,_⟩|⟨n2,q2⟩
   ·exact absurd n2 n1
   ·exact (h3 i f1 t1 q1 q2).of fun f b c ht=>by subst ht; exact hold i f b c (acP n2) q2
end ops
end Go.Am
