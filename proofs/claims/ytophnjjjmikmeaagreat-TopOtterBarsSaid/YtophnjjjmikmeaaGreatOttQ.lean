/- Plain laws: bars that lead up to the right,one above another: their knots,degrees,parts; runs of a word. -/
import Derived.Test.YtophnjjjmikmeaaGreatOttWf
set_option linter.all false
namespace Go.Proofs.YtophnjjjmikmeaaGreat
open Go Go.Am Go.Sort
set_option maxRecDepth 100000
theorem FT (l:List aV):(sW l).Nodup:=sY FI (jV FI Lm (0,0) (bW l)).1
theorem Dw (l:List aV):((fj l).map Prod.fst).Nodup∧∀ k,k∈(fj l).map Prod.fst↔∃ b∈l,k=dq b∨k=eT b:=by
 obtain ⟨k1,k2⟩:=oI l [] (by simp)
 refine ⟨k1,fun k=>?_⟩
 have h0:=k2 k
 have h1:k∈(fj l).map Prod.fst↔k∈([]:List ((Int × Int) × Int)).map Prod.fst∨∃ b∈l,k=dq b∨k=eT b:=h0
 rw [h1]
 exact ⟨fun h=>h.resolve_left (fun c=>by cases c),.inr⟩
theorem OQ (l:List aV) (hv:∀ b∈l,gW b=0) (hl:l.length≤4096):∀ x∈fj l,x.2=jB l x.1:=fun x hx=>by
 obtain ⟨k1,-⟩:=oI l [] (by simp)
 have C9:=yj l [] 0 hv (fun k=>by simp [ol,getM]) (by omega)
 have e1:=yi k1 hx
 have e2:=C9 x.1
 unfold ol at e2
 have e1:getM x.1 (l.foldl uE [])=some x.2:=e1
 rw [e1] at e2
 simpa [getM] using e2
theorem Tu {b:aV} (h:gW b=0):eT b=(b.1+b.2.2,b.2.1+1):=(BJ h).1
def uD (b:aV):Int × Int:=(b.1+1,b.2.1+1)
def cY:List aV→Nat
 | []=>0
 | [_]=>1
 | a :: b :: l=>cY (b :: l)+if uD a=dq b then 0 else 1
def IG:List aV→List (Int × Int)
 | []=>[]
 | [a]=>[dq a,uD a]
 | a :: b :: l=>dq a :: ((if uD a=dq b then [] else [uD a])++IG (b :: l))
theorem BL:∀ l:List aV,(IG l).length=l.length+cY l
 | []=>rfl
 | [_]=>rfl
 | a :: b :: l=>by
  have ih:=BL (b :: l)
  simp only [IG,cY,List.length_cons,List.length_append] at ih ⊢
  rw [ih]
  split <;> simp <;> omega
theorem BM:∀ (l:List aV) (k:Int × Int),k∈IG l↔∃ b∈l,k=dq b∨k=uD b
 | [],k=>by simp [IG]
 | [a],k=>by simp [IG]
 | a :: b :: l,k=>by
  have ih:=BM (b :: l) k
  rw [IG,List.mem_cons,List.mem_append,ih]
  constructor
  ·rintro (h | h | ⟨c,hc,h⟩)
   ·exact ⟨a,by simp,.inl h⟩
   ·split at h
    ·simp at h
    ·rw [List.mem_singleton] at h; exact ⟨a,by simp,.inr h⟩
   ·exact ⟨c,List.mem_cons_of_mem _ hc,h⟩
  ·rintro ⟨c,hc,h⟩
   rcases List.mem_cons.1 hc with rfl | hc
   ·rcases h with h | h
    ·exact .inl h
    ·by_cases hl:uD c=dq b
     ·exact .inr (.inr ⟨b,by simp,.inl (by rw [h,hl])⟩)
     ·rw [if_neg hl]; exact .inr (.inl (by simp [h]))
   ·exact .inr (.inr ⟨c,hc,h⟩)
structure Dg (l:List aV):Prop where
 ok:∀ b∈l,gW b=0∧b.2.2=1
 up:l.Pairwise fun a b=>a.2.1 < b.2.1
theorem Dg.tail {a:aV} {l:List aV} (h:Dg (a :: l)):Dg l:=⟨fun b hb=>h.ok b (List.mem_cons_of_mem _ hb),(List.pairwise_cons.1 h.up).2⟩
theorem Dg.uD {l:List aV} (h:Dg l) {b:aV} (hb:b∈l):eT b=uD b:=by
 obtain ⟨h1,h2⟩:=h.ok b hb
 have u:eT b=(b.1+b.2.2,b.2.1+1):=(Tu h1)
 rw [u,h2]; rfl
theorem s7:∀ {l:List aV},l.Pairwise (fun a b=>a.2.1 < b.2.1)→(IG l).Nodup
 | [],_=>by simp [IG]
 | [a],_=>by
  simp only [IG,List.nodup_cons,List.mem_singleton,List.not_mem_nil,not_false_eq_true,List.nodup_nil,and_true]
  intro e
  have:=congrArg Prod.snd e
  simp only [dq,uD] at this
  omega
 | a :: b :: l,h=>by
  obtain ⟨h1,h2⟩:=List.pairwise_cons.1 h
  have ih:=s7 h2
  have hm:∀ k∈IG (b :: l),a.2.1 < k.2∧(k.2=a.2.1+1→k=dq b):=by
   intro k hk
   obtain ⟨c,hc,hk⟩:=(BM (b :: l) k).1 hk
   have hac:=h1 c hc
   rcases hk with rfl | rfl
   ·refine ⟨hac,fun e=>?_⟩
    rcases List.mem_cons.1 hc with rfl | hc
    ·rfl
    ·have Dl:=h1 b (by simp)
     have hbc:=(List.pairwise_cons.1 h2).1 c hc
     simp only [dq] at e
     omega
   ·simp only [uD]
    exact ⟨by omega,fun e=>by omega⟩
  rw [IG,List.nodup_cons]
  refine ⟨?_,?_⟩
  ·rw [List.mem_append]
   rintro (h | h)
   ·split at h
    ·simp at h
    ·rw [List.mem_singleton] at h
     have:=congrArg Prod.snd h
     simp only [dq,uD] at this
     omega
   ·have:=(hm _ h).1
    simp only [dq] at this
    omega
  ·by_cases hl:uD a=dq b
   ·rw [if_pos hl]; exact ih
   ·rw [if_neg hl,List.singleton_append,List.nodup_cons]
    exact ⟨fun h=>hl ((hm _ h).2 rfl),ih⟩
theorem yl {α:Type} [DecidableEq α] {a b:List α} (ha:a.Nodup) (hb:b.Nodup) (h:∀ x,x∈a↔x∈b):a.length=b.length:=
 Nat.le_antisymm (ir a b ha fun x hx=>(h x).1 hx) (ir b a hb fun x hx=>(h x).2 hx)
section
variable {l:List aV} (h:Dg l)
include h
theorem Dg.ends (k:Int × Int):(∃ b∈l,k=dq b∨k=eT b)↔k∈IG l:=by
 rw [BM]
 constructor
 ·rintro ⟨b,hb,hk⟩
  rw [h.uD hb] at hk
  exact ⟨b,hb,hk⟩
 ·rintro ⟨b,hb,hk⟩
  rw [← h.uD hb] at hk
  exact ⟨b,hb,hk⟩
theorem IH:(sW l).length=l.length+cY l:=by
 rw [← BL]
 exact yl (FT l) (s7 h.up) fun k=>by rw [xX,h.ends]
theorem LS {K:List (Int × Int)} (hK:K.Nodup) {x y:Int × Int} (hx:x∈K) (hy:y∈K) (ZA:x≠y):K.countP (fun k=>decide (x=k∨y=k))=2:=by
 rw [List.countP_eq_length_filter]
 have:=yl (a:=K.filter fun k=>decide (x=k∨y=k)) (b:=[x,y]) (hK.filter _) (by simp [ZA]) fun k=>by
  rw [List.mem_filter]
  simp only [decide_eq_true_eq,List.mem_cons,List.not_mem_nil,or_false]
  constructor
  ·rintro ⟨_,h | h⟩
   ·exact .inl h.symm
   ·exact .inr h.symm
  ·rintro (rfl | rfl)
   ·exact ⟨hx,.inl rfl⟩
   ·exact ⟨hy,.inr rfl⟩
 exact this
omit h in
theorem Ha {K:List (Int × Int)} (hK:K.Nodup):∀ {l:List aV},Dg l→(∀ b∈l,dq b∈K∧eT b∈K)→(K.map fun k=>jB l k).sum=2 * l.length
 | [],_,_=>by
  have:∀ K:List (Int × Int),(K.map fun k=>jB [] k).sum=0:=fun K=>by
   induction K with
   | nil=>rfl
   | cons k K ih=>rw [List.map_cons,List.sum_cons,ih]; rfl
  exact this K
 | b :: l,h,hb=>by
  have ih:=Ha hK h.tail fun c hc=>hb c (List.mem_cons_of_mem _ hc)
  have FZ:=hb b (by simp)
  have ne:dq b≠eT b:=by
   rw [h.uD (by simp)]
   intro e
   have:=congrArg Prod.snd e
   simp only [dq,YtophnjjjmikmeaaGreat.uD] at this
   omega
  have two:=LS h hK FZ.1 FZ.2 ne
  have gen:∀ K:List (Int × Int),(K.map fun k=>jB (b :: l) k).sum=(K.map fun k=>jB l k).sum+K.countP (fun k=>decide (dq b=k∨eT b=k)):=fun K=>by
   induction K with
   | nil=>rfl
   | cons k K ih=>
    rw [List.map_cons,List.map_cons,List.sum_cons,List.sum_cons,List.countP_cons,ih,Aj]
    by_cases hk:dq b=k∨eT b=k
    ·simp [hk]; omega
    ·simp [hk]; omega
  rw [gen,two,ih,List.length_cons]
  omega
theorem OR (k:Int × Int):jB l k≤2:=by
 unfold jB
 have hn:l.Nodup:=h.up.imp fun Dl e=>by rw [e] at Dl; omega
 refine ir _ [((k.1,k.2,1):aV),(k.1 - 1,k.2 - 1,1)] (hn.filter _) fun b hb=>?_
 obtain ⟨h1,h2⟩:=List.mem_filter.1 hb
 obtain ⟨-,h3⟩:=h.ok b h1
 rw [h.uD h1] at h2
 simp only [Bool.or_eq_true,decide_eq_true_eq] at h2
 obtain ⟨x,y,s⟩:=b
 simp only at h3
 subst h3
 rcases h2 with rfl | rfl
 ·simp [dq]
 ·simp only [YtophnjjjmikmeaaGreat.uD,List.mem_cons,Prod.mk.injEq,List.not_mem_nil,or_false]
  right
  refine ⟨by omega,by omega,trivial⟩
omit h in
theorem OS {k:Int × Int} (hk:∃ b∈l,k=dq b∨k=eT b):1≤jB l k:=by
 obtain ⟨b,hb,hk⟩:=hk
 have:b∈l.filter fun b=>decide (dq b=k) || decide (eT b=k):=List.mem_filter.2 ⟨hb,by
  rcases hk with rfl | rfl <;> simp⟩
 exact List.length_pos_of_mem this
omit h in
theorem Ak (f:Int × Int→Nat):∀ K:List (Int × Int),(∀ k∈K,f k=1∨f k=2)→K.countP (fun k=>decide (f k=1))+K.countP (fun k=>decide (f k=2))=K.length∧K.countP (fun k=>decide (f k=1))+2 * K.countP (fun k=>decide (f k=2))=(K.map f).sum
 | [],_=>⟨rfl,by simp⟩
 | k :: K,h=>by
  obtain ⟨i1,i2⟩:=Ak f K fun x hx=>h x (List.mem_cons_of_mem _ hx)
  rw [List.countP_cons,List.countP_cons,List.map_cons,List.sum_cons,List.length_cons]
  rcases h k (by simp) with e | e <;> rw [e] <;> simp <;> omega
theorem II (hl:l.length≤4096):Ah l=((0,((2 * cY l:Nat):Int),(l.length:Int) - (cY l:Int),0,0):O5):=by
 obtain ⟨k1,k2⟩:=Dw l
 have v:=OQ l (fun b hb=>(h.ok b hb).1) hl
 have Wl:∀ j:Nat,(fj l).countP (fun x=>decide (x.2=(j:Int)))=((fj l).map Prod.fst).countP (fun k=>decide (jB l k=j)):=fun j=>by
  rw [List.countP_map]
  refine List.countP_congr fun x hx=>?_
  simp only [decide_eq_true_eq,Function.comp]
  rw [v x hx]
  omega
 have f12:∀ k∈(fj l).map Prod.fst,jB l k=1∨jB l k=2:=fun k hk=>by
  have:=OS ((k2 k).1 hk)
  have:=OR h k
  omega
 obtain ⟨s1,s2⟩:=Ak (jB l) _ f12
 rw [Ha k1 h fun b hb=>⟨(k2 _).2 ⟨b,hb,.inl rfl⟩,(k2 _).2 ⟨b,hb,.inr rfl⟩⟩] at s2
 have len:((fj l).map Prod.fst).length=l.length+cY l:=by
  rw [← BL]
  exact yl k1 (s7 h.up) fun k=>by rw [k2,h.ends]
 rw [len] at s1
 have z:∀ j:Nat,j≠1→j≠2→((fj l).map Prod.fst).countP (fun k=>decide (jB l k=j))=0:=fun j h1 h2=>by
  rw [List.countP_eq_zero]
  intro k hk
  have:=f12 k hk
  simp only [decide_eq_true_eq]
  omega
 have c0:=Wl 0; have c1:=Wl 1; have c2:=Wl 2; have c3:=Wl 3; have c4:=Wl 4
 rw [z 0 (by omega) (by omega)] at c0
 rw [z 3 (by omega) (by omega)] at c3
 rw [z 4 (by omega) (by omega)] at c4
 generalize ((fj l).map Prod.fst).countP (fun k=>decide (jB l k=1))=a at *
 generalize ((fj l).map Prod.fst).countP (fun k=>decide (jB l k=2))=b at *
 unfold Ah
 simp only [yk]
 have c0':(fj l).countP (fun x=>decide (x.2=(0:Int)))=0:=c0
 have c1':(fj l).countP (fun x=>decide (x.2=(1:Int)))=a:=c1
 have c2':(fj l).countP (fun x=>decide (x.2=(2:Int)))=b:=c2
 have ZB:(fj l).countP (fun x=>decide (x.2=(3:Int)))=0:=c3
 have c4':(fj l).countP (fun x=>decide (x.2=(4:Int)))=0:=c4
 rw [c0',c1',c2',ZB,c4']
 have e1:(a:Int)=((2 * cY l:Nat):Int):=by omega
 have e2:(b:Int)=(l.length:Int) - cY l:=by omega
 rw [e1,e2]
 rfl
end
theorem mL (b:aV):∀ (l:List aV) (a:aV),cY (l++[a]++[b])=cY (l++[a])+if uD a=dq b then 0 else 1
 | [],a=>by simp only [List.nil_append,List.singleton_append,cY]
 | [c],a=>by
  have ih:=mL b [] a
  simp only [List.nil_append,List.singleton_append,List.cons_append,cY] at ih ⊢
  omega
 | c :: d :: l,a=>by
  have ih:=mL b (d :: l) a
  simp only [List.cons_append,cY] at ih ⊢
  rw [ih]
  omega
theorem LU {l:List aV} (h:Dg l) {x y:aV} (hx:x∈l) (hy:y∈l) (ht:kL x y=true) (bK:x.2.1 < y.2.1):uD x=dq y:=by
 unfold kL at ht
 rw [h.uD hx,h.uD hy] at ht
 simp only [Bool.or_eq_true,decide_eq_true_eq] at ht
 rcases ht with ((e | e) | e) | e
 ·have:=congrArg Prod.snd e; simp only [dq] at this; omega
 ·have:=congrArg Prod.snd e; simp only [dq,uD] at this; omega
 ·exact e
 ·have:=congrArg Prod.snd e; simp only [uD] at this; omega
theorem LV {pre Mk:List aV} {b:aV} (h:Dg (pre++b :: Mk)) (hn:∀ a q,pre=q++[a]→uD a≠dq b) {c:aV} (hc:c∈pre) {x:aV} (hr:DO (pre++b :: Mk) c x):x∈pre:=by
 have hp:=List.pairwise_append.1 h.up
 have hb:∀ x∈pre,x.2.1 < b.2.1:=fun x hx=>hp.2.2 x hx b (by simp)
 have hsu:∀ y∈b :: Mk,b.2.1≤y.2.1∧(y.2.1=b.2.1→y=b):=fun y hy=>by
  rcases List.mem_cons.1 hy with rfl | hy
  ·exact ⟨Int.le_refl _,fun _=>rfl⟩
  ·have:=(List.pairwise_cons.1 hp.2.1).1 y hy
   exact ⟨by omega,fun e=>by omega⟩
 induction hr with
 | base=>exact hc
 | @step x y _ hy ht ih=>
  rcases List.mem_append.1 hy with Q4 | Q4
  ·exact Q4
  ·exfalso
   have hxb:=hb x ih
   obtain ⟨g1,g2⟩:=hsu y Q4
   have e:=LU h (List.mem_append_left _ ih) hy ht (by omega)
   have e2:=congrArg Prod.snd e
   simp only [uD,dq] at e2
   have ey:=g2 (by omega)
   subst ey
   -- x is the last one before
   obtain ⟨q,a,hq⟩:∃ q a,pre=q++[a]:=by
    have:pre≠[]:=fun e=>by rw [e] at ih; cases ih
    exact ⟨pre.dropLast,pre.getLast this,(List.dropLast_concat_getLast this).symm⟩
   have ha:=hb a (by rw [hq]; simp)
   have hxa:x=a:=by
    rw [hq] at ih
    rcases List.mem_append.1 ih with ih | ih
    ·have me:=hp.1
     rw [hq] at me
     have:=(List.pairwise_append.1 me).2.2 x ih a (by simp)
     omega
    ·exact List.mem_singleton.1 ih
   subst hxa
   exact hn x q hq e
theorem p9 {l:List aV} (h:Dg l):∀ (Mk pre:List aV),pre++Mk=l →
  ∀ P:List (List aV),P.length=cY pre→(∀ p∈P,∃ c∈pre,p=kC l c)→(∀ x∈pre,∃ p∈P,x∈p)→(Mk.foldl (yX l) P).length=cY l
 | [],pre,e,P,h1,_,_=>by rw [List.append_nil] at e; rw [← e]; exact h1
 | b :: Mk,pre,e,P,h1,h2,h3=>by
  rw [List.foldl_cons]
  have My:∀ c∈pre,c∈l:=fun c hc=>by rw [← e]; exact List.mem_append_left _ hc
  have O4:b∈l:=by rw [← e]; simp
  have hD:Dg (pre++b :: Mk):=by rw [e]; exact h
  have Wm:b∈kC l b:=(gd l b O4 b).2 .base
  by_cases hk:∃ q a,pre=q++[a]∧uD a=dq b
  ·obtain ⟨q,a,hq,Dl⟩:=hk
   have ha:a∈pre:=by rw [hq]; simp
   obtain ⟨p,hp,Jy⟩:=h3 a ha
   obtain ⟨c,hc,rfl⟩:=h2 p hp
   have r:DO l c a:=(gd l c (My c hc) a).1 Jy
   have t:kL a b=true:=by
    unfold kL
    rw [h.uD (My a ha)]
    simp [Dl]
   have hbp:b∈kC l c:=(gd l c (My c hc) b).2 (.step r O4 t)
   have es:yX l P b=P:=by
    unfold yX
    rw [if_pos (List.any_eq_true.2 ⟨_,hp,decide_eq_true hbp⟩)]
   rw [es]
   refine p9 h Mk (pre++[b]) (by rw [List.append_assoc]; exact e) P ?_ ?_ ?_
   ·rw [hq,mL,if_pos Dl,← hq,h1]; rfl
   ·intro p hp
    obtain ⟨c,hc,e⟩:=h2 p hp
    exact ⟨c,List.mem_append_left _ hc,e⟩
   ·intro x hx
    rcases List.mem_append.1 hx with hx | hx
    ·exact h3 x hx
    ·rw [List.mem_singleton] at hx; subst hx; exact ⟨_,hp,hbp⟩
  ·have hn:∀ a q,pre=q++[a]→uD a≠dq b:=fun a q hq Dl=>hk ⟨q,a,hq,Dl⟩
   have nb:b∉pre:=fun hb=>by
    have:=(List.pairwise_append.1 hD.up).2.2 b hb b (by simp)
    omega
   have es:yX l P b=P++[kC l b]:=by
    unfold yX
    rw [if_neg]
    rw [Bool.not_eq_true,List.any_eq_false]
    intro p hp
    obtain ⟨c,hc,rfl⟩:=h2 p hp
    rw [decide_eq_true_eq,gd l c (My c hc)]
    intro hr
    rw [← e] at hr
    exact nb (LV hD hn hc hr)
   rw [es]
   refine p9 h Mk (pre++[b]) (by rw [List.append_assoc]; exact e) _ ?_ ?_ ?_
   ·rw [List.length_append,h1,List.length_singleton]
    rcases List.eq_nil_or_concat pre with rfl | ⟨q,a,hq⟩
    ·rfl
    ·rw [List.concat_eq_append] at hq
     rw [hq,mL,if_neg (hn a q hq)]
   ·intro p hp
    rcases List.mem_append.1 hp with hp | hp
    ·obtain ⟨c,hc,e⟩:=h2 p hp
     exact ⟨c,List.mem_append_left _ hc,e⟩
    ·rw [List.mem_singleton] at hp; exact ⟨b,by simp,hp⟩
   ·intro x hx
    rcases List.mem_append.1 hx with hx | hx
    ·obtain ⟨p,hp,ZO⟩:=h3 x hx
     exact ⟨p,List.mem_append_left _ hp,ZO⟩
    ·rw [List.mem_singleton] at hx; subst hx; exact ⟨_,by simp,Wm⟩
theorem IJ {l:List aV} (h:Dg l):(Wk l).length=cY l:=
 p9 h l [] rfl [] rfl (fun p hp=>by cases hp) (fun x hx=>by cases hx)
def rW (prev:Bool):List UInt8→Nat
 | []=>0
 | c :: L=>(if c=66∧prev=false then 1 else 0)+rW (decide (c=66)) L
def bG (out:Bool) (p:Int × Int):List UInt8→List aV
 | []=>[]
 | c :: L=>(if c=66 then [((p.1,p.2,if out then 1 else -1):aV)] else [])++bG out (mv out p c) L
theorem Dx (out:Bool):∀ (L:List UInt8) (p:Int × Int) (acc:List aV),(dp out p L).foldl xJ acc=acc++bG out p L
 | [],p,acc=>by simp [dp,bG]
 | c :: L,p,acc=>by
  show (dp out (mv out p c) L).foldl xJ (xJ acc (DL out p c))=_
  rw [Dx out L (mv out p c),bG]
  by_cases hc:c=66
  ·subst hc
   have e:xJ acc (DL out p 66)=acc++[((p.1,p.2,if out then 1 else -1):aV)]:=by
    show (if (66:Int)=66 then acc++[(p.1,p.2,(mv out p 66).1 - p.1)] else acc)=_
    rw [if_pos rfl]
    have:(mv out p 66).1 - p.1=if out then 1 else -1:=by
     have s:cR 66=(1,1):=rfl
     unfold mv
     rw [s]
     cases out <;> simp <;> omega
    rw [this]
   rw [e,if_pos rfl,List.append_assoc]
  ·have e:xJ acc (DL out p c)=acc:=by
    unfold xJ
    rw [if_neg]
    intro h
    apply hc
    apply UInt8.toNat_inj.1
    have:(c.toNat:Int)=66:=h
    have h66:(66:UInt8).toNat=66:=rfl
    omega
   rw [e,if_neg hc,List.nil_append]
theorem Hb:∀ (L:List UInt8) (p:Int × Int),cY (bG true p L)=rW false L ∧
  (∀ q:aV,uD q=p→cY (q :: bG true p L)=1+rW true L) ∧
  (∀ q:aV,(uD q).1≤p.1→(uD q).2≤p.2→uD q≠p→cY (q :: bG true p L)=1+rW false L)
 | [],p=>⟨rfl,fun _ _=>rfl,fun _ _ _ _=>rfl⟩
 | c :: L,p=>by
  obtain ⟨hA,hB,hC⟩:=Hb L (mv true p c)
  by_cases hc:c=66
  ·subst hc
   have e:bG true p (66 :: L)=((p.1,p.2,1):aV) :: bG true (mv true p 66) L:=rfl
   have r1:rW false (66 :: L)=1+rW true L:=rfl
   have r2:rW true (66 :: L)=rW true L:=by show 0+rW true L=_; omega
   have b1:=hB (p.1,p.2,1) rfl
   rw [e,r1,r2]
   refine ⟨b1,fun q hq=>?_,fun q h1 h2 h3=>?_⟩
   ·have UH:uD q=dq (p.1,p.2,1):=hq
    rw [cY,b1,if_pos UH]; rfl
   ·have h3':uD q≠dq (p.1,p.2,1):=h3
    rw [cY,b1,if_neg h3']; omega
  ·have e:bG true p (c :: L)=bG true (mv true p c) L:=by rw [bG,if_neg hc]; rfl
   have r1:∀ b,rW b (c :: L)=rW false L:=fun b=>by rw [rW,if_neg (fun h=>hc h.1),decide_eq_false hc]; omega
   have s:=kz c
   have m1:(mv true p c).1=p.1+(cR c).1:=rfl
   have m2:(mv true p c).2=p.2+(cR c).2:=rfl
   have s2:(cR c).1=2∨(cR c).2=2:=by
    unfold cR
    by_cases h78:c=78
    ·rw [if_pos h78]; right; rfl
    ·rw [if_neg h78,if_neg hc]; left; rfl
   rw [e,r1,r1]
   refine ⟨hA,fun q hq=>?_,fun q h1 h2 h3=>?_⟩
   ·refine hC q ?_ ?_ ?_
    ·rw [hq,m1]; omega
    ·rw [hq,m2]; omega
    ·rw [hq]; intro e
     have e1:=congrArg Prod.fst e
     have e2:=congrArg Prod.snd e
     rw [m1] at e1; rw [m2] at e2
     omega
   ·refine hC q (by rw [m1]; omega) (by rw [m2]; omega) fun e=>?_
    have e1:=congrArg Prod.fst e
    have e2:=congrArg Prod.snd e
    rw [m1] at e1; rw [m2] at e2
    omega
theorem Hc (out:Bool):∀ (L:List UInt8) (p:Int × Int),∀ b∈bG out p L,p.1 - 2 * L.length≤b.1∧b.1≤p.1+2 * L.length∧p.2≤b.2.1∧b.2.1≤p.2+2 * L.length∧(b.1+b.2.1 - (p.1+p.2)) % 2=0∧b.2.2=if out then 1 else -1
 | [],p,b,hb=>by cases hb
 | c :: L,p,b,hb=>by
  rw [bG] at hb
  rw [List.length_cons]
  rcases List.mem_append.1 hb with hb | hb
  ·split at hb
   ·rw [List.mem_singleton] at hb
    subst hb
    exact ⟨by simp only; omega,by simp only; omega,by simp only; omega,by simp only; omega,by simp,rfl⟩
   ·cases hb
  ·obtain ⟨h1,h2,h3,h4,h5,h6⟩:=Hc out L (mv out p c) b hb
   have s:=kz c
   have m2:(mv out p c).2=p.2+(cR c).2:=rfl
   have m1:(mv out p c).1=p.1+(if out then (cR c).1 else -(cR c).1):=rfl
   rw [m1] at h1 h2 h5
   rw [m2] at h3 h4 h5
   refine ⟨?_,?_,?_,?_,?_,h6⟩ <;> (cases out <;> simp only [Bool.false_eq_true,if_false,if_true] at h1 h2 h5 <;> omega)
theorem PI (out:Bool):∀ (L:List UInt8) (p:Int × Int),(bG out p L).Pairwise fun a b=>a.2.1 < b.2.1
 | [],_=>.nil
 | c :: L,p=>by
  have ih:=PI out L (mv out p c)
  rw [bG]
  split
  ·rename_i hc
   subst hc
   rw [List.singleton_append,List.pairwise_cons]
   refine ⟨fun b hb=>?_,ih⟩
   have h3:=(Hc out L (mv out p 66) b hb).2.2.1
   have m2:(mv out p 66).2=p.2+1:=rfl
   simp only
   omega
  ·rw [List.nil_append]; exact ih
theorem LW (out:Bool):∀ (L:List UInt8) (p:Int × Int),(bG out p L).length=L.countP fun c=>c == 66
 | [],_=>rfl
 | c :: L,p=>by
  rw [bG,List.length_append,LW out L,List.countP_cons]
  by_cases hc:c=66
  ·simp [hc]; omega
  ·simp [hc]
theorem LX:∀ (L:List UInt8) (p:Int × Int),bG false (-p.1,p.2) L=(bG true p L).map fun b=>(-b.1,b.2.1,-1)
 | [],_=>rfl
 | c :: L,p=>by
  have ih:=LX L (mv true p c)
  have e:mv false (-p.1,p.2) c=(-(mv true p c).1,(mv true p c).2):=by
   unfold mv
   simp only [Bool.false_eq_true,if_false,if_true]
   refine Prod.ext ?_ rfl
   simp only
   omega
  rw [bG,bG,e,ih,List.map_append]
  split <;> rfl
theorem Dy (n:Int):∀ (L:List UInt8) (p:Int × Int),bG true (p.1+n,p.2) L=(bG true p L).map fun b=>(b.1+n,b.2.1,b.2.2)
 | [],_=>rfl
 | c :: L,p=>by
  have ih:=Dy n L (mv true p c)
  have e:mv true (p.1+n,p.2) c=((mv true p c).1+n,(mv true p c).2):=by
   unfold mv
   simp only [if_true]
   refine Prod.ext ?_ rfl
   simp only
   omega
  rw [bG,bG,e,ih,List.map_append]
  split <;> rfl
theorem Wn {L:List UInt8} {p:Int × Int} (h1:-90000≤p.1∧p.1≤90000) (h2:-90000≤p.2∧p.2≤90000) (hp:(p.1+p.2) % 2=0) (hL:L.length≤1000):Dg (bG true p L):=by
 refine ⟨fun b hb=>?_,PI true L p⟩
 obtain ⟨b1,b2,b3,b4,b5,b6⟩:=Hc true L p b hb
 obtain ⟨x,y,s⟩:=b
 have b6:s=1:=b6
 subst b6
 refine ⟨?_,rfl⟩
 simp only at b1 b2 b3 b4 b5
 have e1:aP (dq (x,y,1))=0:=by
  unfold aP dq
  simp only
  rw [if_neg (by omega),if_pos (by omega)]
 have e2:aP (eT (x,y,1))=0:=by
  unfold aP eT
  simp only
  rw [jA (by omega),jA (by omega),if_neg (by omega),if_pos (by omega)]
 unfold gW
 rw [if_neg (by rw [e1]; simp),if_neg (by simp),e2]
end Go.Proofs.YtophnjjjmikmeaaGreat
