/- Plain laws: sorted lists,each element once. -/
import Derived.Test.YtfiopgedfcaodaaGreatDoorAmKK
set_option linter.all false
namespace Go.Am
open Go Go.Sort
section
variable {α:Type} [DecidableEq α] {lt:α→α→Bool}
def Asc (lt:α→α→Bool) (l:List α):Prop:=l.Pairwise fun x y=>lt x y=true
omit [DecidableEq α] in
theorem asc_ext (hw:SWO lt):∀ {a b:List α},Asc lt a→Asc lt b→(∀ x,x∈a↔x∈b)→a=b
 | [],[],_,_,_=>rfl
 | [],y :: b,_,_,h=>by have:=(h y).2 (by simp); simp at this
 | x :: a,[],_,_,h=>by have:=(h x).1 (by simp); simp at this
 | x :: a,y :: b,ha,hb,h=>by
  have ha':=List.pairwise_cons.1 ha
  have hb':=List.pairwise_cons.1 hb
  have hxy:x=y:=by
   have h1:=(h x).1 (by simp)
   have h2:=(h y).2 (by simp)
   rcases List.mem_cons.1 h1 with h1 | h1
   ·exact h1
   ·rcases List.mem_cons.1 h2 with h2 | h2
    ·exact h2.symm
    ·have l1:=hb'.1 x h1
     have l2:=ha'.1 y h2
     have:=hw.trans _ _ _ l1 l2
     rw [hw.irrefl] at this
     cases this
  subst hxy
  congr 1
  refine asc_ext hw ha'.2 hb'.2 fun z=>?_
  constructor
  ·intro hz
   rcases List.mem_cons.1 ((h z).1 (by simp [hz])) with rfl | h2
   ·have:=ha'.1 z hz
    rw [hw.irrefl] at this
    cases this
   ·exact h2
  ·intro hz
   rcases List.mem_cons.1 ((h z).2 (by simp [hz])) with rfl | h2
   ·have:=hb'.1 z hz
    rw [hw.irrefl] at this
    cases this
   ·exact h2
def uqN (d:α) (l:List α):Nat→List α
 | 0=>[]
 | m+1=>if 0 < m∧l.getD m d=l.getD (m - 1) d then uqN d l m else uqN d l m++[l.getD m d]
theorem uqN_take (d:α) (l:List α):∀ m,m≤l.length→(∀ k,0 < k→k < m→l.getD k d≠l.getD (k - 1) d)→uqN d l m=l.take m
 | 0,_,_=>by simp [uqN]
 | m+1,hm,h=>by
  have e:l.getD m d=l[m]:=by simp [show m < l.length by omega]
  unfold uqN
  rw [if_neg (fun c=>h m c.1 (by omega) c.2),uqN_take d l m (by omega) fun k h1 h2=>h k h1 (by omega),e,List.take_succ,List.getElem?_eq_getElem (by omega)]
  rfl
theorem uqN_mem (d:α) (l:List α):∀ m,m≤l.length→∀ x,x∈uqN d l m↔x∈l.take m
 | 0,_,x=>by simp [uqN]
 | m+1,hm,x=>by
  have e:l.getD m d=l[m]:=by simp [show m < l.length by omega]
  have ih:=uqN_mem d l m (by omega)
  have et:l.take (m+1)=l.take m++[l[m]]:=by rw [List.take_succ,List.getElem?_eq_getElem (by omega)]; rfl
  unfold uqN
  rw [et]
  split
  ·rename_i hc
   rw [ih,List.mem_append,List.mem_singleton]
   constructor
   ·exact .inl
   ·rintro (h | rfl)
    ·exact h
    ·have e2:l.getD (m - 1) d=l[m - 1]:=by simp [show m - 1 < l.length by omega]
     rw [e,e2] at hc
     rw [hc.2,List.mem_take_iff_getElem]
     exact ⟨m - 1,by omega,rfl⟩
  ·rw [List.mem_append,List.mem_append,ih,e]
theorem uqN_asc (hw:SWO lt) (ht:∀ x y,lt x y=false→lt y x=false→x=y) (d:α) (l:List α) (hs:l.Pairwise fun x y=>lt y x=false):∀ m,m≤l.length→Asc lt (uqN d l m)
 | 0,_=>List.Pairwise.nil
 | m+1,hm=>by
  have ih:=uqN_asc hw ht d l hs m (by omega)
  have e:l.getD m d=l[m]:=by simp [show m < l.length by omega]
  unfold uqN
  split
  ·exact ih
  ·rename_i hc
   refine List.pairwise_append.2 ⟨ih,List.pairwise_singleton _ _,fun x hx y hy=>?_⟩
   rw [List.mem_singleton] at hy
   subst hy
   have hx':=(uqN_mem d l m (by omega) x).1 hx
   obtain ⟨k,hk,rfl⟩:=List.mem_take_iff_getElem.1 hx'
   have hk1:k < m:=by omega
   rw [e] at hc ⊢
   have h1:lt l[m] l[k]=false:=List.pairwise_iff_getElem.1 hs k m (by omega) (by omega) hk1
   cases hl:lt l[k] l[m] with
   | true=>rfl
   | false=>
    exfalso
    have heq:=ht _ _ hl h1
    -- the one before is between
    have h0:0 < m:=by omega
    have e2:l.getD (m - 1) d=l[m - 1]:=by simp [show m - 1 < l.length by omega]
    rw [e2] at hc
    apply hc
    refine ⟨h0,?_⟩
    have h2:lt l[m] l[m - 1]=false:=List.pairwise_iff_getElem.1 hs (m - 1) m (by omega) (by omega) (by omega)
    refine ht _ _ h2 ?_
    by_cases hkm:k=m - 1
    ·subst hkm; exact hl
    ·have h3:lt l[m - 1] l[k]=false:=List.pairwise_iff_getElem.1 hs k (m - 1) (by omega) (by omega) (by omega)
     rw [← heq]
     exact h3
def ins1 (lt:α→α→Bool) (d:α) (k:α) (l:List α):List α:=
 let at_:=(l.takeWhile fun x=>lt x k).length
 if at_=l.length∨l.getD at_ d≠k then l.take at_++[k]++l.drop at_ else l
omit [DecidableEq α] in
theorem takeWhile_split (p:α→Bool):∀ l:List α,(∀ x∈l.take (l.takeWhile p).length,p x=true)∧∀ h:(l.takeWhile p).length < l.length,p l[(l.takeWhile p).length]=false
 | []=>by simp
 | a :: l=>by
  obtain ⟨h1,h2⟩:=takeWhile_split p l
  by_cases ha:p a=true
  ·simp only [List.takeWhile_cons,ha,if_true,List.length_cons,List.take_succ_cons,List.mem_cons,forall_eq_or_imp,true_and,List.getElem_cons_succ]
   exact ⟨h1,fun h=>h2 (by omega)⟩
  ·simp only [List.takeWhile_cons,if_neg ha,List.length_nil,List.take_zero]
   refine ⟨by simp,fun _=>?_⟩
   rw [List.getElem_cons_zero]
   exact Bool.eq_false_iff.2 ha
theorem ins1_mem (d:α) (k:α) (l:List α) (x:α):x∈ins1 lt d k l↔x=k∨x∈l:=by
 unfold ins1
 simp only
 have hle:(l.takeWhile fun x=>lt x k).length≤l.length:=(List.takeWhile_sublist _).length_le
 generalize (l.takeWhile fun x=>lt x k).length=a at *
 have e:x∈l↔x∈l.take a∨x∈l.drop a:=by rw [← List.mem_append,List.take_append_drop]
 split
 ·simp only [List.mem_append,List.mem_singleton]
  rw [e]
  constructor
  ·rintro ((h | h) | h)
   ·exact .inr (.inl h)
   ·exact .inl h
   ·exact .inr (.inr h)
  ·rintro (h | h | h)
   ·exact .inl (.inr h)
   ·exact .inl (.inl h)
   ·exact .inr h
 ·rename_i h
  rw [not_or,Decidable.not_not] at h
  constructor
  ·exact .inr
  ·rintro (rfl | h2)
   ·have hl:a < l.length:=by omega
    have e2:l.getD a d=l[a]:=by simp [hl]
    rw [e2] at h
    rw [← h.2]
    exact List.getElem_mem hl
   ·exact h2
theorem ins1_asc (hw:SWO lt) (ht:∀ x y,lt x y=false→lt y x=false→x=y) (d:α) (k:α) (l:List α) (hl:Asc lt l):Asc lt (ins1 lt d k l):=by
 unfold ins1
 simp only
 obtain ⟨h1,h2⟩:=takeWhile_split (fun x=>lt x k) l
 have hle:(l.takeWhile fun x=>lt x k).length≤l.length:=(List.takeWhile_sublist _).length_le
 generalize (l.takeWhile fun x=>lt x k).length=a at *
 have hp:=List.pairwise_iff_getElem.1 hl
 split
 ·rename_i hc
  have hgt:∀ y∈l.drop a,lt k y=true:=by
   intro y hy
   obtain ⟨j,hj,rfl⟩:=List.getElem_of_mem hy
   rw [List.length_drop] at hj
   rw [List.getElem_drop]
   have hal:a < l.length:=by omega
   have e2:l.getD a d=l[a]:=by simp [hal]
   have hka:lt k l[a]=true:=by
    cases hh:lt k l[a] with
    | true=>rfl
    | false=>
     have:=ht _ _ (h2 hal) hh
     rcases hc with hc | hc
     ·omega
     ·rw [e2] at hc; exact absurd this hc
   by_cases h0:j=0
   ·subst h0; simpa using hka
   ·exact hw.trans _ _ _ hka (hp a (a+j) hal (by omega) (by omega))
  unfold Asc
  rw [List.append_assoc,List.pairwise_append]
  refine ⟨hl.take,?_,fun x hx y hy=>?_⟩
  ·rw [List.singleton_append,List.pairwise_cons]
   exact ⟨hgt,hl.drop⟩
  ·rw [List.singleton_append] at hy
   have hxk:=h1 x hx
   rcases List.mem_cons.1 hy with rfl | hy
   ·exact hxk
   ·exact hw.trans _ _ _ hxk (hgt y hy)
 ·exact hl
def insL (lt:α→α→Bool) (d:α) (l:List α):List α:=l.foldl (fun s k=>ins1 lt d k s) []
theorem insL_spec (hw:SWO lt) (ht:∀ x y,lt x y=false→lt y x=false→x=y) (d:α) (l:List α):Asc lt (insL lt d l)∧∀ x,x∈insL lt d l↔x∈l:=by
 have gen:∀ (l s:List α),Asc lt s→Asc lt (l.foldl (fun s k=>ins1 lt d k s) s)∧∀ x,x∈l.foldl (fun s k=>ins1 lt d k s) s↔x∈s∨x∈l:=by
  intro l
  induction l with
  | nil=>intro s hs; exact ⟨hs,fun x=>by simp⟩
  | cons k l ih=>
   intro s hs
   rw [List.foldl_cons]
   obtain ⟨h1,h2⟩:=ih _ (ins1_asc hw ht d k s hs)
   refine ⟨h1,fun x=>?_⟩
   rw [h2,ins1_mem,List.mem_cons]
   constructor
   ·rintro ((h | h) | h)
    ·exact .inr (.inl h)
    ·exact .inl h
    ·exact .inr (.inr h)
   ·rintro (h | h | h)
    ·exact .inl (.inr h)
    ·exact .inl (.inl h)
    ·exact .inr h
 obtain ⟨h1,h2⟩:=gen l [] List.Pairwise.nil
 exact ⟨h1,fun x=>by rw [show insL lt d l=l.foldl (fun s k=>ins1 lt d k s) [] from rfl,h2]; simp⟩
theorem ins1_len (d:α) (k:α) (l:List α):(ins1 lt d k l).length≤l.length+1:=by
 unfold ins1
 simp only
 split
 ·simp; omega
 ·omega
omit [DecidableEq α] in
theorem srt_spec (hw:SWO lt) (l:List α):(l.mergeSort fun x y=>!lt y x).Pairwise (fun x y=>lt y x=false)∧∀ x,x∈(l.mergeSort fun x y=>!lt y x)↔x∈l:=by
 refine ⟨?_,fun x=>(List.mergeSort_perm l _).mem_iff⟩
 have h:=List.pairwise_mergeSort (le:=fun x y=>!lt y x) (fun a b c h1 h2=>by
  simp only [Bool.not_eq_true'] at h1 h2 ⊢
  exact hw.ntrans _ _ _ h2 h1) (fun a b=>by
  simp only [Bool.or_eq_true,Bool.not_eq_true']
  cases h1:lt b a with
  | false=>exact .inl rfl
  | true=>
   right
   cases h2:lt a b with
   | false=>rfl
   | true=>
    have:=hw.trans _ _ _ h1 h2
    rw [hw.irrefl] at this
    cases this) l
 exact h.imp fun hab=>by simpa using hab
theorem uq_srt (hw:SWO lt) (ht:∀ x y,lt x y=false→lt y x=false→x=y) (d:α) (l:List α):uqN d (l.mergeSort fun x y=>!lt y x) l.length=insL lt d l:=by
 obtain ⟨s1,s2⟩:=srt_spec hw l
 have hlen:(l.mergeSort fun x y=>!lt y x).length=l.length:=List.length_mergeSort _
 obtain ⟨i1,i2⟩:=insL_spec hw ht d l
 refine asc_ext hw (uqN_asc hw ht d _ s1 _ (Nat.le_of_eq hlen.symm)) i1 fun x=>?_
 rw [uqN_mem d _ _ (Nat.le_of_eq hlen.symm),List.take_of_length_le (Nat.le_of_eq hlen),s2,i2]
end
theorem loopR_cnt {V X S:Type} {rd:V→Option (V ⊕ X)} (m:Nat) (E:S→Nat→V) (P:S→Nat→Prop) (Q:X→Prop)
  (h:∀ s k,k < m→P s k→∃ s',rd (E s k)=some (.inl (E s' (k+1)))∧P s' (k+1))
  (h0:∀ s,P s m→∃ x,rd (E s m)=some (.inr x)∧Q x) :
  ∀ n s k,k≤m→m < n+k→P s k→∃ x,loopR rd n (E s k)=some x∧Q x
 | 0,s,k,hk,hn,_=>by omega
 | n+1,s,k,hk,hn,hP=>by
  rw [loopR_succ]
  by_cases hlt:k < m
  ·obtain ⟨s',e,hP'⟩:=h s k hlt hP
   rw [e]
   exact loopR_cnt m E P Q h h0 n s' (k+1) hlt (by omega) hP'
  ·obtain rfl:k=m:=by omega
   obtain ⟨x,e,hQ⟩:=h0 s hP
   rw [e]
   exact ⟨x,rfl,hQ⟩
theorem loopR_cne {V X S:Type} {rd:V→Option (V ⊕ X)} (m:Nat) (E:S→Nat→V) (P:S→Nat→Prop) (Q:X→Prop)
  (h:∀ s k,k < m→P s k→(∃ s',rd (E s k)=some (.inl (E s' (k+1)))∧P s' (k+1))∨∃ x,rd (E s k)=some (.inr x)∧Q x)
  (h0:∀ s,P s m→∃ x,rd (E s m)=some (.inr x)∧Q x) :
  ∀ n s k,k≤m→m < n+k→P s k→∃ x,loopR rd n (E s k)=some x∧Q x
 | 0,s,k,hk,hn,_=>by omega
 | n+1,s,k,hk,hn,hP=>by
  rw [loopR_succ]
  by_cases hlt:k < m
  ·rcases h s k hlt hP with ⟨s',e,hP'⟩ | ⟨x,e,hQ⟩
   ·rw [e]
    exact loopR_cne m E P Q h h0 n s' (k+1) hlt (by omega) hP'
   ·rw [e]
    exact ⟨x,rfl,hQ⟩
  ·obtain rfl:k=m:=by omega
   obtain ⟨x,e,hQ⟩:=h0 s hP
   rw [e]
   exact ⟨x,rfl,hQ⟩
theorem find_tw {α:Type} (l:List α) (p:α→Bool) (d:α):(match (List.range l.length).find? fun j=>!p (l.getD j d) with | some j=>(j:Int) | none=>(l.length:Int))=((l.takeWhile p).length:Int):=by
 obtain ⟨h1,h2⟩:=takeWhile_split p l
 have hle:(l.takeWhile p).length≤l.length:=(List.takeWhile_sublist _).length_le
 generalize (l.takeWhile p).length=a at *
 have hlow:∀ j,j < a→p (l.getD j d)=true:=fun j hj=>by
  have e:l.getD j d=l[j]:=by simp [show j < l.length by omega]
  rw [e]
  exact h1 _ (List.mem_take_iff_getElem.2 ⟨j,by omega,rfl⟩)
 cases hf:(List.range l.length).find? fun j=>!p (l.getD j d) with
 | none=>
  rw [List.find?_eq_none] at hf
  have:¬ a < l.length:=fun hlt=>by
   have e:l.getD a d=l[a]:=by simp [hlt]
   have:=hf a (List.mem_range.2 hlt)
   rw [e,h2 hlt] at this
   simp at this
  show (l.length:Int)=(a:Int)
  omega
 | some j=>
  have hj:=List.mem_range.1 (List.mem_of_find?_eq_some hf)
  have hp:=List.find?_some hf
  have hja:a≤j:=by
   by_cases hc:a≤j
   ·exact hc
   ·have:=hlow j (by omega)
    rw [this] at hp
    simp at hp
  have hfirst:=(List.find?_eq_some_iff_getElem.1 hf).2
  obtain ⟨i,hi,hij,hall⟩:=hfirst
  rw [List.getElem_range] at hij
  subst hij
  show (i:Int)=(a:Int)
  by_cases hc:i=a
  ·rw [hc]
  ·have hai:a < i:=by omega
   have:=hall a hai
   rw [List.getElem_range] at this
   have e:l.getD a d=l[a]:=by simp [show a < l.length by omega]
   rw [e,h2 (by omega)] at this
   simp at this
end Go.Am
