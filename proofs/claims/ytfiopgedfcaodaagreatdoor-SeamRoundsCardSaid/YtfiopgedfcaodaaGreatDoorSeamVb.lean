/- Plain laws: a rate printed is the rate read. -/
import Derived.Test.YtfiopgedfcaodaaGreatDoorSeamVa
set_option linter.all false
namespace Go.Proofs.YtfiopgedfcaodaaGreatDoor
open Go Go.Am
set_option maxRecDepth 100000
def dg3 (u:Nat):List UInt8:=if u < 10 then [UInt8.ofNat (48+u)] else if u < 100 then [UInt8.ofNat (48+u / 10),UInt8.ofNat (48+u % 10)] else [UInt8.ofNat (48+u / 10 / 10),UInt8.ofNat (48+u / 10 % 10),UInt8.ofNat (48+u % 10)]
theorem dec_dg3 (u:Nat) (h:u < 1000):Lib.decDigits u=dg3 u:=by
 unfold dg3
 rw [Lib.decDigits]
 split
 ·rfl
 ·rw [Lib.decDigits]
  split
  ·rw [if_pos (by omega)]; rfl
  ·rw [if_neg (by omega),Lib.decDigits,dif_pos (by omega)]; rfl
def numOk (u:Nat):Bool:=Nat.beq u 0 || ((numB (dg3 u) == some (u:Int))&&Nat.beq ((dg3 u).count 120) 0&&Nat.beq ((dg3 u).count 32) 0)
theorem nums_ok:(List.range 1000).all numOk=true:=by kernel_rfl
theorem num_dec {u:Nat} (h0:1≤u) (h:u < 1000):numB (Lib.decDigits u)=some (u:Int)∧(Lib.decDigits u).count 120=0∧(Lib.decDigits u).count 32=0:=by
 rw [dec_dg3 u h]
 have:=List.all_eq_true.1 nums_ok u (List.mem_range.2 h)
 unfold numOk at this
 have hb:Nat.beq u 0=false:=by
  cases hb:Nat.beq u 0 with
  | false=>rfl
  | true=>have:=Nat.eq_of_beq_eq_true hb; omega
 rw [hb,Bool.false_or,Bool.and_eq_true,Bool.and_eq_true] at this
 exact ⟨by simpa using this.1.1,Nat.eq_of_beq_eq_true this.1.2,Nat.eq_of_beq_eq_true this.2⟩
theorem cutL_app (c:UInt8) (b:List UInt8):∀ a:List UInt8,a.count c=0→cutL c (a++c :: b)=(a,b,true)
 | [],_=>by simp [cutL]
 | x :: a,h=>by
  have hx:x≠c:=fun e=>by subst e; simp at h
  rw [List.count_cons_of_ne hx] at h
  rw [List.cons_append,cutL,if_neg hx,cutL_app c b a h]
theorem splitL_app (c:UInt8) (b:List UInt8):∀ a:List UInt8,a.count c=0→splitL c (a++c :: b)=a :: splitL c b
 | [],_=>by simp [splitL]
 | x :: a,h=>by
  have hx:x≠c:=fun e=>by subst e; simp at h
  rw [List.count_cons_of_ne hx] at h
  rw [List.cons_append,splitL_cons,if_neg hx,splitL_app c b a h]
  rfl
theorem grp_word {k x:Nat} (hk:1≤k) (hk':k < 1000) (hx:1≤x) (hx':x < 1000):grp (wordOf k x)=some ((k:Int),(x:Int)):=by
 unfold grp wordOf
 rw [List.append_assoc,List.singleton_append,cutL_app 120 _ _ (num_dec hk hk').2.1]
 simp only [if_true,(num_dec hk hk').1,(num_dec hx hx').1]
theorem word_32 {k x:Nat} (hk:1≤k) (hk':k < 1000) (hx:1≤x) (hx':x < 1000):(wordOf k x).count 32=0:=by
 unfold wordOf
 rw [List.count_append,List.count_append,(num_dec hk hk').2.2,(num_dec hx hx').2.2]
 rfl
theorem split_join:∀ ws:List (List UInt8),ws≠[]→(∀ w∈ws,w.count 32=0)→splitL 32 (joinL ws [32])=ws
 | [],h,_=>absurd rfl h
 | [a],_,h=>by
  rw [joinL]
  exact splitL_count0 _ _ (h a List.mem_cons_self)
 | a :: b :: l,_,h=>by
  rw [joinL,List.append_assoc,List.singleton_append,splitL_app 32 _ a (h a List.mem_cons_self),split_join (b :: l) (by simp) fun w hw=>h w (List.mem_cons_of_mem _ hw)]
  simp
def sml1 (l:List Int):Prop:=∀ x∈l,1≤x∧x < 1000
theorem rateW_32:∀ (n:Nat) (l:List Int),l.length < 1000→sml1 l→∀ w∈rateW n l,w.count 32=0
 | 0,_,_,_,w,h=>by cases h
 | n+1,[],_,_,w,h=>by cases h
 | n+1,x :: l,hl,hx,w,h=>by
  have hp:=headN_pos (l:=x :: l) (by simp)
  simp only [rateW,List.mem_cons] at h
  rcases h with rfl | h
  ·have:=hx x List.mem_cons_self
   exact word_32 (by omega) (by omega) (by omega) (by omega)
  ·exact rateW_32 n _ (by rw [List.length_drop]; omega) (fun y hy=>hx y (List.mem_of_mem_drop hy)) w h
theorem head_take (l:List Int) (x:Int) (k:Nat) (hk:headN (x :: l)=k):x :: l=List.replicate k x++(x :: l).drop k:=by
 have hp:=headN_pos (l:=x :: l) (by simp)
 have e:(x :: l).take k=List.replicate k x:=by
  apply List.ext_getElem
  ·rw [List.length_take,List.length_replicate]; omega
  ·intro j h1 h2
   rw [List.length_take] at h1
   have:=(headN_at (x :: l) (by simp) j (by omega)).1 (by omega)
   rw [List.getElem_take,List.getElem_replicate,this]
   rfl
 rw [← e,List.take_append_drop]
theorem parse_rate:∀ (n:Nat) (l:List Int),l.length≤n→l.length < 1000→sml1 l→∀ (G:List (Int × Int)) (t:Int),(∀ x∈l.head?,lastR G≠x) →
  ∃ gs:List (Int × Int),foldI stW (G,t) (rateW n l)=.inl (G++gs,t+(l.length:Int))∧∀ s:List Int,gs.foldl (fun s g=>s++List.replicate g.1.toNat g.2) s=s++l:=by
 intro n
 induction n with
 | zero=>
  intro l h _ _ G t _
  have:l=[]:=List.length_eq_zero_iff.1 (by omega)
  subst this
  exact ⟨[],by simp [rateW,foldI],by simp⟩
 | succ n ih=>
  intro l h hl hs G t hG
  cases l with
  | nil=>exact ⟨[],by simp [rateW,foldI],by simp⟩
  | cons x l=>
   have hp:=headN_pos (l:=x :: l) (by simp)
   have hx:=hs x List.mem_cons_self
   have hne:¬ lastR G=x:=hG x (by simp)
   obtain ⟨k,hk⟩:∃ k,headN (x :: l)=k:=⟨_,rfl⟩
   rw [hk] at hp
   have ht:=head_take l x k hk
   have hat:=fun hlt=>(headN_at (x :: l) (by simp) k hlt).2 hk.symm
   have hd:((x :: l).drop k).length=(x :: l).length - k:=List.length_drop
   have hlc:(x :: l).length=l.length+1:=List.length_cons
   have ew:rateW (n+1) (x :: l)=wordOf k x.toNat :: rateW n ((x :: l).drop k):=by rw [rateW,hk]
   obtain ⟨gs,e1,e2⟩:=ih ((x :: l).drop k) (by omega) (by omega) (fun y hy=>hs y (List.mem_of_mem_drop hy)) (G++[((k:Int),x)]) (t+(k:Int)) (fun y hy=>by
    rw [lastR_snoc]
    rw [List.head?_drop] at hy
    have hlt:k < (x :: l).length:=by
     rcases Nat.lt_or_ge k (x :: l).length with h | h
     ·exact h
     ·rw [List.getElem?_eq_none h] at hy; cases hy
    rw [List.getElem?_eq_getElem hlt] at hy
    cases hy
    exact fun e=>hat hlt e.symm)
   refine ⟨((k:Int),x) :: gs,?_,fun s=>?_⟩
   ·have eg:grp (wordOf k x.toNat)=some ((k:Int),x):=by
     rw [grp_word (by omega) (by omega) (by omega) (by omega)]
     rw [show ((x.toNat:Nat):Int)=x by omega]
    have es:stW (G,t) (wordOf k x.toNat)=.inl (G++[((k:Int),x)],t+(k:Int)):=by
     unfold stW
     rw [eg]
     simp only [hne,if_false]
    rw [ew,foldI,es,Sum.elim_inl,e1]
    congr 2
    ·simp
    ·rw [hd]; omega
   ·rw [List.foldl_cons,e2,Int.toNat_natCast,List.append_assoc,← ht]
theorem parR_rate (l:List Int) (h:chkR l=0):parR (rateT l)=(l,0):=by
 obtain ⟨h1,h2,h3,h4⟩:=chkR_ok h
 have hne:l≠[]:=fun e=>by subst e; simp at h1
 have hs:sml1 l:=fun x hx=>by have:=h3 x hx; omega
 have hsm:small l:=fun x hx=>by have:=h3 x hx; omega
 have hlen:(rateT l).length≤4096:=by
  have q1:=rateW_len l.length l
  have q2:=joinL_len [32] (by simp) (rateW l.length l) 7 fun w hw=>(rateW_word _ l (by omega) hsm w hw).2
  have:(rateW l.length l).length * (7+1)≤256 * 8:=Nat.mul_le_mul (by omega) (by omega)
  unfold rateT
  omega
 have hw:rateW l.length l≠[]:=by
  cases l with
  | nil=>exact absurd rfl hne
  | cons x l=>simp [rateW]
 have hsp:splitL 32 (rateT l)=rateW l.length l:=split_join _ hw (rateW_32 _ l (by omega) hs)
 obtain ⟨gs,e1,e2⟩:=parse_rate l.length l (Nat.le_refl _) (by omega) hs [] 0 (fun x hx=>by
  have:=h3 x (List.mem_of_mem_head? hx)
  show ¬ (0:Int)=x
  omega)
 have eo:outR gs=l:=by
  unfold outR
  rw [e2,List.nil_append]
 unfold parR
 rw [if_neg (by omega),hsp,e1]
 simp only [List.nil_append,Int.zero_add]
 rw [if_neg (by omega),eo,if_pos h]
theorem from_even {n L:Nat} (hn:1≤n) (hnL:n≤L) (hL:L≤256):fromR (evRuns n L 0)=jns (n:Int) (L:Int):=by
 have gen:∀ j,j≤n→blkL 0 ((evRuns n L 0).take j)=(List.range (evC n L j)).map fun k=>((evQ n L k:Nat):Int):=by
  intro j
  induction j with
  | zero=>intro _; rw [evC_zero hn]; rfl
  | succ j ih=>
   intro hj
   have hlen:(evRuns n L 0).length=n:=by simp [evRuns]
   have hlt:j < (evRuns n L 0).length:=by omega
   have et:(evRuns n L 0).take (j+1)=(evRuns n L 0).take j++[((evC n L (j+1):Int) - (evC n L j:Int))]:=by
    rw [List.take_add_one,List.getElem?_eq_getElem hlt]
    simp [evRuns]
   have el:((evRuns n L 0).take j).length=j:=by rw [List.length_take]; omega
   have hm:=evC_succ hn hnL j
   rw [et,blkL_snoc,ih (by omega),el,show evC n L (j+1)=evC n L j+(evC n L (j+1) - evC n L j) by omega,List.range_add,List.map_append,List.map_map]
   congr 1
   apply List.ext_getElem
   ·simp; omega
   ·intro t h1 h2
    have ht:t < evC n L (j+1) - evC n L j:=by simpa using h2
    have:evQ n L (evC n L j+t)=j:=(evQ_iff hn hnL).2 ⟨by omega,by omega⟩
    simp [this]
 have hall:=gen n (Nat.le_refl _)
 have hlen:(evRuns n L 0).length=n:=by simp [evRuns]
 rw [List.take_of_length_le (by omega),evC_all hn] at hall
 rw [fromR_blk,hall,jns_nat]
 have hmax:max n L=L:=by omega
 rw [hmax]
 unfold prsL
 rw [List.length_map,List.length_range]
 apply List.map_congr_left
 intro k hk
 have hk:=List.mem_range.1 hk
 rw [evQ_full (by omega)]
 congr 1
 simp [hk]
end Go.Proofs.YtfiopgedfcaodaaGreatDoor
