/- Plain laws: numerals,digits,the pieces of a text. -/
import Derived.Test.YtfiopgedfcaodaaGreatDoorSeamTm
import Derived.Test.YtfiopgedfcaodaaGreatDoorSeamQb
import Derived.Test.YtfiopgedfcaodaaGreatDoorSeamKA
set_option linter.all false
namespace Go.Proofs.YtfiopgedfcaodaaGreatDoor
open Go Go.Am
set_option maxRecDepth 100000
theorem itoa_nat (u:Nat):Lib.itoa (u:Int)=Lib.decDigits u:=by unfold Lib.itoa; rw [if_neg (by omega)]; simp
theorem dec_len (u:Nat) (h:u < 1000):1≤(Lib.decDigits u).length∧(Lib.decDigits u).length≤3:=by
 rw [Lib.decDigits]
 split
 ·simp
 ·rw [Lib.decDigits]
  split
  ·simp
  ·rw [Lib.decDigits,dif_pos (by omega)]; simp
theorem itoaG_nat (u:Nat) (h:u < 1000):itoaGT (u:Int)=some (Lib.decDigits u):=by
 unfold itoaGT
 rw [itoa_nat,decide_eq_true (by omega),decide_eq_true (by omega)]
 rfl
def wordOf (k:Nat) (x:Nat):List UInt8:=Lib.decDigits k++[120]++Lib.decDigits x
theorem word_len {k x:Nat} (hk:k < 1000) (hx:x < 1000):1≤(wordOf k x).length∧(wordOf k x).length≤7:=by
 have:=dec_len k hk
 have:=dec_len x hx
 simp [wordOf]; omega
def headN:List Int→Nat
 | []=>0
 | x :: l=>(l.takeWhile (· == x)).length+1
def rateW:Nat→List Int→List (List UInt8)
 | 0,_=>[]
 | _+1,[]=>[]
 | n+1,x :: l=>wordOf (headN (x :: l)) x.toNat :: rateW n ((x :: l).drop (headN (x :: l)))
theorem headN_pos {l:List Int} (h:l≠[]):1≤headN l∧headN l≤l.length:=by
 cases l with
 | nil=>exact absurd rfl h
 | cons x l=>
  have:=List.Sublist.length_le (List.takeWhile_sublist (p:=(· == x)) (l:=l))
  simp [headN]; omega
theorem takeWhile_at {α:Type} (p:α→Bool):∀ (l:List α) (j:Nat) (hj:j < l.length),(j < (l.takeWhile p).length→p l[j]=true)∧(j=(l.takeWhile p).length→p l[j]=false)
 | [],_,hj=>by simp at hj
 | a :: l,j,hj=>by
  cases hp:p a with
  | false=>
   rw [List.takeWhile_cons_of_neg (by simp [hp])]
   constructor
   ·intro h; simp at h
   ·intro h; have h:j=0:=by simpa using h
    subst h; exact hp
  | true=>
   rw [List.takeWhile_cons_of_pos hp]
   cases j with
   | zero=>exact ⟨fun _=>hp,fun h=>by simp at h⟩
   | succ j=>
    have:=takeWhile_at p l j (by simpa using hj)
    simp only [List.length_cons,List.getElem_cons_succ]
    exact ⟨fun h=>this.1 (by omega),fun h=>this.2 (by omega)⟩
theorem headN_at (l:List Int) (hl:l≠[]) (j:Nat) (hj:j < l.length):(j < headN l→l[j]=l[0]'(by omega))∧(j=headN l→¬ l[j]=l[0]'(by omega)):=by
 cases l with
 | nil=>exact absurd rfl hl
 | cons x l=>
  cases j with
  | zero=>exact ⟨fun _=>rfl,fun h=>by simp [headN] at h⟩
  | succ j=>
   have hj':j < l.length:=by simpa using hj
   have:=takeWhile_at (· == x) l j hj'
   simp only [List.getElem_cons_succ,List.getElem_cons_zero,headN]
   exact ⟨fun h=>by simpa using this.1 (by omega),fun h=>by simpa using this.2 (by omega)⟩
theorem rateW_len:∀ (n:Nat) (l:List Int),(rateW n l).length≤l.length
 | 0,_=>Nat.zero_le _
 | n+1,[]=>Nat.zero_le _
 | n+1,x :: l=>by
  have hp:=headN_pos (l:=x :: l) (by simp)
  have:=rateW_len n ((x :: l).drop (headN (x :: l)))
  simp only [rateW,List.length_cons]
  rw [List.length_drop,List.length_cons] at this
  omega
def small (l:List Int):Prop:=∀ x∈l,0≤x∧x < 1000
theorem rateW_word:∀ (n:Nat) (l:List Int),l.length < 1000→small l→∀ w∈rateW n l,1≤w.length∧w.length≤7
 | 0,_,_,_,w,h=>by cases h
 | n+1,[],_,_,w,h=>by cases h
 | n+1,x :: l,hl,hx,w,h=>by
  have hp:=headN_pos (l:=x :: l) (by simp)
  simp only [rateW,List.mem_cons] at h
  rcases h with rfl | h
  ·have:=hx x List.mem_cons_self
   exact word_len (by omega) (by omega)
  ·exact rateW_word n _ (by rw [List.length_drop]; omega) (fun y hy=>hx y (List.mem_of_mem_drop hy)) w h
theorem joinL_len (sep:List UInt8) (hs:sep.length≤1):∀ (ws:List (List UInt8)) (c:Nat),(∀ w∈ws,w.length≤c)→(joinL ws sep).length≤ws.length * (c+1)
 | [],_,_=>by simp [joinL]
 | [a],c,h=>by
  have:=h a List.mem_cons_self
  simp [joinL]; omega
 | a :: b :: l,c,h=>by
  have h1:=h a List.mem_cons_self
  have h2:=joinL_len sep hs (b :: l) c (fun w hw=>h w (List.mem_cons_of_mem _ hw))
  simp only [joinL,List.length_append,List.length_cons] at h2 ⊢
  have:(l.length+1+1) * (c+1)=(l.length+1) * (c+1)+(c+1):=by rw [Nat.add_mul (l.length+1)]; omega
  omega
theorem snoc9 (l:List (List UInt8)) (s:List UInt8):List.map n9 l++[AV.str s]=List.map n9 (l++[s]):=by rw [List.map_append]; rfl
theorem at9 (l:List (List UInt8)) {k:Nat} (hk:k < l.length):d9 (nthD (List.map n9 l) k)=l[k]∧Pat.fits p9 (nthD (List.map n9 l) k)=true:=by
 rw [nthD_map n9 l k hk,dn9,fn9]
 exact ⟨rfl,rfl⟩
section
variable {m:Int} {N:Nat} (hN:Big N)
include hN
theorem R82_in (l:List Int) (ws:List (List UInt8)) (h0:l≠[]) (hl:l.length < 1000):loopR (R82x129178 m N (l,ws)) N (ws,0,0)=some (ws,(headN l:Int)):=by
 have hp:=headN_pos h0
 have hl0:0 < l.length:=by omega
 obtain ⟨z1,z2⟩:=at3 l hl0
 have z0:decide ((0:Int)≤0∧0 < (l.length:Int))=true:=decide_eq_true (by omega)
 have key:=loopR_count (rd:=R82x129178 m N (l,ws)) (headN l) (fun k=>(ws,(k:Int),(k:Int))) (ws,(headN l:Int)) (fun k hk=>by
  have hk':k < l.length:=by omega
  obtain ⟨a1,a2⟩:=at3 l hk'
  have e:=(headN_at l h0 k hk').1 hk
  have eb:(l[k] != l[0])=false:=by rw [e]; simp
  simp only [R82x129178,List.length_map,Int.toNat_natCast,show Int.toNat 0=0 from rfl,a1,a2,z1,z2,lt_range hk',in_range hk',z0,Bool.and_self,cond_true,eb,cond_false,fa9,md9,Bool.and_true,Option.bind_some,decide_true,w_succ (show k < 9223372036854775807 by omega)]) (by
  by_cases hk':headN l < l.length
  ·obtain ⟨a1,a2⟩:=at3 l hk'
   have e:=(headN_at l h0 _ hk').2 rfl
   have eb:(l[headN l] != l[0])=true:=bne_iff_ne.2 e
   simp only [R82x129178,List.length_map,Int.toNat_natCast,show Int.toNat 0=0 from rfl,a1,a2,z1,z2,lt_range hk',in_range hk',z0,Bool.and_self,cond_true,eb,fa9,md9,Bool.and_true,Option.bind_some,decide_true]
  ·have e:decide (((headN l:Nat):Int) < (l.length:Int))=false:=decide_eq_false (by omega)
   simp only [R82x129178,List.length_map,e,cond_false,fa9,md9,Bool.and_true,cond_true,Option.bind_some,decide_true]) N 0 (Nat.zero_le _) (by unfold Big at hN; omega)
 exact key
theorem R82_nil (ws:List (List UInt8)):R82x252 m N ([],ws)=some (.inr ws):=by
 clear hN
 simp only [R82x252,List.map_nil,List.length_nil,Int.natCast_zero,gt_iff_lt,Int.lt_irrefl,decide_false,cond_false,fa9,md9,Bool.and_true,cond_true,Option.bind_some,decide_true]
theorem R82_step (x:Int) (l:List Int) (ws:List (List UInt8)) (hb:(x :: l).length+ws.length < 1000) (hx0:0≤x∧x < 1000):R82x252 m N (x :: l,ws)=some (.inl ((x :: l).drop (headN (x :: l)),ws++[wordOf (headN (x :: l)) x.toNat])):=by
 have hp:=headN_pos (l:=x :: l) (by simp)
 have hlen:(x :: l).length < 1000:=by omega
 obtain ⟨z1,z2⟩:=at3 (x :: l) (show 0 < (x :: l).length by simp)
 have e1:itoaGT x=some (Lib.decDigits x.toNat):=by
  have:=itoaG_nat x.toNat (by omega)
  rwa [show ((x.toNat:Nat):Int)=x by omega] at this
 have z3:d3 (nthD (List.map n3 (x :: l)) 0)=x:=z1
 have g1:decide ((((x :: l).length:Nat):Int) > 0)=true:=decide_eq_true (by simp)
 have z0:decide ((0:Int)≤0∧0 < (((x :: l).length:Nat):Int))=true:=decide_eq_true (by simp)
 have ge:=itoaG_nat (headN (x :: l)) (by omega)
 have l1:=dec_len (headN (x :: l)) (by omega)
 have l2:=dec_len x.toNat (by omega)
 have hR:=R82_in (m:=m) hN (x :: l) ws (by simp) hlen
 have e2:subA (headN (x :: l)) (x :: l).length (List.map n3 (x :: l))=List.map n3 ((x :: l).drop (headN (x :: l))):=by
  rw [sub_map3,List.take_of_length_le (Nat.le_refl _)]
 unfold wordOf
 clear z1
 generalize hK:headN (x :: l)=k at *
 generalize hL:x :: l=L at *
 generalize hA:Lib.decDigits k=A at *
 generalize hB:Lib.decDigits x.toNat=B at *
 have c1:decide (A.length+([120]:List UInt8).length≤9223372036854775807)=true:=decide_eq_true (by simp; omega)
 have c2:decide ((A++([120]:List UInt8)).length+B.length≤9223372036854775807)=true:=decide_eq_true (by simp; omega)
 have c3:decide ((ws.length+1) * 16≤140737488355328)=true:=decide_eq_true (by omega)
 have c4:decide ((0:Int)≤(k:Int)∧(k:Int)≤((L.length:Nat):Int))=true:=decide_eq_true (by omega)
 simp only [R82x252,List.length_map,g1,cond_true,fa9,md9,Bool.and_true,Option.bind_some,decide_true,z0,show Int.toNat 0=0 from rfl,z3,z2,Bool.and_self,beq_self_eq_true,e1,md3,snoc9]
 rw [hR,Option.bind_some]
 dsimp only
 rw [ge,Option.bind_some,c1,c2,c3,c4,cond_true,cond_true,Bool.and_self,cond_true,cond_true,Int.toNat_natCast,e2,fa3,md3,cond_true,Option.bind_some]
 dsimp only
 rw [List.length_append,List.length_singleton,decide_eq_true rfl,cond_true]
 rfl
theorem R82_out (n:Nat):∀ (l:List Int) (ws:List (List UInt8)) (M:Nat),l.length≤n→n < M→l.length+ws.length < 1000→small l→loopR (R82x252 m N) M (l,ws)=some (ws++rateW n l):=by
 induction n with
 | zero=>
  intro l ws M h hM _ _
  have:l=[]:=List.length_eq_zero_iff.1 (by omega)
  subst this
  obtain ⟨M,rfl⟩:∃ M',M=M'+1:=⟨M - 1,by omega⟩
  rw [loopR_succ,R82_nil hN,Option.bind_some,Sum.elim_inr,rateW,List.append_nil]
 | succ n ih=>
  intro l ws M h hM hb hx
  obtain ⟨M,rfl⟩:∃ M',M=M'+1:=⟨M - 1,by omega⟩
  cases l with
  | nil=>rw [loopR_succ,R82_nil hN,Option.bind_some,Sum.elim_inr,rateW,List.append_nil]
  | cons x l=>
   have hp:=headN_pos (l:=x :: l) (by simp)
   have hx0:=hx x List.mem_cons_self
   rw [loopR_succ,R82_step hN x l ws hb hx0,Option.bind_some,Sum.elim_inl]
   have hd:((x :: l).drop (headN (x :: l))).length≤l.length:=by rw [List.length_drop,List.length_cons]; omega
   have hl1:l.length≤n:=by simpa using h
   have hb':l.length+1+ws.length < 1000:=by simpa using hb
   rw [ih _ _ M (by omega) (by omega) (by rw [List.length_append,List.length_singleton]; omega) (fun y hy=>hx y (List.mem_of_mem_drop hy))]
   rw [List.append_assoc]
   rfl
end
section
variable {m:Int} {N:Nat} (hN:Big N) (a:List Int) (ha:a.length < 1000) (hx:small a)
include hN ha
include hx
end
end Go.Proofs.YtfiopgedfcaodaaGreatDoor
