/- Plain laws: the knots of a net. -/
import Derived.Test.YtfiopgedfcaodaaGreatDoorSeamPk
set_option linter.all false
namespace Go.Proofs.YtfiopgedfcaodaaGreatDoor
open Go Go.Am Go.Sort
set_option maxRecDepth 100000
def ltK:Int × Int → Int × Int → Bool:=ltOf cfK
theorem ltK_eq (x y:Int × Int):ltK x y = decide (x.2 < y.2 ∨ x.2 = y.2 ∧ x.1 < y.1):=cfK_lt x y
def flatK2:List P3 → List (Int × Int)
 | []=>[]
 | b :: l=>loK b :: upK b :: flatK2 l
theorem flat_len:∀ l:List P3,(flatK2 l).length = 2 * l.length
 | []=>rfl
 | b :: l=>by rw [flatK2,List.length_cons,List.length_cons,flat_len l,List.length_cons]; omega
theorem flat_get:∀ (l:List P3) (k:Nat) (h:k / 2 < l.length) (h2:k < (flatK2 l).length),(flatK2 l)[k] = if k % 2 = 0 then loK l[k / 2] else upK l[k / 2]
 | [],k,h,_=>absurd h (Nat.not_lt_zero _)
 | b :: l,0,_,_=>rfl
 | b :: l,1,_,_=>rfl
 | b :: l,k + 2,h,h2=>by
  have e:(k + 2) / 2 = k / 2 + 1:=by omega
  have e2:(k + 2) % 2 = k % 2:=by omega
  have hl:k / 2 < l.length:=by rw [e,List.length_cons] at h; omega
  have hl2:k < (flatK2 l).length:=by rw [flat_len]; omega
  have ih:=flat_get l k hl hl2
  simp only [e2]
  have g1:(flatK2 (b :: l))[k + 2] = (flatK2 l)[k]:=rfl
  have g2:(b :: l)[(k + 2) / 2] = l[k / 2]:=by
   have:∀ i (hi:i < (b :: l).length) (hik:i = k / 2 + 1),(b :: l)[i] = l[k / 2]:=by
    intro i hi hik; subst hik; rfl
   exact this _ h e
  rw [g1,g2,ih]
def knotsL (l:List P3):List (Int × Int):=insL ltK (0,0) (flatK2 l)
theorem at87k (l:List (Int × Int)) {k:Nat} (hk:k < l.length):d87 (nthD (List.map n87 l) k) = l[k] ∧ Pat.fits p87 (nthD (List.map n87 l) k) = true:=by
 rw [nthD_map n87 l k hk,dn87,fn87]; exact ⟨rfl,rfl⟩
theorem sub_map87g (l:List (Int × Int)) (a b:Nat):subA a b (List.map n87 l) = List.map n87 ((l.take b).drop a):=by simp [subA,List.map_take,List.map_drop]
theorem ltK_bool (x o:Int × Int):(bif decide (x.2 < o.2) then some true else bif (x.2 == o.2) then some (decide (x.1 < o.1)) else some false) = some (ltK x o):=by
 rw [ltK_eq]
 by_cases h1:x.2 < o.2
 ·simp [h1]
 ·by_cases h2:x.2 = o.2
  ·simp [h2]
  ·have hb:(x.2 == o.2) = false:=beq_false_of_ne h2
   simp [h1,h2,hb]
section
variable {N:Nat} (hN:Big N)
include hN
theorem R66_at (s:List (Int × Int)) (i:Int) (o:Int × Int) (hs:s.length ≤ 2000000):loopR (R66x14924 N (s,i) o) N 0 = some ((s.takeWhile fun x=>ltK x o).length:Int):=by
 have q:=find_gen (rd:=R66x14924 N (s,i) o) s.length (fun k=>(k:Int)) (fun k=>!ltK (s.getD k (0,0)) o) (fun k=>(k:Int)) (s.length:Int) (fun k hk=>by
  obtain ⟨a1,a2⟩:=at87k s hk
  have e:s.getD k (0,0) = s[k]:=by simp [hk]
  rw [e]
  have hb:=ltK_bool s[k] o
  simp only [R66x14924,List.length_map,Int.toNat_natCast,a1,a2,lt_range hk,in_range hk,Bool.and_self,cond_true,w_succ (show k < 9223372036854775807 by omega),hb,Option.bind_some]
  cases ltK s[k] o <;> rfl) (by
  simp only [R66x14924,List.length_map,ge_range,cond_false,Option.bind_some]) N (by unfold Big at hN; omega)
 have q':loopR (R66x14924 N (s,i) o) N 0 = _:=q
 rw [q']
 have:=find_tw s (fun x=>ltK x o) (0,0)
 rw [← this]
 cases (List.range s.length).find? fun j=>!ltK (s.getD j (0,0)) o <;> rfl
theorem R66_step (l:List P3) (s:List (Int × Int)) (k:Nat) (hl:l.length ≤ 1000000) (hs:s.length ≤ 2000000) (hk:k < 2 * l.length) (hk2:k < (flatK2 l).length):R66x58 N l (s,(k:Int)) = some (.inl (ins1 ltK (0,0) (flatK2 l)[k] s,((k + 1:Nat):Int))):=by
 have hk3:k / 2 < l.length:=by omega
 have hw:IntKind.wrap .i64 (2 * (l.length:Int)) = ((2 * l.length:Nat):Int):=by rw [w64 (by omega)]; omega
 have hd:IntKind.wrap .i64 (Int.tdiv (k:Int) 2) = ((k / 2:Nat):Int):=by
  rw [Int.tdiv_eq_ediv_of_nonneg (by omega),w64 (by omega)]; omega
 have hm:Int.tmod (k:Int) 2 = ((k % 2:Nat):Int):=by
  rw [Int.tmod_eq_emod_of_nonneg (by omega)]; omega
 obtain ⟨a1,a2⟩:=at120 l hk3
 have q127:T127 N (l[k / 2].1,l[k / 2].2.1,l[k / 2].2.2) = _:=T127_ends N l[k / 2]
 have ho:((bif decide (((k % 2:Nat):Int) = 0) then some (l[k / 2].1,l[k / 2].2.1) else bif decide (((k % 2:Nat):Int) = 1) then some ((upK l[k / 2]).1,(upK l[k / 2]).2) else none):Option (Int × Int)) = some (flatK2 l)[k]:=by
  rw [flat_get l k hk3 hk2]
  by_cases h:k % 2 = 0
  ·rw [h]; rfl
  ·have h1:k % 2 = 1:=by omega
   rw [h1]; rfl
 generalize (flatK2 l)[k] = o at *
 obtain ⟨t1,t2⟩:=takeWhile_split (fun x=>ltK x o) s
 have hle:(s.takeWhile fun x=>ltK x o).length ≤ s.length:=(List.takeWhile_sublist _).length_le
 have hat:∀ i,loopR (R66x14924 N (s,i) o) N 0 = some ((s.takeWhile fun x=>ltK x o).length:Int):=fun i=>R66_at hN s i o (by omega)
 unfold ins1
 simp only
 generalize (s.takeWhile fun x=>ltK x o).length = a at *
 have hc:((bif ((a:Int) == (s.length:Int)) then some true else bif (decide ((0:Int) ≤ (a:Int) ∧ (a:Int) < (s.length:Int)) && Pat.fits p87 (nthD (List.map n87 s) a)) then some (!(((d87 (nthD (List.map n87 s) a)).1 == o.1) && (((d87 (nthD (List.map n87 s) a)).2 == o.2) && true))) else none):Option Bool) = some (decide (a = s.length ∨ s.getD a (0,0) ≠ o)):=by
  by_cases h:a = s.length
  ·have hb:((a:Int) == (s.length:Int)) = true:=by simp [h]
   rw [hb]; simp [h]
  ·have hal:a < s.length:=by omega
   obtain ⟨b1,b2⟩:=at87k s hal
   have hb:((a:Int) == (s.length:Int)) = false:=beq_false_of_ne (by omega)
   have e:s.getD a (0,0) = s[a]:=by simp [hal]
   rw [hb,b1,b2,in_range hal,e]
   simp only [Bool.and_self,cond_true,cond_false]
   congr 1
   rw [Bool.eq_iff_iff]
   simp only [h,false_or,Bool.not_eq_true',Bool.and_true,decide_eq_true_eq,Bool.and_eq_false_iff,beq_eq_false_iff_ne,ne_eq]
   constructor
   ·rintro h2 rfl
    rcases h2 with h2 | h2 <;> exact h2 rfl
   ·intro h2
    by_cases h3:s[a].1 = o.1
    ·right; intro h4; exact h2 (Prod.ext h3 h4)
    ·exact .inl h3
 have c1:decide ((0:Int) ≤ (a:Int) ∧ (a:Int) ≤ (s.length:Int)) = true:=decide_eq_true (by omega)
 have ht:(List.take a s).length = a:=by rw [List.length_take]; omega
 have hb0:decide (1 = ([AV.agg [AV.int .i64 o.1,AV.int .i64 o.2]]:List AV).length) = true:=rfl
 have hbn:∀ x:Nat,x ≤ 4000000 → decide (x * 16 ≤ 140737488355328) = true:=fun x hx=>decide_eq_true (by omega)
 have z0:∀ x:List (Int × Int),[AV.agg [AV.int .i64 o.1,AV.int .i64 o.2]] ++ List.map n87 x = List.map n87 ([o] ++ x):=fun x=>rfl
 have z1:∀ x y:List (Int × Int),(List.map n87 x ++ [AV.agg [AV.int .i64 o.1,AV.int .i64 o.2]]) ++ List.map n87 y = List.map n87 (x ++ [o] ++ y):=fun x y=>by rw [List.map_append,List.map_append]; rfl
 simp only [R66x58,List.length_map,hw,lt_range hk,hd,Int.toNat_natCast,a1,a2,in_range hk3,Bool.and_self,cond_true,q127,Option.bind_some,hm,ho,hat,hc]
 by_cases hi:a = s.length ∨ s.getD a (0,0) ≠ o
 ·rw [if_pos hi]
  simp only [hi,decide_true,cond_true,c1,Bool.and_self,Bool.and_true,sub_map87g,List.drop_zero,List.take_length,beq_self_eq_true]
  by_cases h0:a = 0
  ·subst h0
   simp only [List.take_zero,List.map_nil,List.isEmpty_nil,cond_true,List.nil_append,List.length_singleton,List.length_map,List.length_drop,decide_true,hbn (1 + s.length) (by omega),Bool.and_self,z0,fa87,md87,Option.bind_some,List.drop_zero,Bool.and_true,w_succ (show k < 9223372036854775807 by omega)]
  ·have hne:List.isEmpty (List.map n87 (List.take a s)) = false:=by
    cases hd:List.take a s with
    | nil=>rw [hd] at ht; simp at ht; omega
    | cons x y=>rfl
   simp only [hne,cond_false,List.nil_append,List.length_append,List.length_singleton,List.length_map,List.length_drop,ht,Nat.zero_add,hbn a (by omega),hbn (a + 1) (by omega),hbn (a + 1 + (s.length - a)) (by omega),decide_true,cond_true,Bool.and_self,z1,fa87,md87,Option.bind_some,Bool.and_true,w_succ (show k < 9223372036854775807 by omega)]
 ·rw [if_neg hi]
  simp only [hi,decide_false,cond_false,fa87,md87,Bool.and_true,cond_true,Option.bind_some,w_succ (show k < 9223372036854775807 by omega)]
theorem T66_knots (l:List P3) (hl:l.length ≤ 1000000):T66 N l = some (knotsL l):=by
 rw [T66_eq]
 have key:=loopR_foldl (rd:=R66x58 N l) (flatK2 l) (fun s k=>(s,(k:Int))) (fun s k=>ins1 ltK (0,0) k s) (fun s=>s) (fun s k=>s.length ≤ k) (fun s k hk hs=>by
  have hk':k < 2 * l.length:=by rw [flat_len] at hk; exact hk
  refine ⟨R66_step hN l s k hl (by omega) hk' hk,?_⟩
  have:=ins1_len (lt:=ltK) (0,0) (flatK2 l)[k] s
  omega) (fun s _=>by
  have hw:IntKind.wrap .i64 (2 * (l.length:Int)) = ((2 * l.length:Nat):Int):=by rw [w64 (by omega)]; omega
  rw [flat_len]
  simp only [R66x58,List.length_map,hw,ge_range,cond_false,fa87,md87,Bool.and_true,cond_true,Option.bind_some]) N [] 0 (Nat.zero_le _) (by unfold Big at hN; rw [flat_len]; omega) (Nat.le_refl _)
 have key':loopR (R66x58 N l) N ([],0) = _:=key
 have z:((bif (allFit (Pat.fits p87) ([]:List AV) && true) then some ((List.map d87 ([]:List AV)),0) else none:Option ((List (Int × Int)) × Int)).bind fun w17=>some w17) = some ([],0):=rfl
 rw [z,Option.bind_some,key',List.drop_zero,Option.bind_some]
 simp only [fa87,md87,Bool.and_true,cond_true] <;> rfl
omit hN in
theorem T214_eqb (N:Nat) (x y:Int × Int):T214 N (x,y) = some (decide (x = y)):=by
 rw [T214_eq]
 congr 1
 rw [Bool.eq_iff_iff]
 simp only [Bool.and_true,Bool.and_eq_true,beq_iff_eq,decide_eq_true_eq]
 constructor
 ·rintro ⟨h1,h2⟩; exact Prod.ext h1 h2
 ·rintro rfl; exact ⟨rfl,rfl⟩
omit hN in
theorem cl87 (l:List (Int × Int)):closedL (List.map n87 l) = true:=closedL_map (fun _=>rfl) l
omit hN in
theorem set87 (s:List (Int × Int)) (i:Nat) (a b:Int):setN (List.map n87 s) i (AV.agg [AV.int .i64 a,AV.int .i64 b]) = List.map n87 (s.set i (a,b)):=by
 rw [setN_eq]
 show (List.map n87 s).set i (n87 (a,b)) = _
 rw [List.map_set]
omit hN in
theorem snoc87b (s:List (Int × Int)) (a b c d:Int):List.map n87 s ++ [AV.agg [AV.int .i64 a,AV.int .i64 b],AV.agg [AV.int .i64 c,AV.int .i64 d]] = List.map n87 (s ++ [(a,b),(c,d)]):=by
 rw [List.map_append]; rfl
theorem R196_flat (l:List P3) (hl:l.length ≤ 1000000):loopR (R196x58 N l) N ((),0,[]) = some ((),flatK2 l):=by
 have key:=loopR_foldl (rd:=R196x58 N l) l (fun s k=>((),(k:Int),s)) (fun s b=>s ++ [loK b,upK b]) (fun s=>((),s)) (fun s k=>s.length = 2 * k) (fun s k hk hs=>by
  obtain ⟨a1,a2⟩:=at120 l hk
  have q:T197 N (l[k].1,l[k].2.1,l[k].2.2) = _:=T197_ends N l[k]
  have hcl:∀ a b c d:Int,closedL [AV.int .i64 a,AV.int .i64 b,AV.int .i64 c,AV.int .i64 d] = true:=fun _ _ _ _=>rfl
  have hlen:(s ++ [(l[k].1,l[k].2.1),((upK l[k]).1,(upK l[k]).2)]).length = s.length + 2:=by simp
  have hb:decide ((s.length + 2) * 16 ≤ 140737488355328) = true:=decide_eq_true (by omega)
  refine ⟨?_,by rw [List.length_append,hs]; simp; omega⟩
  simp only [R196x58,List.length_map,Int.toNat_natCast,a1,a2,lt_range hk,in_range hk,Bool.and_self,Bool.and_true,cond_true,q,Option.bind_some,hcl,snoc87b,hlen,hb,decide_true,Nat.beq_refl,fa87,md87,w_succ (show k < 9223372036854775807 by omega)]
  rfl) (fun s _=>by
  simp only [R196x58,List.length_map,ge_range,cond_false,Nat.beq_refl,fa87,md87,Bool.and_self,Bool.and_true,cond_true,Option.bind_some]) N [] 0 (Nat.zero_le _) (by unfold Big at hN; omega) rfl
 have key':loopR (R196x58 N l) N ((),0,[]) = _:=key
 rw [key',List.drop_zero]
 congr 2
 have gen:∀ (l:List P3) (s:List (Int × Int)),l.foldl (fun s b=>s ++ [loK b,upK b]) s = s ++ flatK2 l:=by
  intro l
  induction l with
  | nil=>intro s; simp [flatK2]
  | cons b l ih=>intro s; rw [List.foldl_cons,ih,flatK2,List.append_assoc]; rfl
 rw [gen]; rfl
section
variable (F st:List (Int × Int)) (hn:st.length = F.length) (hF:F.length ≤ 2000000)
include hn hF
theorem R196_in (m:Nat) (h1:1 ≤ m) (hm:m < F.length) (hu:uqN (0,0) st (m + 1) = st.take m) :
  ∃ x,loopR (R196x213x59690 N ((),F) ((m:Int),st)) N ((m:Int),1,st) = some x ∧ ∃ (t:Nat) (c:List (Int × Int)),x = ((t:Int),c) ∧ c.length = F.length ∧ t ≤ F.length ∧ c.take t = uqN (0,0) st F.length:=by
 refine loopR_cnt (rd:=R196x213x59690 N ((),F) ((m:Int),st)) (S:=Nat × List (Int × Int)) (F.length - m - 1) (fun s i=>((s.1:Int),((i + 1:Nat):Int),s.2))
  (fun s i=>s.1 ≤ m + i ∧ s.2.length = F.length ∧ s.2.take s.1 = uqN (0,0) st (m + 1 + i) ∧ ∀ t,m + i ≤ t → s.2[t]? = st[t]?) _ ?_ ?_ N (m,st) 0 (Nat.zero_le _) (by unfold Big at hN; omega) ⟨by omega,hn,hu.symm,fun _ _=>rfl⟩
 ·rintro ⟨t,c⟩ i hi ⟨i1,i2,i3,i4⟩
  simp only at i1 i2 i3 i4
  have hj:m + (i + 1) < c.length:=by omega
  have hj0:m + i < c.length:=by omega
  have hs1:m + (i + 1) < st.length:=by omega
  have hs0:m + i < st.length:=by omega
  have e1:c[m + (i + 1)] = st[m + (i + 1)]:=by
   have:=i4 (m + (i + 1)) (by omega)
   rw [List.getElem?_eq_getElem hj,List.getElem?_eq_getElem hs1] at this
   exact Option.some.inj this
  have e0:c[m + i] = st[m + i]:=by
   have:=i4 (m + i) (by omega)
   rw [List.getElem?_eq_getElem hj0,List.getElem?_eq_getElem hs0] at this
   exact Option.some.inj this
  obtain ⟨a1,a2⟩:=at87k c hj
  obtain ⟨b1,b2⟩:=at87k c hj0
  rw [e1] at a1
  rw [e0] at b1
  have g1:st.getD (m + (i + 1)) (0,0) = st[m + (i + 1)]:=by simp [hs1]
  have g0:st.getD (m + i) (0,0) = st[m + i]:=by simp [hs0]
  have hu2:uqN (0,0) st (m + 1 + (i + 1)) = if st[m + (i + 1)] = st[m + i] then uqN (0,0) st (m + 1 + i) else uqN (0,0) st (m + 1 + i) ++ [st[m + (i + 1)]]:=by
   rw [show m + 1 + (i + 1) = m + 1 + i + 1 by omega]
   conv=>lhs; unfold uqN
   rw [show m + 1 + i = m + (i + 1) by omega,g1,show m + (i + 1) - 1 = m + i by omega,g0]
   by_cases h:st[m + (i + 1)] = st[m + i]
   ·rw [if_pos h,if_pos ⟨by omega,h⟩]
   ·rw [if_neg h,if_neg fun c=>h c.2]
  have hw:IntKind.wrap .i64 (((i + 1:Nat):Int) - 1) = (i:Int):=by rw [w64 (by omega)]; omega
  have hlt:decide (((i + 1:Nat):Int) < ((F.length - m:Nat):Int)) = true:=decide_eq_true (by omega)
  have hr1:decide ((0:Int) ≤ ((i + 1:Nat):Int) ∧ ((i + 1:Nat):Int) < ((F.length - m:Nat):Int)) = true:=decide_eq_true (by omega)
  have hr0:decide ((0:Int) ≤ (i:Int) ∧ (i:Int) < ((F.length - m:Nat):Int)) = true:=decide_eq_true (by omega)
  have hd1:decide (m + (i + 1) < F.length) = true:=decide_eq_true (by omega)
  have hd0:decide (m + i < F.length) = true:=decide_eq_true (by omega)
  have hrt:decide ((0:Int) ≤ (t:Int) ∧ (t:Int) < (F.length:Int)) = true:=decide_eq_true (by omega)
  have hdt:decide (t < F.length) = true:=decide_eq_true (by omega)
  have q:T214 N ((st[m + (i + 1)].1,st[m + (i + 1)].2),(st[m + i].1,st[m + i].2)) = _:=T214_eqb N st[m + (i + 1)] st[m + i]
  by_cases h:st[m + (i + 1)] = st[m + i]
  ·rw [decide_eq_true h] at q
   refine ⟨(t,c),?_,by omega,i2,?_,fun t' ht'=>i4 t' (by omega)⟩
   ·simp only [R196x213x59690,List.length_map,Int.toNat_natCast,Nat.zero_add,hw,hlt,hr1,hr0,i2,hd1,hd0,a1,a2,b1,b2,decide_true,Bool.and_self,Bool.and_true,cond_true,q,Option.bind_some,Bool.not_true,cond_false,fa87,md87,w_succ (show i + 1 < 9223372036854775807 by omega)]
   ·rw [hu2,if_pos h]; exact i3
  ·refine ⟨(t + 1,c.set t st[m + (i + 1)]),?_,by simp only; omega,by simp only [List.length_set]; exact i2,?_,fun t' ht'=>?_⟩
   ·simp only [R196x213x59690,List.length_map,Int.toNat_natCast,Nat.zero_add,hw,hlt,hr1,hr0,i2,hd1,hd0,hrt,hdt,a1,a2,b1,b2,decide_true,Bool.and_self,Bool.and_true,cond_true,q,h,decide_false,Option.bind_some,Bool.not_false,set87,fa87,md87,w_succ (show i + 1 < 9223372036854775807 by omega),w_succ (show t < 9223372036854775807 by omega)]
   ·rw [hu2,if_neg h,← i3]
    simp only
    rw [List.take_succ,List.take_set_of_le (Nat.le_refl _),List.getElem?_set_self (by omega)]
    rfl
   ·simp only
    rw [List.getElem?_set_ne (by omega)]
    exact i4 t' (by omega)
 ·rintro ⟨t,c⟩ ⟨i1,i2,i3,i4⟩
  simp only at i1 i2 i3 i4
  have hge:decide (((F.length - m - 1 + 1:Nat):Int) < ((F.length - m:Nat):Int)) = false:=decide_eq_false (by omega)
  refine ⟨((t:Int),c),?_,t,c,rfl,i2,by omega,?_⟩
  ·simp only [R196x213x59690,List.length_map,Int.toNat_natCast,hge,cond_false,fa87,md87,Bool.and_true,cond_true,Option.bind_some]
  ·rw [i3]; congr 1; omega
omit hN hn hF in
theorem splice_take (s:List AV):∀ (t:Nat) (z:List AV),t + z.length = s.length → (splice s t z).length = s.length ∧ (splice s t z).take t = s.take t:=by
 induction s with
 | nil=>intro t z h; cases z with
  | nil=>simp [splice]
  | cons y z=>simp at h
 | cons a s ih=>
  intro t z h
  cases z with
  | nil=>simp [splice]
  | cons y z=>
   cases t with
   | zero=>
    simp only [splice,List.length_cons,List.take_zero,and_true]
    have:=ih 0 z (by simp at h ⊢; omega)
    omega
   | succ t=>
    simp only [splice,List.length_cons,List.take_succ_cons]
    have:=ih t (y :: z) (by simp at h ⊢; omega)
    exact ⟨by omega,by rw [this.2]⟩
omit hN hn hF in
theorem splice_cl:∀ (s:List AV) (t:Nat) (z:List AV),closedL s = true → closedL z = true → closedL (splice s t z) = true
 | [],t,[],h1,h2=>by simpa [splice] using h1
 | [],t,y :: z,h1,h2=>rfl
 | a :: s,t,[],h1,h2=>by cases t <;> simpa [splice] using h1
 | a :: s,0,y :: z,h1,h2=>by
  simp only [closedL,Bool.and_eq_true] at h1 h2
  simp only [splice,closedL,Bool.and_eq_true]
  exact ⟨h2.1,splice_cl s 0 z h1.2 h2.2⟩
 | a :: s,t + 1,y :: z,h1,h2=>by
  simp only [closedL,Bool.and_eq_true] at h1
  simp only [splice,closedL,Bool.and_eq_true]
  exact ⟨h1.1,splice_cl s t (y :: z) h1.2 h2⟩
theorem R196_out:∃ o,loopR (R196x213x58 N ((),F)) N (1,st) = some o ∧ Sum.elim (fun l=>l) (fun l=>l) o = uqN (0,0) st F.length ∧ ∀ l,o = .inr l → l.length = F.length:=by
 have hN0:1 ≤ F.length → F.length - 1 < N:=fun _=>by unfold Big at hN; omega
 by_cases hF0:F.length = 0
 ·refine ⟨.inr st,?_,?_,fun l h=>by cases h; exact hn⟩
  ·obtain ⟨n,rfl⟩:∃ n,N = n + 1:=⟨N - 1,by unfold Big at hN; omega⟩
   rw [loopR_succ]
   have hge:decide ((1:Int) < (F.length:Int)) = false:=decide_eq_false (by omega)
   simp only [R196x213x58,List.length_map,hge,cond_false,fa87,md87,Bool.and_true,cond_true,Option.bind_some,Sum.elim_inr]
  ·rw [hF0]
   have:st = []:=List.length_eq_zero_iff.1 (by omega)
   rw [this]; rfl
 refine loopR_cne (rd:=R196x213x58 N ((),F)) (S:=Unit) (F.length - 1) (fun _ k=>(((k + 1:Nat):Int),st)) (fun _ k=>∀ j,0 < j → j < k + 1 → st.getD j (0,0) ≠ st.getD (j - 1) (0,0)) _ ?_ ?_ N () 0 (Nat.zero_le _) (by unfold Big at hN; omega) (fun j h1 h2=>by omega)
 ·rintro _ k hk hP
  have hs1:k + 1 < st.length:=by omega
  have hs0:k < st.length:=by omega
  obtain ⟨a1,a2⟩:=at87k st hs1
  obtain ⟨b1,b2⟩:=at87k st hs0
  have g1:st.getD (k + 1) (0,0) = st[k + 1]:=by simp [hs1]
  have g0:st.getD k (0,0) = st[k]:=by simp [hs0]
  have hw:IntKind.wrap .i64 (((k + 1:Nat):Int) - 1) = (k:Int):=by rw [w64 (by omega)]; omega
  have hl1:k + 1 < F.length:=by omega
  have hl0:k < F.length:=by omega
  have hd1:decide (k + 1 < F.length) = true:=decide_eq_true hl1
  have hd0:decide (k < F.length) = true:=decide_eq_true hl0
  have q:T214 N ((st[k + 1].1,st[k + 1].2),(st[k].1,st[k].2)) = _:=T214_eqb N st[k + 1] st[k]
  by_cases h:st[k + 1] = st[k]
  ·right
   rw [decide_eq_true h] at q
   have ht:=uqN_take (0,0) st (k + 1) (by omega) hP
   have hu:uqN (0,0) st (k + 1 + 1) = st.take (k + 1):=by
    rw [← ht]
    conv=>lhs; unfold uqN
    rw [if_pos ⟨by omega,by rw [g1,show k + 1 - 1 = k by omega,g0]; exact h⟩]
   obtain ⟨x,r,t,c,rfl,c1,c2,c3'⟩:=R196_in hN F st hn hF (k + 1) (by omega) hl1 hu
   have hle:decide ((0:Int) ≤ ((k + 1:Nat):Int) ∧ ((k + 1:Nat):Int) ≤ (F.length:Int)) = true:=decide_eq_true (by omega)
   have hle2:decide ((0:Int) ≤ (t:Int) ∧ (t:Int) ≤ (F.length:Int)) = true:=decide_eq_true (by omega)
   obtain ⟨z1,z2⟩:=splice_take (List.map n87 c) t (List.replicate (F.length - t) (AV.agg [AV.int .i64 0,AV.int .i64 0])) (by rw [List.length_replicate,List.length_map]; omega)
   have z3:closedL (splice (List.map n87 c) t (List.replicate (F.length - t) (AV.agg [AV.int .i64 0,AV.int .i64 0]))) = true:=splice_cl _ _ _ (cl87 c) (by
    have:∀ n,closedL (List.replicate n (AV.agg [AV.int .i64 0,AV.int .i64 0])) = true:=by
     intro n
     induction n with
     | zero=>rfl
     | succ n ih=>rw [List.replicate_succ,closedL,ih]; rfl
    exact this _)
   have hs:decide (t + (F.length - t) ≤ F.length) = true:=decide_eq_true (by omega)
   have ht2:decide (t ≤ F.length) = true:=decide_eq_true c2
   rw [List.length_map] at z1
   refine ⟨.inl (uqN (0,0) st F.length),?_,rfl,fun l h=>by cases h⟩
   have hmt:List.take t (List.map n87 c) = List.map n87 (List.take t c):=by rw [List.map_take]
   simp only [R196x213x58,List.length_map,Int.toNat_natCast,Nat.zero_add,hw,lt_range hl1,in_range hl1,in_range hl0,hn,hd1,hd0,a1,a2,b1,b2,decide_true,Bool.and_self,Bool.and_true,cond_true,q,hle,fa87,md87,Option.bind_some,r,hle2,c1,hs,z1,ht2,z3,z2,hmt,c3']
  ·left
   rw [decide_eq_false h] at q
   refine ⟨(),?_,fun j h1 h2=>?_⟩
   ·simp only [R196x213x58,List.length_map,Int.toNat_natCast,Nat.zero_add,hw,lt_range hl1,in_range hl1,in_range hl0,hn,hd1,hd0,a1,a2,b1,b2,decide_true,Bool.and_self,Bool.and_true,cond_true,q,cond_false,fa87,md87,Option.bind_some,w_succ (show k + 1 < 9223372036854775807 by omega)]
   ·by_cases hj:j = k + 1
    ·subst hj
     rw [g1,show k + 1 - 1 = k by omega,g0]; exact h
    ·exact hP j h1 (by omega)
 ·intro _ hP
  have hge:decide (((F.length - 1 + 1:Nat):Int) < (F.length:Int)) = false:=decide_eq_false (by omega)
  refine ⟨.inr st,?_,?_,fun l h=>by cases h; exact hn⟩
  ·simp only [R196x213x58,List.length_map,hge,cond_false,fa87,md87,Bool.and_true,cond_true,Option.bind_some]
  ·have:=uqN_take (0,0) st F.length (by omega) (fun j h1 h2=>hP j h1 (by omega))
   rw [this,← hn,List.take_length]
   rfl
end
theorem T196_knots (l:List P3) (hl:l.length ≤ 1000000):T196 N l = some (knotsL l):=by
 have hs:sortL pTwo cfK (List.map n87 (flatK2 l)) = List.map n87 ((flatK2 l).mergeSort fun x y=>!ltK y x):=by
  unfold sortL
  rw [show List.map (Pat.decD pTwo) (List.map n87 (flatK2 l)) = flatK2 l from md87 _]
  rfl
 have hfp:allFit (Pat.fits pTwo) (List.map n87 (flatK2 l)) = true:=fa87 _
 have hlen:((flatK2 l).mergeSort fun x y=>!ltK y x).length = (flatK2 l).length:=List.length_mergeSort _
 have hb:decide ((flatK2 l).length ≤ 140737488355328) = true:=decide_eq_true (by rw [flat_len]; omega)
 have hfl:(flatK2 l).length ≤ 2000000:=by rw [flat_len]; omega
 have huq:=uq_srt swoK totK (0,0) (flatK2 l)
 have huq:uqN (0,0) ((flatK2 l).mergeSort fun x y=>!ltK y x) (flatK2 l).length = knotsL l:=huq
 have z:((bif ((Nat.beq 0 (([]:List AV)).length && Nat.beq 0 (([]:List AV)).length) && (allFit (Pat.fits p87) ([]:List AV) && true)) then some ((),0,(List.map d87 ([]:List AV))) else none:Option (Unit × Int × (List (Int × Int)))).bind fun w7=>some w7) = some ((),0,[]):=rfl
 rw [T196_eq,z,Option.bind_some,R196_flat hN l hl,Option.bind_some]
 simp only [hs,hfp,List.length_map,hb,hlen,decide_true,Bool.and_self,Bool.and_true,cond_true,Nat.le_refl,cl87,fa87,md87,Option.bind_some]
 by_cases h2:((flatK2 l).length:Int) < 2
 ·have ht:List.take (flatK2 l).length (List.map n87 ((flatK2 l).mergeSort fun x y=>!ltK y x)) = List.map n87 ((flatK2 l).mergeSort fun x y=>!ltK y x):=List.take_of_length_le (by rw [List.length_map,hlen]; exact Nat.le_refl _)
  simp only [h2,decide_true,cond_true,ht,fa87,md87,Option.bind_some]
  congr 1
  rw [← huq,uqN_take (0,0) _ _ (by rw [hlen]; exact Nat.le_refl _) (fun j a b=>by omega),List.take_of_length_le (by rw [hlen]; exact Nat.le_refl _)]
 ·obtain ⟨o,r,e,hl2⟩:=R196_out hN (flatK2 l) ((flatK2 l).mergeSort fun x y=>!ltK y x) hlen hfl
  simp only [h2,decide_false,cond_false,r,Option.bind_some]
  rw [huq] at e
  cases o with
  | inl x=>
   simp only [Sum.elim_inl] at e ⊢
   rw [e]
   simp only [fa87,md87,cond_true,Option.bind_some]
  | inr x=>
   have hx:=hl2 x rfl
   simp only [Sum.elim_inr] at e ⊢
   subst e
   have ht:List.take (flatK2 l).length (List.map n87 (knotsL l)) = List.map n87 (knotsL l):=List.take_of_length_le (by rw [List.length_map,hx]; exact Nat.le_refl _)
   simp only [hx,decide_true,Nat.le_refl,Bool.and_self,cond_true,ht,fa87,md87,Option.bind_some]
end
end Go.Proofs.YtfiopgedfcaodaaGreatDoor
