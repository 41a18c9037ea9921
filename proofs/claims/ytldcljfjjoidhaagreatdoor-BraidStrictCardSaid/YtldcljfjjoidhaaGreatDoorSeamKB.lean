/- Plain laws: the knots of a net. -/
import Derived.Test.YtldcljfjjoidhaaGreatDoorSeamKA
import Derived.Test.YtldcljfjjoidhaaGreatDoorBraX
import Derived.Test.YtldcljfjjoidhaaGreatDoorBraS
import Derived.Test.YtldcljfjjoidhaaGreatDoorBraR
import Derived.Test.YtldcljfjjoidhaaGreatDoorBraMu
set_option linter.all false
open Bool renaming and_true→aac, and_self→aaB, and_eq_true→abJ, eq_iff_iff→ab7
open Go.Lib renaming decDigits→aaC, itoa→aaM
open Int renaming toNat_natCast→aax, le_refl→ab9
open List renaming length_map→aab, length_append→aaH, length_cons→aaR, getElem?_eq_getElem→aaX, length_range→aaY, length_singleton→aaZ, mem_cons_of_mem→aa3, range→aa5, take_length→aa6, foldl_cons→aba, drop_zero→abq, mem_range→abu, map_append→abK, take_of_length_le→abN, getD_eq_getElem?_getD→abP, getElem_mem→abS, take→abT, nil_append→abX, mem_map→abZ, getElem_of_mem→ab0, length_pos_iff→ab1, getElem_range→ab2, mem_cons→ab3, append_assoc→ab4, take_add_one→ab5, length_drop→ab6, length_nil→ab8, take_zero→aca, replicate→acb, length_mergeSort→acd
open Nat renaming le_refl→aa4, zero_le→aa9, pow_succ→abR, blt→abU, ble_eq_true_of_le→abV, le_of_ble_eq_true→abW, zero_add→abY, pow_le_pow_right→acf
open Option renaming bind_some→aaa
open Option.some renaming inj→abQ
open Sum renaming elim→ace, elim_inr→acg, elim_inl→ach
open UInt8 renaming ofNat→abO
namespace Go.Proofs.YtldcljfjjoidhaaGreatDoor
open Go Go.Am Go.Sort
open List (map)
open Int (toNat)
open Go.IntKind (wrap)
open Go.Am.aM (fits)
set_option maxRecDepth 100000
def AO:Int × Int→Int × Int→Bool:=ltOf Bx
theorem XL (x y:Int × Int):AO x y=decide (x.2 < y.2∨x.2=y.2∧x.1 < y.1):=zx x y
def b8:List dK→List XA
 |[]=>[]
 |b :: l=>Ak b :: zN b :: b8 l
theorem lm:∀ l:List dK,(b8 l).length=2 * l.length
 |[]=>rfl
 |b :: l=>by rw [b8,aaR,aaR,lm l,aaR]; omega
theorem pX:∀ (l:List dK) (k:Nat) (h:k / 2 < l.length) (h2:k < (b8 l).length),(b8 l)[k]=if k % 2=0 then Ak l[k / 2] else zN l[k / 2]
 |[],k,h,_=>absurd h (Nat.not_lt_zero _)
 |b :: l,0,_,_=>rfl
 |b :: l,1,_,_=>rfl
 |b :: l,k+2,h,h2=>by
  have e:(k+2) / 2=k / 2+1:=by omega
  have e2:(k+2) % 2=k % 2:=by omega
  have hl:k / 2 < l.length:=by rw [e,aaR] at h; omega
  have Lt:k < (b8 l).length:=by rw [lm]; omega
  have ih:=pX l k hl Lt;simp only [e2];have g1:(b8 (b :: l))[k+2]=(b8 l)[k]:=rfl;have g2:(b :: l)[(k+2) / 2]=l[k / 2]:=by
   have:∀ i (hi:i < (b :: l).length) (Kr:i=k / 2+1),(b :: l)[i]=l[k / 2]:=by
    intro i hi Kr; subst Kr; rfl
   exact this _ h e
  rw [g1,g2,ih]
def mw (l:List dK):List XA:=J5 AO (0,0) (b8 l)
theorem BL (l:List XA) {k:Nat} (hk:k < l.length):ef (ah (map dv l) k)=l[k]∧fits da (ah (map dv l) k)=true:=by
 rw [iN dv l k hk,ZR,ZQ]; exact ⟨rfl,rfl⟩
theorem Hk (l:List XA) (a b:Nat):di a b (map dv l)=map dv ((l.take b).drop a):=by simp [di,List.map_take,List.map_drop]
theorem Ol (x o:Int × Int):(bif decide (x.2 < o.2) then some true else bif (x.2 == o.2) then some (decide (x.1 < o.1)) else some false)=some (AO x o):=by
 rw [XL];by_cases h1:x.2 < o.2
 ·simp [h1]
 ·by_cases h2:x.2=o.2
  ·simp [h2]
  ·have hb:(x.2 == o.2)=false:=beq_false_of_ne h2;simp [h1,h2,hb]
section
variable {N:Nat} (hN:fD N)
include hN
theorem XM (s:List XA) (i:Int) (o:Int × Int) (hs:s.length≤2000000):aH (ji N (s,i) o) N 0=some ((s.takeWhile fun x=>AO x o).length:Int):=by
 have q:=ER (rd:=ji N (s,i) o) s.length (fun k=>(k:Int)) (fun k=>!AO (s.getD k (0,0)) o) (fun k=>(k:Int)) (s.length:Int) (fun k hk=>by
  obtain ⟨a1,a2⟩:=BL s hk;have e:s.getD k (0,0)=s[k]:=by simp [hk]
  rw [e];have hb:=Ol s[k] o;simp only [ji,aab,aax,a1,a2,bP hk,bt hk,aaB,cond_true,bS (show k < 9223372036854775807 by omega),hb,aaa];cases AO s[k] o <;> rfl) (by
  simp only [ji,aab,cw,cond_false,aaa]) N (by unfold fD at hN; omega)
 have q':aH (ji N (s,i) o) N 0=_:=q;rw [q'];have:=S6 s (fun x=>AO x o) (0,0);rw [← this];cases (aa5 s.length).find? fun j=>!AO (s.getD j (0,0)) o <;> rfl
theorem Om (l:List dK) (s:List XA) (k:Nat) (hl:l.length≤1000000) (hs:s.length≤2000000) (hk:k < 2 * l.length) (hk2:k < (b8 l).length):uP N l (s,(k:Int))=some (.inl (uR AO (0,0) (b8 l)[k] s,((k+1:Nat):Int))):=by
 have hk3:k / 2 < l.length:=by omega
 have hw:wrap .i64 (2 * (l.length:Int))=((2 * l.length:Nat):Int):=by rw [gF (by omega)]; omega
 have hd:wrap .i64 (Int.tdiv (k:Int) 2)=((k / 2:Nat):Int):=by
  rw [Int.tdiv_eq_ediv_of_nonneg (by omega),gF (by omega)]; omega
 have hm:Int.tmod (k:Int) 2=((k % 2:Nat):Int):=by
  rw [Int.tmod_eq_emod_of_nonneg (by omega)]; omega
 obtain ⟨a1,a2⟩:=zn l hk3;have agc:NT N (l[k / 2].1,l[k / 2].2.1,l[k / 2].2.2)=_:=Ka N l[k / 2];have ho:((bif decide (((k % 2:Nat):Int)=0) then some (l[k / 2].1,l[k / 2].2.1) else bif decide (((k % 2:Nat):Int)=1) then some ((zN l[k / 2]).1,(zN l[k / 2]).2) else none):Option XA)=some (b8 l)[k]:=by
  rw [pX l k hk3 hk2];by_cases h:k % 2=0
  ·rw [h]; rfl
  ·have h1:k % 2=1:=by omega
   rw [h1]; rfl
 generalize (b8 l)[k]=o at *;obtain ⟨t1,t2⟩:=gX (fun x=>AO x o) s;have hle:(s.takeWhile fun x=>AO x o).length≤s.length:=(List.takeWhile_sublist _).length_le;have oG:∀ i,aH (ji N (s,i) o) N 0=some ((s.takeWhile fun x=>AO x o).length:Int):=fun i=>XM hN s i o (by omega)
 unfold uR;simp only;generalize (s.takeWhile fun x=>AO x o).length=a at *;have hc:((bif ((a:Int) == (s.length:Int)) then some true else bif (decide ((0:Int)≤(a:Int)∧(a:Int) < (s.length:Int))&&fits da (ah (map dv s) a)) then some (!(((ef (ah (map dv s) a)).1 == o.1)&&(((ef (ah (map dv s) a)).2 == o.2)&&true))) else none):Option Bool)=some (decide (a=s.length∨s.getD a (0,0)≠o)):=by
  by_cases h:a=s.length
  ·have hb:((a:Int) == (s.length:Int))=true:=by simp [h]
   rw [hb]; simp [h]
  ·have Az:a < s.length:=by omega
   obtain ⟨b1,b2⟩:=BL s Az;have hb:((a:Int) == (s.length:Int))=false:=beq_false_of_ne (by omega);have e:s.getD a (0,0)=s[a]:=by simp [Az]
   rw [hb,b1,b2,bt Az,e];simp only [aaB,cond_true,cond_false];congr 1;rw [ab7];simp only [h,false_or,Bool.not_eq_true',aac,decide_eq_true_eq,Bool.and_eq_false_iff,beq_eq_false_iff_ne,ne_eq];constructor
   ·rintro h2 rfl;rcases h2 with h2|h2 <;> exact h2 rfl
   ·intro h2;by_cases h3:s[a].1=o.1
    ·right; intro h4; exact h2 (Prod.ext h3 h4)
    ·exact .inl h3
 have c1:decide ((0:Int)≤(a:Int)∧(a:Int)≤(s.length:Int))=true:=decide_eq_true (by omega);have ht:(abT a s).length=a:=by rw [List.length_take]; omega
 have Yq:decide (1=([AV.agg [AV.int .i64 o.1,AV.int .i64 o.2]]:List AV).length)=true:=rfl;have hbn:∀ x:Nat,x≤4000000→decide (x * 16≤140737488355328)=true:=fun x hx=>decide_eq_true (by omega)
 have z0:∀ x:List XA,[AV.agg [AV.int .i64 o.1,AV.int .i64 o.2]]++map dv x=map dv ([o]++x):=fun x=>rfl
 have z1:∀ x y:List XA,(map dv x++[AV.agg [AV.int .i64 o.1,AV.int .i64 o.2]])++map dv y=map dv (x++[o]++y):=fun x y=>by rw [abK,abK]; rfl
 simp only [uP,aab,hw,bP hk,hd,aax,a1,a2,bt hk3,aaB,cond_true,agc,aaa,hm,ho,oG,hc];by_cases hi:a=s.length∨s.getD a (0,0)≠o
 ·rw [if_pos hi];simp only [hi,decide_true,cond_true,c1,aaB,aac,Hk,abq,aa6,beq_self_eq_true];by_cases h0:a=0
  ·subst h0;simp only [aca,List.map_nil,List.isEmpty_nil,cond_true,abX,aaZ,aab,ab6,decide_true,hbn (1+s.length) (by omega),aaB,z0,kS,kT,aaa,abq,aac,bS (show k < 9223372036854775807 by omega)]
  ·have cQ:List.isEmpty (map dv (abT a s))=false:=by
    cases hd:abT a s with
    |nil=>rw [hd] at ht; simp at ht; omega
    |cons x y=>rfl
   simp only [cQ,cond_false,abX,aaH,aaZ,aab,ab6,ht,abY,hbn a (by omega),hbn (a+1) (by omega),hbn (a+1+(s.length - a)) (by omega),decide_true,cond_true,aaB,z1,kS,kT,aaa,aac,bS (show k < 9223372036854775807 by omega)]
 ·rw [if_neg hi];simp only [hi,decide_false,cond_false,kS,kT,aac,cond_true,aaa,bS (show k < 9223372036854775807 by omega)]
theorem Ke (l:List dK) (hl:l.length≤1000000):T41 N l=some (mw l):=by
 rw [Xe];have key:=lQ (rd:=uP N l) (b8 l) (fun s k=>(s,(k:Int))) (fun s k=>uR AO (0,0) k s) (fun s=>s) (fun s k=>s.length≤k) (fun s k hk hs=>by
  have iG:k < 2 * l.length:=by rw [lm] at hk; exact hk
  refine ⟨Om hN l s k hl (by omega) iG hk,?_⟩;have:=N4 (lt:=AO) (0,0) (b8 l)[k] s;omega) (fun s _=>by
  have hw:wrap .i64 (2 * (l.length:Int))=((2 * l.length:Nat):Int):=by rw [gF (by omega)]; omega
  rw [lm];simp only [uP,aab,hw,cw,cond_false,kS,kT,aac,cond_true,aaa]) N [] 0 (aa9 _) (by unfold fD at hN; rw [lm]; omega) (aa4 _)
 have sq:aH (uP N l) N ([],0)=_:=key;have z:((bif (allFit (fits da) ([]:List AV)&&true) then some ((map ef ([]:List AV)),0) else none:Option (lS × Int)).bind fun SO=>some SO)=some ([],0):=rfl;rw [z,aaa,sq,abq,aaa];simp only [kS,kT,aac,cond_true] <;> rfl
omit hN in
theorem EV (N:Nat) (x y:Int × Int):Hc N (x,y)=some (decide (x=y)):=by
 rw [SS];congr 1;rw [ab7];simp only [aac,abJ,beq_iff_eq,decide_eq_true_eq];constructor
 ·rintro ⟨h1,h2⟩; exact Prod.ext h1 h2
 ·rintro rfl; exact ⟨rfl,rfl⟩
omit hN in
theorem abr (l:List XA):aB (map dv l)=true:=vC (fun _=>rfl) l
omit hN in
theorem abt (s:List XA) (i:Nat) (a b:Int):aF (map dv s) i (AV.agg [AV.int .i64 a,AV.int .i64 b])=map dv (s.set i (a,b)):=by
 rw [gn];show (map dv s).set i (dv (a,b))=_;rw [List.map_set]
omit hN in
theorem Tp (s:List XA) (a b c d:Int):map dv s++[AV.agg [AV.int .i64 a,AV.int .i64 b],AV.agg [AV.int .i64 c,AV.int .i64 d]]=map dv (s++[(a,b),(c,d)]):=by
 rw [abK]; rfl
theorem Kf (l:List dK) (hl:l.length≤1000000):aH (qG N l) N ((),0,[])=some ((),b8 l):=by
 have key:=lQ (rd:=qG N l) l (fun s k=>((),(k:Int),s)) (fun s b=>s++[Ak b,zN b]) (fun s=>((),s)) (fun s k=>s.length=2 * k) (fun s k hk hs=>by
  obtain ⟨a1,a2⟩:=zn l hk;have q:Ey N (l[k].1,l[k].2.1,l[k].2.2)=_:=BK N l[k];have jm:∀ a b c d:Int,aB [AV.int .i64 a,AV.int .i64 b,AV.int .i64 c,AV.int .i64 d]=true:=fun _ _ _ _=>rfl
  have hlen:(s++[(l[k].1,l[k].2.1),((zN l[k]).1,(zN l[k]).2)]).length=s.length+2:=by simp
  have hb:decide ((s.length+2) * 16≤140737488355328)=true:=decide_eq_true (by omega);refine ⟨?_,by rw [aaH,hs]; simp; omega⟩;simp only [qG,aab,aax,a1,a2,bP hk,bt hk,aaB,aac,cond_true,q,aaa,jm,Tp,hlen,hb,decide_true,Nat.beq_refl,kS,kT,bS (show k < 9223372036854775807 by omega)];rfl) (fun s _=>by
  simp only [qG,aab,cw,cond_false,Nat.beq_refl,kS,kT,aaB,aac,cond_true,aaa]) N [] 0 (aa9 _) (by unfold fD at hN; omega) rfl
 have sq:aH (qG N l) N ((),0,[])=_:=key;rw [sq,abq];congr 2;have gen:∀ (l:List dK) (s:List XA),l.foldl (fun s b=>s++[Ak b,zN b]) s=s++b8 l:=by
  intro l
  induction l with
  |nil=>intro s; simp [b8]
  |cons b l ih=>intro s; rw [aba,ih,b8,ab4]; rfl
 rw [gen]; rfl
section
variable (F st:List XA) (hn:st.length=F.length) (hF:F.length≤2000000)
include hn hF
theorem Tq (m:Nat) (h1:1≤m) (hm:m < F.length) (hu:zL (0,0) st (m+1)=st.take m) :
  ∃ x,aH (eX N ((),F) ((m:Int),st)) N ((m:Int),1,st)=some x∧∃ (t:Nat) (c:List XA),x=((t:Int),c)∧c.length=F.length∧t≤F.length∧c.take t=zL (0,0) st F.length:=by
 refine BD (rd:=eX N ((),F) ((m:Int),st)) (S:=Nat × List XA) (F.length - m - 1) (fun s i=>((s.1:Int),((i+1:Nat):Int),s.2))
  (fun s i=>s.1≤m+i∧s.2.length=F.length∧s.2.take s.1=zL (0,0) st (m+1+i)∧∀ t,m+i≤t→s.2[t]?=st[t]?) _ ?_ ?_ N (m,st) 0 (aa9 _) (by unfold fD at hN; omega) ⟨by omega,hn,hu.symm,fun _ _=>rfl⟩
 ·rintro ⟨t,c⟩ i hi ⟨i1,i2,i3,i4⟩;simp only at i1 i2 i3 i4;have hj:m+(i+1) < c.length:=by omega
  have hj0:m+i < c.length:=by omega
  have HA:m+(i+1) < st.length:=by omega
  have NH:m+i < st.length:=by omega
  have e1:c[m+(i+1)]=st[m+(i+1)]:=by
   have:=i4 (m+(i+1)) (by omega);rw [aaX hj,aaX HA] at this;exact abQ this
  have e0:c[m+i]=st[m+i]:=by
   have:=i4 (m+i) (by omega);rw [aaX hj0,aaX NH] at this;exact abQ this
  obtain ⟨a1,a2⟩:=BL c hj;obtain ⟨b1,b2⟩:=BL c hj0;rw [e1] at a1;rw [e0] at b1;have g1:st.getD (m+(i+1)) (0,0)=st[m+(i+1)]:=by simp [HA]
  have g0:st.getD (m+i) (0,0)=st[m+i]:=by simp [NH]
  have Ye:zL (0,0) st (m+1+(i+1))=if st[m+(i+1)]=st[m+i] then zL (0,0) st (m+1+i) else zL (0,0) st (m+1+i)++[st[m+(i+1)]]:=by
   rw [show m+1+(i+1)=m+1+i+1 by omega]
   conv=>lhs; unfold zL
   rw [show m+1+i=m+(i+1) by omega,g1,show m+(i+1) - 1=m+i by omega,g0];by_cases h:st[m+(i+1)]=st[m+i]
   ·rw [if_pos h,if_pos ⟨by omega,h⟩]
   ·rw [if_neg h,if_neg fun c=>h c.2]
  have hw:wrap .i64 (((i+1:Nat):Int) - 1)=(i:Int):=by rw [gF (by omega)]; omega
  have bZ:decide (((i+1:Nat):Int) < ((F.length - m:Nat):Int))=true:=decide_eq_true (by omega);have xQ:decide ((0:Int)≤((i+1:Nat):Int)∧((i+1:Nat):Int) < ((F.length - m:Nat):Int))=true:=decide_eq_true (by omega);have T7:decide ((0:Int)≤(i:Int)∧(i:Int) < ((F.length - m:Nat):Int))=true:=decide_eq_true (by omega);have Jd:decide (m+(i+1) < F.length)=true:=decide_eq_true (by omega);have hd0:decide (m+i < F.length)=true:=decide_eq_true (by omega);have hrt:decide ((0:Int)≤(t:Int)∧(t:Int) < (F.length:Int))=true:=decide_eq_true (by omega);have hdt:decide (t < F.length)=true:=decide_eq_true (by omega);have q:Hc N ((st[m+(i+1)].1,st[m+(i+1)].2),(st[m+i].1,st[m+i].2))=_:=EV N st[m+(i+1)] st[m+i];by_cases h:st[m+(i+1)]=st[m+i]
  ·rw [decide_eq_true h] at q;refine ⟨(t,c),?_,by omega,i2,?_,fun t' DQ=>i4 t' (by omega)⟩
   ·simp only [eX,aab,aax,abY,hw,bZ,xQ,T7,i2,Jd,hd0,a1,a2,b1,b2,decide_true,aaB,aac,cond_true,q,aaa,Bool.not_true,cond_false,kS,kT,bS (show i+1 < 9223372036854775807 by omega)]
   ·rw [Ye,if_pos h]; exact i3
  ·refine ⟨(t+1,c.set t st[m+(i+1)]),?_,by simp only; omega,by simp only [List.length_set]; exact i2,?_,fun t' DQ=>?_⟩
   ·simp only [eX,aab,aax,abY,hw,bZ,xQ,T7,i2,Jd,hd0,hrt,hdt,a1,a2,b1,b2,decide_true,aaB,aac,cond_true,q,h,decide_false,aaa,Bool.not_false,abt,kS,kT,bS (show i+1 < 9223372036854775807 by omega),bS (show t < 9223372036854775807 by omega)]
   ·rw [Ye,if_neg h,← i3];simp only;rw [List.take_succ,List.take_set_of_le (aa4 _),List.getElem?_set_self (by omega)];rfl
   ·simp only;rw [List.getElem?_set_ne (by omega)];exact i4 t' (by omega)
 ·rintro ⟨t,c⟩ ⟨i1,i2,i3,i4⟩;simp only at i1 i2 i3 i4;have mz:decide (((F.length - m - 1+1:Nat):Int) < ((F.length - m:Nat):Int))=false:=decide_eq_false (by omega);refine ⟨((t:Int),c),?_,t,c,rfl,i2,by omega,?_⟩
  ·simp only [eX,aab,aax,mz,cond_false,kS,kT,aac,cond_true,aaa]
  ·rw [i3]; congr 1; omega
omit hN hn hF in
theorem EW (s:List AV):∀ (t:Nat) (z:List AV),t+z.length=s.length→(bf s t z).length=s.length∧(bf s t z).take t=s.take t:=by
 induction s with
 |nil=>intro t z h; cases z with
  |nil=>simp [bf]
  |cons y z=>simp at h
 |cons a s ih=>
  intro t z h;cases z with
  |nil=>simp [bf]
  |cons y z=>
   cases t with
   |zero=>
    simp only [bf,aaR,aca,and_true];have:=ih 0 z (by simp at h ⊢; omega);omega
   |succ t=>
    simp only [bf,aaR,List.take_succ_cons];have:=ih t (y :: z) (by simp at h ⊢; omega);exact ⟨by omega,by rw [this.2]⟩
omit hN hn hF in
theorem uU:∀ (s:List AV) (t:Nat) (z:List AV),aB s=true→aB z=true→aB (bf s t z)=true
 |[],t,[],h1,h2=>by simpa [bf] using h1
 |[],t,y :: z,h1,h2=>rfl
 |a :: s,t,[],h1,h2=>by cases t <;> simpa [bf] using h1
 |a :: s,0,y :: z,h1,h2=>by
  simp only [aB,abJ] at h1 h2;simp only [bf,aB,abJ];exact ⟨h2.1,uU s 0 z h1.2 h2.2⟩
 |a :: s,t+1,y :: z,h1,h2=>by
  simp only [aB,abJ] at h1;simp only [bf,aB,abJ];exact ⟨h1.1,uU s t (y :: z) h1.2 h2⟩
theorem On:∃ o,aH (ga N ((),F)) N (1,st)=some o∧ace (fun l=>l) (fun l=>l) o=zL (0,0) st F.length∧∀ l,o=.inr l→l.length=F.length:=by
 have hN0:1≤F.length→F.length - 1 < N:=fun _=>by unfold fD at hN; omega
 by_cases hF0:F.length=0
 ·refine ⟨.inr st,?_,?_,fun l h=>by cases h; exact hn⟩
  ·obtain ⟨n,rfl⟩:∃ n,N=n+1:=⟨N - 1,by unfold fD at hN; omega⟩;rw [bF];have mz:decide ((1:Int) < (F.length:Int))=false:=decide_eq_false (by omega);simp only [ga,aab,mz,cond_false,kS,kT,aac,cond_true,aaa,acg]
  ·rw [hF0];have:st=[]:=List.length_eq_zero_iff.1 (by omega);rw [this]; rfl
 refine BE (rd:=ga N ((),F)) (S:=Unit) (F.length - 1) (fun _ k=>(((k+1:Nat):Int),st)) (fun _ k=>∀ j,0 < j→j < k+1→st.getD j (0,0)≠st.getD (j - 1) (0,0)) _ ?_ ?_ N () 0 (aa9 _) (by unfold fD at hN; omega) (fun j h1 h2=>by omega)
 ·rintro _ k hk hP;have HA:k+1 < st.length:=by omega
  have NH:k < st.length:=by omega
  obtain ⟨a1,a2⟩:=BL st HA;obtain ⟨b1,b2⟩:=BL st NH;have g1:st.getD (k+1) (0,0)=st[k+1]:=by simp [HA]
  have g0:st.getD k (0,0)=st[k]:=by simp [NH]
  have hw:wrap .i64 (((k+1:Nat):Int) - 1)=(k:Int):=by rw [gF (by omega)]; omega
  have Dp:k+1 < F.length:=by omega
  have uk:k < F.length:=by omega
  have Jd:decide (k+1 < F.length)=true:=decide_eq_true Dp;have hd0:decide (k < F.length)=true:=decide_eq_true uk;have q:Hc N ((st[k+1].1,st[k+1].2),(st[k].1,st[k].2))=_:=EV N st[k+1] st[k];by_cases h:st[k+1]=st[k]
  ·right;rw [decide_eq_true h] at q;have ht:=tK (0,0) st (k+1) (by omega) hP;have hu:zL (0,0) st (k+1+1)=st.take (k+1):=by
    rw [← ht]
    conv=>lhs; unfold zL
    rw [if_pos ⟨by omega,by rw [g1,show k+1 - 1=k by omega,g0]; exact h⟩]
   obtain ⟨x,r,t,c,rfl,c1,c2,c3'⟩:=Tq hN F st hn hF (k+1) (by omega) Dp hu;have hle:decide ((0:Int)≤((k+1:Nat):Int)∧((k+1:Nat):Int)≤(F.length:Int))=true:=decide_eq_true (by omega);have agd:decide ((0:Int)≤(t:Int)∧(t:Int)≤(F.length:Int))=true:=decide_eq_true (by omega);obtain ⟨z1,z2⟩:=EW (map dv c) t (acb (F.length - t) (AV.agg [AV.int .i64 0,AV.int .i64 0])) (by rw [List.length_replicate,aab]; omega);have z3:aB (bf (map dv c) t (acb (F.length - t) (AV.agg [AV.int .i64 0,AV.int .i64 0])))=true:=uU _ _ _ (abr c) (by
    have:∀ n,aB (acb n (AV.agg [AV.int .i64 0,AV.int .i64 0]))=true:=by
     intro n
     induction n with
     |zero=>rfl
     |succ n ih=>rw [List.replicate_succ,aB,ih]; rfl
    exact this _)
   have hs:decide (t+(F.length - t)≤F.length)=true:=decide_eq_true (by omega);have ht2:decide (t≤F.length)=true:=decide_eq_true c2;rw [aab] at z1;refine ⟨.inl (zL (0,0) st F.length),?_,rfl,fun l h=>by cases h⟩;have hmt:abT t (map dv c)=map dv (abT t c):=by rw [List.map_take]
   simp only [ga,aab,aax,abY,hw,bP Dp,bt Dp,bt uk,hn,Jd,hd0,a1,a2,b1,b2,decide_true,aaB,aac,cond_true,q,hle,kS,kT,aaa,r,agd,c1,hs,z1,ht2,z3,z2,hmt,c3']
  ·left;rw [decide_eq_false h] at q;refine ⟨(),?_,fun j h1 h2=>?_⟩
   ·simp only [ga,aab,aax,abY,hw,bP Dp,bt Dp,bt uk,hn,Jd,hd0,a1,a2,b1,b2,decide_true,aaB,aac,cond_true,q,cond_false,kS,kT,aaa,bS (show k+1 < 9223372036854775807 by omega)]
   ·by_cases hj:j=k+1
    ·subst hj;rw [g1,show k+1 - 1=k by omega,g0]; exact h
    ·exact hP j h1 (by omega)
 ·intro _ hP;have mz:decide (((F.length - 1+1:Nat):Int) < (F.length:Int))=false:=decide_eq_false (by omega);refine ⟨.inr st,?_,?_,fun l h=>by cases h; exact hn⟩
  ·simp only [ga,aab,mz,cond_false,kS,kT,aac,cond_true,aaa]
  ·have:=tK (0,0) st F.length (by omega) (fun j h1 h2=>hP j h1 (by omega));rw [this,← hn,aa6];rfl
end
theorem Hl (l:List dK) (hl:l.length≤1000000):SU N l=some (mw l):=by
 have hs:gD da Bx (map dv (b8 l))=map dv ((b8 l).mergeSort fun x y=>!AO y x):=by
  unfold gD;rw [show map (aM.bA da) (map dv (b8 l))=b8 l from kT _];rfl
 have hfp:allFit (fits da) (map dv (b8 l))=true:=kS _;have hlen:((b8 l).mergeSort fun x y=>!AO y x).length=(b8 l).length:=acd _;have hb:decide ((b8 l).length≤140737488355328)=true:=decide_eq_true (by rw [lm]; omega);have vi:(b8 l).length≤2000000:=by rw [lm]; omega
 have huq:=Xw aaP aaQ (0,0) (b8 l);have huq:zL (0,0) ((b8 l).mergeSort fun x y=>!AO y x) (b8 l).length=mw l:=huq;have z:((bif ((Nat.beq 0 (([]:List AV)).length&&Nat.beq 0 (([]:List AV)).length)&&(allFit (fits da) ([]:List AV)&&true)) then some ((),0,(map ef ([]:List AV))) else none:Option (Unit × Int × lS)).bind fun w7=>some w7)=some ((),0,[]):=rfl;rw [SY,z,aaa,Kf hN l hl,aaa];simp only [hs,hfp,aab,hb,hlen,decide_true,aaB,aac,cond_true,aa4,abr,kS,kT,aaa];by_cases h2:((b8 l).length:Int) < 2
 ·have ht:abT (b8 l).length (map dv ((b8 l).mergeSort fun x y=>!AO y x))=map dv ((b8 l).mergeSort fun x y=>!AO y x):=abN (by rw [aab,hlen]; exact aa4 _);simp only [h2,decide_true,cond_true,ht,kS,kT,aaa];congr 1;rw [← huq,tK (0,0) _ _ (by rw [hlen]; exact aa4 _) (fun j a b=>by omega),abN (by rw [hlen]; exact aa4 _)]
 ·obtain ⟨o,r,e,Lt⟩:=On hN (b8 l) ((b8 l).mergeSort fun x y=>!AO y x) hlen vi;simp only [h2,decide_false,cond_false,r,aaa];rw [huq] at e;cases o with
  |inl x=>
   simp only [ach] at e ⊢;rw [e];simp only [kS,kT,cond_true,aaa]
  |inr x=>
   have hx:=Lt x rfl;simp only [acg] at e ⊢;subst e;have ht:abT (b8 l).length (map dv (mw l))=map dv (mw l):=abN (by rw [aab,hx]; exact aa4 _);simp only [hx,decide_true,aa4,aaB,cond_true,ht,kS,kT,aaa]
end
end Go.Proofs.YtldcljfjjoidhaaGreatDoor
namespace Go.Proofs.YtldcljfjjoidhaaGreatDoor
open Go Go.Am Go.Sort
open List (map)
open Int (toNat)
open Go.IntKind (wrap)
open Go.Am.aM (fits)
set_option maxRecDepth 100000
theorem EX {c:bD} (h:dJ c=0) {k:Nat} (hk:k≤c.2.2.2.2.toNat):a8 (aS c k)=0:=by
 have h1:=mu h;unfold dJ at h;rw [if_pos h1] at h;have:=gu.1 h (a8 (aS c k)) (abZ.2 ⟨aS c k,abZ.2 ⟨k,abu.2 (by omega),rfl⟩,rfl⟩);exact this
theorem Tr {b:dK} (h0:a8 (Ak b)=0) (h1:b.2.2=-1∨b.2.2=1):zN b=(b.1+b.2.2,b.2.1+1):=by
 have:=jk h0;unfold Ak at this;simp only at this;unfold zN;rw [gF (by omega),gF (by omega)]
theorem Oo {c:bD} (h:dJ c=0) {k:Nat} (hk:k < c.2.2.2.2.toNat):uT (eF c k)=0:=by
 have k1:=EX h (show k≤c.2.2.2.2.toNat by omega);have k2:=EX h (show k+1≤c.2.2.2.2.toNat by omega);have hs:((aS c (k+1)).1=(aS c k).1+1∨(aS c (k+1)).1=(aS c k).1 - 1)∧((aS c (k+1)).2=(aS c k).2+1∨(aS c (k+1)).2=(aS c k).2 - 1):=by
  unfold aS sg;obtain ⟨x,y,r,u,n⟩:=c;simp only;rcases Nat.mod_two_eq_zero_or_one k with hm|hm
  ·have N6:(k+1) % 2=1:=by omega
   rw [hm,N6];cases r <;> cases u <;> simp <;> omega
  ·have N6:(k+1) % 2=0:=by omega
   rw [hm,N6];cases r <;> cases u <;> simp <;> omega
 unfold eF;generalize aS c k=a at *;generalize aS c (k+1)=b at *;obtain ⟨a1,a2⟩:=a;obtain ⟨b1,b2⟩:=b;simp only at hs;have e:∀ d:dK,a8 (Ak d)=0→(d.2.2=-1∨d.2.2=1)→a8 (d.1+d.2.2,d.2.1+1)=0→uT d=0:=by
  intro d h0 h1 h2;unfold uT;rw [if_neg (by simp [h0]),if_neg (by omega),Tr h0 h1];exact h2
 unfold iT;simp only;by_cases hh:a2 > b2
 ·rw [if_pos hh];refine e _ k2 (by simp only; omega) ?_;simp only;rw [show b1+(a1 - b1)=a1 by omega,show b2+1=a2 by omega];exact k1
 ·rw [if_neg hh];refine e _ k1 (by simp only; omega) ?_;simp only;rw [show a1+(b1 - a1)=b1 by omega,show a2+1=b2 by omega];exact k2
theorem Kg {c:bD} {b:dK}:b∈bM c↔∃ k,k < c.2.2.2.2.toNat∧eF c k=b:=by
 unfold bM cK;simp [abZ,abu]
theorem zO {p:List bD} (h:gA p=0):p.length≤256∧(∀ k (hk:k < p.length),ki (p.take k) p[k]=0):=by
 unfold gA at h;by_cases hp:p.length > 256
 ·rw [if_pos hp] at h; simp at h
 ·rw [if_neg hp] at h;exact ⟨by omega,fun k hk=>CT h hk⟩
theorem XN {p:List bD} (h:gA p=0):∀ c∈p,dJ c=0:=by
 intro c hc;obtain ⟨k,hk,rfl⟩:=ab0 hc;exact (ks ((zO h).2 k hk)).1
theorem Oq {p:List bD} (h:gA p=0):∀ b∈bz p,uT b=0:=by
 intro b hb;obtain ⟨c,hc,hb⟩:=List.mem_flatMap.1 hb;obtain ⟨k,hk,rfl⟩:=Kg.1 hb;exact Oo (XN h c hc) hk
theorem vR (c:bD):∀ k,(cK c k).Nodup
 |0=>by simp [cK]
 |k+1=>by
  rw [li,List.nodup_append];refine ⟨vR c k,by simp,?_⟩;intro a ha b hb e;rw [List.mem_singleton] at hb;subst hb; subst e;exact zM c k ha
theorem oC {p:List bD} (h:gA p=0):∀ k,k≤p.length→(bz (p.take k)).Nodup∧(bz (p.take k)).length≤4096:=by
 intro k
 induction k with
 |zero=>intro _; simp [bz]
 |succ k ih=>
  intro hk;have iG:k < p.length:=by omega
  obtain ⟨i1,i2⟩:=ih (by omega);obtain ⟨e1,e2,e3,e4⟩:=ks ((zO h).2 k iG);rw [qI p iG];refine ⟨?_,by rw [aaH]; exact e4⟩;rw [List.nodup_append];refine ⟨i1,vR _ _,?_⟩;intro a ha b hb e;subst e;exact e3 a hb ha
def ln (p:List bD):List dK:=J5 (ltOf qF) (0,0,0) (bz p)
theorem BM (p:List bD):Pb (ltOf qF) (ln p)∧∀ x,x∈ln p↔x∈bz p:=BC NI Ss (0,0,0) (bz p)
theorem Ot (a b:dK):ltOf qF a b=less a b:=by
 have h1:=N7 0 a b;have h2:=Kb 0 a b;rw [h1] at h2;exact abQ h2
theorem uV {p:List bD} (h:(bz p).Nodup):(bz p).mergeSort (fun x y=>!(ltOf qF) y x)=ln p:=by
 obtain ⟨s1,s2⟩:=EM NI (bz p);obtain ⟨n1,C6⟩:=BM p;refine CR NI ?_ n1 (fun x=>by rw [s2,C6]);have hn:((bz p).mergeSort (fun x y=>!(ltOf qF) y x)).Nodup:=(List.mergeSort_perm (bz p) _).nodup_iff.2 h;refine List.Pairwise.imp₂ ?_ s1 hn;intro a b hab cQ;cases hc:ltOf qF a b with
 |true=>rfl
 |false=>exact absurd (Ss a b hc hab) cQ
theorem EY {p:List bD} (h:(bz p).Nodup):(ln p).length=(bz p).length:=by
 rw [← uV h,acd]
theorem Ou {p:List bD} (h:gA p=0):Oj (ln p)=0:=by
 obtain ⟨o1,o2⟩:=oC h p.length (aa4 _);rw [aa6] at o1 o2;have hlen:=EY o1;obtain ⟨n1,C6⟩:=BM p;unfold Oj;rw [if_neg (by omega)];refine gu.2 fun x hx=>?_
 obtain ⟨k,hk,rfl⟩:=abZ.1 hx;have hk:k < (ln p).length:=abu.1 hk;have e1:(ln p).getD k (0,0,0)=(ln p)[k]:=by simp [hk]
 have c1:uT (ln p)[k]=0:=Oq h _ ((C6 _).1 (abS hk));unfold Tn;rw [e1,if_neg (by simp [c1])];refine if_neg ?_;rintro ⟨h0,hl⟩;have NR:k - 1 < (ln p).length:=by omega
 have e2:(ln p).getD (k - 1) (0,0,0)=(ln p)[k - 1]:=by simp [NR]
 rw [e2,← Ot] at hl;have:=List.pairwise_iff_getElem.1 n1 (k - 1) k NR hk (by omega);rw [hl] at this;cases this
section
variable {N:Nat} (hN:fD N)
include hN
def hM (l:List dK):List (XA × Bool):=l.foldl (fun m b=>sa (zN b) true m) []
theorem Kh (l:List dK) (hl:l.length≤1000000) (h:Oj l=0):T92 N l=some (mw l,0):=by
 rw [Xm];simp only [jG,iZ,aac,cond_true,aaa];rw [To hN,h,aaa,Hl hN l hl];simp only [bne_self_eq_false,cond_false,aaa,kS,kT,cond_true]
end
end Go.Proofs.YtldcljfjjoidhaaGreatDoor
namespace Go.Proofs.YtldcljfjjoidhaaGreatDoor
open Go Go.Am Go.Sort
open List (map)
open Int (toNat)
open Go.IntKind (wrap)
open Go.Am.aM (fits)
set_option maxRecDepth 100000
section
variable {N:Nat} (hN:fD N)
include hN
theorem XO (p:List bD) (n:Nat) (hn:n≤1000):∃ b,T26 N (p,(n:Int))=some b∧(b=true→(p.length≤n∨p.length=257)∧∀ c∈p,c.2.2.2.2≤12∨512 < c.2.2.2.2):=by
 rw [Wz];simp only [aab];by_cases hl:p.length≤n∨p.length=257
 ·have hp:p.length≤1000:=by omega
  have h1:((bif (decide ((p.length:Int) > (n:Int))) then (some ((p.length:Int) != 257)) else (some false)):Option Bool)=some false:=by
   by_cases h:p.length≤n
   ·rw [decide_eq_false (by omega)]; rfl
   ·have:p.length=257:=by omega
    rw [decide_eq_true (by omega),this]; rfl
  have q:=ER (rd:=zq N p) p.length (fun k=>(k:Int)) (fun k=>decide ((p.getD k (0,0,false,false,0)).2.2.2.2 > 12)&&decide ((p.getD k (0,0,false,false,0)).2.2.2.2≤512)) (fun _=>Sum.inl false) (Sum.inr ()) (fun k hk=>by
   obtain ⟨a1,a2⟩:=J7 hN p hk;have e:p.getD k (0,0,false,false,0)=p[k]:=by simp [hk]
   rw [e];simp only [zq,aab,aax,a1,a2,bP hk,bt hk,aaB,cond_true,bS (show k < 9223372036854775807 by omega)];generalize p[k]=c at *;cases decide (c.2.2.2.2 > 12) <;> cases decide (c.2.2.2.2≤512) <;> rfl) (by
   simp only [zq,aab,cw,cond_false]) N (by unfold fD at hN; omega)
  have q':aH (zq N p) N 0=_:=q;rw [h1,aaa,q'];simp only [cond_false,aaa];cases hf:(aa5 p.length).find? fun k=>decide ((p.getD k (0,0,false,false,0)).2.2.2.2 > 12)&&decide ((p.getD k (0,0,false,false,0)).2.2.2.2≤512) with
  |some j=>exact ⟨false,rfl,fun h=>by cases h⟩
  |none=>
   refine ⟨true,rfl,fun _=>⟨hl,fun c hc=>?_⟩⟩;obtain ⟨k,hk,rfl⟩:=ab0 hc;have:=List.find?_eq_none.1 hf k (abu.2 hk);have e:p.getD k (0,0,false,false,0)=p[k]:=by simp [hk]
   rw [e] at this;simp only [abJ,decide_eq_true_eq,not_and] at this;omega
 ·have h1:((bif (decide ((p.length:Int) > (n:Int))) then (some ((p.length:Int) != 257)) else (some false)):Option Bool)=some true:=by
   rw [decide_eq_true (by omega),cond_true];exact congrArg some (bne_iff_ne.2 (by omega))
  rw [h1,aaa];exact ⟨false,rfl,fun h=>by cases h⟩
end
end Go.Proofs.YtldcljfjjoidhaaGreatDoor
namespace Go.Proofs.YtldcljfjjoidhaaGreatDoor
open Go Go.Am Go.Sort
open List (map)
open Int (toNat)
open Go.IntKind (wrap)
open Go.Am.aM (fits)
set_option maxRecDepth 100000
theorem age {α β:Type} {rd:List β × Int→Option ((List β × Int) ⊕ List β)} (l:List α) (g:α→β)
  (h:∀ k (hk:k < l.length) (s:List β),s.length=k→rd (s,(k:Int))=some (.inl (s++[g l[k]],((k+1:Nat):Int)))) (h0:∀ s:List β,s.length=l.length→rd (s,(l.length:Int))=some (.inr s)) (n:Nat) (hn:l.length < n) :
  aH rd n ([],0)=some (l.map g):=by
 have key:=cT (rd:=rd) l.length (fun k=>((l.take k).map g,(k:Int))) (l.map g) (fun k hk=>by
  rw [h k hk _ (by rw [aab,List.length_take]; omega)];have e:(l.take (k+1)).map g=(l.take k).map g++[g l[k]]:=by
   rw [ab5,aaX hk,abK];rfl
  rw [e]) (by
  have e:(l.take l.length).map g=l.map g:=by rw [aa6]
  have:=h0 (l.map g) (by rw [aab]);rw [e];exact this) n 0 (aa9 _) (by omega)
 simpa using key
theorem Ts (l:List bD) (x y:Int) (r u:Bool) (n:Int):map fx l++[AV.agg [AV.int .i64 x,AV.int .i64 y,AV.bool r,AV.bool u,AV.int .i64 n]]=map fx (l++[(x,y,r,u,n)]):=by rw [abK]; rfl
theorem abv:((bif (allFit (fits e7) ([]:List AV)&&true) then some ((map df ([]:List AV)),(0:Int)) else none:Option (List bD × Int)).bind fun w9=>bif (decide (0=(map fx w9.1).length)&&true) then some w9 else none)=some ([],0):=rfl
section
variable {N:Nat} (hN:fD N)
include hN
theorem XP (p:List bD) (hp:p.length≤1000000):T38 N p=some p:=by
 rw [W7,abv,aaa];have key:aH (CN N p) N ([],0)=some (p.map id):=age p id (fun k hk s hs=>by
  obtain ⟨a1,a2⟩:=Hg hN p hk;generalize p[k]=c at *;have hb:decide ((k+1) * 32≤140737488355328)=true:=decide_eq_true (by omega);have sn:=Ts s c.1 c.2.1 c.2.2.1 c.2.2.2.1 c.2.2.2.2;simp only [CN,xe,aab,bP hk,bt hk,aax,a1,a2,aaB,cond_true,aaa,hs,hb,decide_true,sn,GU,GV,aac,aaH,aaZ,bS (show k < 9223372036854775807 by omega)];rfl) (fun s hs=>by
  simp only [CN,xe,aab,cw,cond_false,GU,GV,aaB,aac,decide_true,cond_true,aaa]) N (by unfold fD at hN; omega)
 rw [key,List.map_id,aaa];simp only [GU,GV,cond_true]
theorem Ov (l:List bD) (hl:l.length≤1000000):T37 N (l,l)=some true:=by
 have key:=cT (rd:=zI N l l) l.length (fun k=>(k:Int)) (.inr ()) (fun k hk=>by
  obtain ⟨a1,a2⟩:=J7 hN l hk;simp only [zI,aab,aax,bP hk,bt hk,a1,a2,aaB,cond_true,beq_self_eq_true,Bool.not_true,cond_false,bS (show k < 9223372036854775807 by omega)]) (by
  simp only [zI,aab,cw,cond_false]) N 0 (aa9 _) (by unfold fD at hN; omega)
 have sq:aH (zI N l l) N 0=some (.inr ()):=key;rw [W9,sq];simp only [bne_self_eq_false,cond_false,aaa,acg]
end
end Go.Proofs.YtldcljfjjoidhaaGreatDoor
namespace Go.Proofs.YtldcljfjjoidhaaGreatDoor
open Go Go.Am Go.Sort
open List (map)
open Int (toNat)
open Go.IntKind (wrap)
open Go.Am.aM (fits)
set_option maxRecDepth 100000
def abw (p:List bD) (a b:Int):Int × Int × Int × Int:=
 (((ln p).length:Int),((mw (ln p)).length:Int),((Ky p p.length).length:Int),wrap .i64 (wrap .i64 (((ln p).length:Int) * a)+wrap .i64 (((mw (ln p)).length:Int) * b)))
def Ow (p:List bD) (a b:Int):Int:=aU [gA p,tA a 1 100,tA b 0 100]
section
variable {N:Nat} (hN:fD N)
include hN
theorem zP {p:List bD} (h:gA p=0):(ln p).length≤4096:=by
 obtain ⟨o1,o2⟩:=oC h p.length (aa4 _);rw [aa6] at o1 o2;rw [EY o1];exact o2
theorem Tt (p:List bD) (a b:Int):T27 N (p,a,b)=some (if Ow p a b=0 then (abw p a b,0) else ((0,0,0,0),Ow p a b)):=by
 have z3:(bif (allFit (fits wS) [(AV.int .i64 (gA p)),(AV.int .i64 (tA a 1 100)),(AV.int .i64 (tA b 0 100))]) then some (map kd [(AV.int .i64 (gA p)),(AV.int .i64 (tA a 1 100)),(AV.int .i64 (tA b 0 100))]) else none:Option oQ)=some [gA p,tA a 1 100,tA b 0 100]:=rfl;rw [Xo];simp only [mZ,na,aac,cond_true,aaa,CU hN,IA,z3,nu hN _ (show [gA p,tA a 1 100,tA b 0 100].length≤9223372036854775806 by simp),JX];unfold Ow;by_cases h:aU [gA p,tA a 1 100,tA b 0 100]=0
 ·rw [if_pos h,if_pos h];have hp:gA p=0:=gu.1 h _ (by simp);obtain ⟨e1,e2⟩:=qJ hp;obtain ⟨o1,o2⟩:=oC hp p.length (aa4 _);rw [aa6] at o1;have nl:=zP hN hp;have q91:=IB hN p e2 (by omega);rw [uV o1] at q91;have q92:=Kh hN (ln p) (by omega) (Ou hp);have q93:=Oa hN p e2 (by omega);simp only [q91,aaa,jG,iZ,cond_true,q92,q93,aab];rfl
 ·rw [if_neg h,if_neg h]
end
end Go.Proofs.YtldcljfjjoidhaaGreatDoor
namespace Go.Proofs.YtldcljfjjoidhaaGreatDoor
open Go Go.Am Go.Sort
open List (map)
open Int (toNat)
open Go.IntKind (wrap)
open Go.Am.aM (fits)
set_option maxRecDepth 100000
theorem kj {u:Nat} (h:u < 10):aaC u=[abO (48+u)]:=by rw [aaC,dif_pos h]
theorem zQ {u:Nat} (h:¬ u < 10):aaC u=aaC (u / 10)++aaC (u % 10):=by
 rw [kj (show u % 10 < 10 by omega)]
 conv=>lhs; rw [aaC,dif_neg h]
theorem qK:∀ (k u:Nat),u < 10 ^ (k+1)→1≤(aaC u).length∧(aaC u).length≤k+1
 |0,u,h=>by rw [kj (by simpa using h)]; simp
 |k+1,u,h=>by
  by_cases h0:u < 10
  ·rw [kj h0]; simp
  ·have ih:=qK k (u / 10) (by rw [abR] at h; omega);rw [zQ h0,aaH,kj (show u % 10 < 10 by omega),aaZ];omega
section
variable {N:Nat} (hN:fD N)
include hN
theorem zS (x:Int) (h:-1000000000 < x∧x < 1000000000):Wx N x=some (aaM x):=by
 show zj x=_;rw [Ew];unfold zg;rw [decide_eq_true (by omega),decide_eq_true (by omega)];rfl
end
end Go.Proofs.YtldcljfjjoidhaaGreatDoor
namespace Go.Proofs.YtldcljfjjoidhaaGreatDoor
open Go Go.Am Go.Sort
open List (map)
open Int (toNat)
open Go.IntKind (wrap)
open Go.Am.aM (fits)
set_option maxRecDepth 100000
def ig (b:Bool):List UInt8:=if b then [114,105,103,104,116] else [108,101,102,116]
def Hm (b:Bool):List UInt8:=if b then [117,112] else [100,111,119,110]
def fa (c:bD):List UInt8:=(((((((((([97,116,32]++aaM c.1)++[32])++aaM c.2.1)++[32])++ig c.2.2.1)++[32])++Hm c.2.2.2.1)++[32])++aaM c.2.2.2.2)++[10])
theorem nA {x:Int} (h:-1000000000 < x∧x < 1000000000):1≤(aaM x).length∧(aaM x).length≤10:=by
 unfold aaM;split
 ·have:=qK 8 x.natAbs (by have:10 ^ (8+1)=1000000000:=rfl; omega);rw [aaR];omega
 ·have:=qK 8 x.toNat (by have:10 ^ (8+1)=1000000000:=rfl; omega);omega
theorem zT (b:Bool):(ig b).length≤5:=by cases b <;> decide
theorem IE (b:Bool):(Hm b).length≤4:=by cases b <;> decide
def Ox (c:bD):Prop:=(-1000000000 < c.1∧c.1 < 1000000000)∧(-1000000000 < c.2.1∧c.2.1 < 1000000000)∧(-1000000000 < c.2.2.2.2∧c.2.2.2.2 < 1000000000)
theorem CV {c:bD} (h:cU c=0):Ox c:=by
 obtain ⟨h1,h2,h3⟩:=dx h;have:=jk h1;simp only at this;exact ⟨by omega,by omega,by omega⟩
theorem uW {c:bD} (h:Ox c):(fa c).length≤60∧1≤(fa c).length:=by
 obtain ⟨h1,h2,h3⟩:=h;have l1:=nA h1;have l2:=nA h2;have l3:=nA h3;have l4:=zT c.2.2.1;have l5:=IE c.2.2.2.1;unfold fa;simp only [aaH,aaR,ab8];omega
def cV (p:List bD):List UInt8:=p.flatMap fa
theorem zU {p:List bD} {k:Nat} (hk:k < p.length):cV (p.take (k+1))=cV (p.take k)++fa p[k]:=by
 rw [ab5,aaX hk];unfold cV;rw [List.flatMap_append];simp
theorem uX {p:List bD} (h:∀ c∈p,Ox c):∀ k,k≤p.length→(cV (p.take k)).length≤60 * k
 |0,_=>by simp [cV]
 |k+1,hk=>by
  have ih:=uX h k (by omega);have iG:k < p.length:=by omega
  rw [zU iG,aaH];have:=uW (h _ (abS iG));omega
section
variable {N:Nat} (hN:fD N)
include hN
end
end Go.Proofs.YtldcljfjjoidhaaGreatDoor
namespace Go.Proofs.YtldcljfjjoidhaaGreatDoor
open Go Go.Am Go.Sort
open List (map)
open Int (toNat)
open Go.IntKind (wrap)
open Go.Am.aM (fits)
set_option maxRecDepth 100000
def bI (s:List UInt8):List Int:=s.map fun b=>(b.toNat:Int)
theorem CW (s:List UInt8):map Aj (bI s)=map jq s:=by
 unfold bI;rw [List.map_map];exact List.map_congr_left fun _ _=>rfl
theorem XQ (s t:List UInt8):map Aj (bI s)++map jq t=map Aj (bI (s++t)):=by rw [CW,CW,abK]
theorem Oy (s:List UInt8):(bI s).length=s.length:=by simp [bI]
theorem abx (s:List UInt8):r9 (map Aj (bI s))=true∧fP (map Aj (bI s))=s:=by
 rw [CW]
 induction s with
 |nil=>exact ⟨rfl,rfl⟩
 |cons b s ih=>
  have hb:b.toNat < 256:=b.toNat_lt;constructor
  ·show ((decide ((0:Int)≤(b.toNat:Int))&&decide ((b.toNat:Int) < 256))&&r9 (map jq s))=true;rw [ih.1,decide_eq_true (by omega),decide_eq_true (by omega)];rfl
  ·show abO ((b.toNat:Int).toNat) :: fP (map jq s)=b :: s;rw [ih.2,aax,UInt8.ofNat_toNat]
section
variable {N:Nat} (hN:fD N)
include hN
theorem Oz (m:Int) (p:List bD) (h:∀ c∈p,Ox c) (hp:p.length≤1000000) (h0:p≠[]):aH (qH m N p) N (0,false,[])=some (true,bI (cV p)):=by
 have hlp:0 < p.length:=ab1.2 h0;have key:=cT (rd:=qH m N p) p.length (fun k=>((k:Int),!(k == 0),bI (cV (p.take k)))) (true,bI (cV p)) (fun k hk=>by
  obtain ⟨a1,a2⟩:=Hg hN p hk;have hc:=h _ (abS hk);have l0:=(uW hc).1;have lt:=uX h k (by omega);rw [zU hk];have hf:(!(k+1 == 0))=true:=rfl;have HI:PT 0 (bif !(k == 0) then AV.ptr 0 0 else AV.fm)=true:=by cases (k == 0) <;> rfl
  have tl:(bI (cV (p.take k))).length=(cV (p.take k)).length:=Oy _;generalize cV (p.take k)=t at *;generalize (!(k == 0))=f at *;generalize p[k]=c at *;have TN:=XQ t (fa c);have O0:(bI (t++fa c)).length=t.length+(fa c).length:=by rw [Oy,aaH]
  have hb:decide ((t.length+(fa c).length) * 1≤140737488355328)=true:=decide_eq_true (by omega);obtain ⟨h1,h2,h3⟩:=hc;have l1:=(nA h1).2;have l2:=(nA h2).2;have l3:=(nA h3).2;have l4:=zT c.2.2.1;have l5:=IE c.2.2.2.1;have q1:∀ b:Bool,Yp N (b,([114,105,103,104,116]:List UInt8),([108,101,102,116]:List UInt8))=some (ig b):=fun b=>by rw [NY]; cases b <;> rfl
  have q2:∀ b:Bool,Yp N (b,([117,112]:List UInt8),([100,111,119,110]:List UInt8))=some (Hm b):=fun b=>by rw [NY]; cases b <;> rfl
  have t1:Wx N c.1=some (aaM c.1):=zS hN _ h1;have t2:Wx N c.2.1=some (aaM c.2.1):=zS hN _ h2;have t3:Wx N c.2.2.2.2=some (aaM c.2.2.2.2):=zS hN _ h3;have b1:∀ n:Nat,n≤1000→decide (n≤9223372036854775807)=true:=fun n hn=>decide_eq_true (by omega)
  have eL:(((((((((([97,116,32]++aaM c.1)++[32])++aaM c.2.1)++[32])++ig c.2.2.1)++[32])++Hm c.2.2.2.1)++[32])++aaM c.2.2.2.2)++[10])=fa c:=rfl;have d1:decide (([97,116,32]:List UInt8).length+(aaM c.1).length≤9223372036854775807)=true:=b1 _ (by simp only [aaR,ab8]; omega);simp only [qH,aab,aax,bP hk,bt hk,a1,a2,aaB,cond_true,t1,t2,t3,q1,q2,aaa,beq_self_eq_true,eL,HI,TN,tl,O0,hb,fa5,md5,decide_true,aac,bS (show k < 9223372036854775807 by omega)];simp only [aaH,aaR,ab8]
  repeat rw [b1 _ (by omega),cond_true]
  rfl) (by
  have e:(!(p.length == 0))=true:=by
   have:(p.length == 0)=false:=beq_false_of_ne (by omega);rw [this]; rfl
  have s0:dD (AV.ptr 0 0) AV.fm=false:=by decide
  have s2:dD (AV.ptr 0 0) (AV.ptr 0 0)=true:=by decide
  simp only [qH,aab,cw,cond_false,e,cond_true,s0,s2,Bool.false_or,fa5,md5,aaB,aac,decide_true,aaa,aa6]) N 0 (aa9 _) (by unfold fD at hN; omega)
 have key:aH (qH m N p) N (0,false,[])=some (true,bI (cV p)):=key;exact key
theorem zV (m:Int) (p:List bD):EL m N p=some (if gA p=0 then (cV p,0) else ([],gA p)):=by
 cases p with
 |nil=>rfl
 |cons c q=>
  show T29 m N (c :: q)=_;generalize hpq:c :: q=p;have h0:p≠[]:=by rw [← hpq]; simp
  rw [Xr];have z:((bif (allFit (fits p5) ([]:List AV)) then some (0,false,(map dq5 ([]:List AV))) else none:Option (Int × Bool × List Int)).bind fun Ez=>bif decide (0=Ez.2.2.length) then some Ez else none)=some (0,false,[]):=rfl;simp only [mZ,na,aac,cond_true,aaa,CU hN,JX];by_cases h:gA p=0
  ·rw [if_pos h,if_pos h];obtain ⟨e1,e2⟩:=qJ h;have hc:∀ c∈p,Ox c:=fun c hc=>CV (e2 c hc)
   have q:=Oz hN m p hc (by omega) h0;obtain ⟨o1,o2⟩:=abx (cV p);have cQ:List.isEmpty (map Aj (bI (cV p)))=false:=by
    rw [CW];cases p with
    |nil=>exact absurd rfl h0
    |cons c q=>
     have:=(uW (hc c (by simp))).2;cases hl:fa c with
     |nil=>rw [hl] at this; simp at this
     |cons x xs=>simp [cV,hl]
   simp only [aab,z,aaa,q,cQ,Bool.not_false,decide_true,o1,o2,aaB,cond_true]
  ·rw [if_neg h,if_neg h]
end
end Go.Proofs.YtldcljfjjoidhaaGreatDoor
namespace Go.Proofs.YtldcljfjjoidhaaGreatDoor
open Go Go.Am Go.Sort
open List (map)
open Int (toNat)
open Go.IntKind (wrap)
open Go.Am.aM (fits)
set_option maxRecDepth 100000
theorem CX {k:Nat} (h:k≤8):10 ^ k≤100000000:=by
 have:=acf (show 0 < 10 by omega) h;simpa using this
def Ki (s:List UInt8):Prop:=s=[]∨s.length > 9∨(1 < s.length∧(s.getD 0 0).toNat=48)∨∃ k,k < s.length∧((s.getD k 0).toNat < 48∨57 < (s.getD k 0).toNat)
def dh (s:List UInt8):Int:=(aa5 s.length).foldl (fun n k=>10 * n+(((s.getD k 0).toNat:Int) - 48)) 0
open Classical in
noncomputable def uY (s:List UInt8):Option Int:=if Ki s then none else some (dh s)
end Go.Proofs.YtldcljfjjoidhaaGreatDoor
namespace Go.Proofs.YtldcljfjjoidhaaGreatDoor
open Go Go.Am Go.Sort
open List (map)
open Int (toNat)
open Go.IntKind (wrap)
open Go.Am.aM (fits)
set_option maxRecDepth 100000
theorem uZ (s:List UInt8):∀ (l:List Nat) (n:Int) (j:Nat),(∀ k∈l,48≤(s.getD k 0).toNat∧(s.getD k 0).toNat≤57)→0≤n→n < ((10 ^ j:Nat):Int) →
  n≤(l.foldl (fun n k=>10 * n+(((s.getD k 0).toNat:Int) - 48)) n)∧(l.foldl (fun n k=>10 * n+(((s.getD k 0).toNat:Int) - 48)) n) < ((10 ^ (j+l.length):Nat):Int)
 |[],n,j,_,_,h2=>⟨ab9 _,h2⟩
 |a :: l,n,j,h,h1,h2=>by
  have ha:=h a List.mem_cons_self;have hp:(10:Nat) ^ (j+1)=10 ^ j * 10:=abR ..;have:=uZ s l (10 * n+(((s.getD a 0).toNat:Int) - 48)) (j+1) (fun k hk=>h k (aa3 _ hk)) (by omega) (by rw [hp]; omega);rw [show j+1+l.length=j+(a :: l).length by simp; omega] at this;rw [aba];exact ⟨by omega,this.2⟩
theorem Tu {s:List UInt8} {n:Int} (h:uY s=some n):0≤n∧n≤999999999∧¬ Ki s∧n=dh s:=by
 unfold uY at h;by_cases hb:Ki s
 ·rw [if_pos hb] at h; cases h
 ·rw [if_neg hb] at h;have e:=abQ h;subst e;have h9:¬ s.length > 9:=fun h=>hb (.inr (.inl h))
  have hd:∀ k∈aa5 s.length,48≤(s.getD k 0).toNat∧(s.getD k 0).toNat≤57:=fun k hk=>by
   have hk:=abu.1 hk;have:¬ ((s.getD k 0).toNat < 48∨57 < (s.getD k 0).toNat):=fun h=>hb (.inr (.inr (.inr ⟨k,hk,h⟩)))
   omega
  have:=uZ s (aa5 s.length) 0 0 hd (by omega) (by simp);have hp:10 ^ (0+(aa5 s.length).length)≤10 ^ 9:=acf (by omega) (by rw [aaY]; omega);have e9:10 ^ 9=1000000000:=rfl;unfold dh;refine ⟨this.1,by omega,hb,rfl⟩
noncomputable def lA (s:List UInt8):Option Int:=if 0 < s.length∧(s.getD 0 0).toNat=45 then (match uY (s.drop 1) with | some n=>if n > 0 then some (-n) else none | none=>none) else uY s
end Go.Proofs.YtldcljfjjoidhaaGreatDoor
namespace Go.Proofs.YtldcljfjjoidhaaGreatDoor
open Go Go.Am Go.Sort
open List (map)
open Int (toNat)
open Go.IntKind (wrap)
open Go.Am.aM (fits)
set_option maxRecDepth 100000
def XR (w:List UInt8):List (List UInt8)→List (List UInt8)
 |x :: xs=>(w++x) :: xs
 |[]=>[w]
theorem me (c b:UInt8) (l:List UInt8):bu c (b :: l)=if b=c then [] :: bu c l else XR [b] (bu c l):=by
 rw [bu];by_cases h:b=c
 ·rw [if_pos h,if_pos h]
 ·rw [if_neg h,if_neg h];cases bu c l <;> rfl
theorem uJ (c:UInt8) (l:List UInt8):bu c l≠[]:=by
 cases l with
 |nil=>simp [bu]
 |cons b l=>
  rw [me];split
  ·simp
  ·cases bu c l <;> simp [XR]
end Go.Proofs.YtldcljfjjoidhaaGreatDoor
namespace Go.Proofs.YtldcljfjjoidhaaGreatDoor
open Go Go.Am Go.Sort
open List (map)
open Int (toNat)
open Go.IntKind (wrap)
open Go.Am.aM (fits)
set_option maxRecDepth 100000
def OA (w:List UInt8) (L:List (List UInt8)):List (List UInt8):=if w=[] then L else XR w L
def cz:List UInt8→List (List UInt8)
 |[]=>[]
 |b :: l=>if b=10 then [10] :: cz l else OA [b] (cz l)
theorem u0 (w x:List UInt8) (L:List (List UInt8)) (hx:x≠[]):OA w (x :: L)=(w++x) :: L:=by
 unfold OA;by_cases hw:w=[]
 ·rw [if_pos hw,hw]; rfl
 ·rw [if_neg hw]; rfl
end Go.Proofs.YtldcljfjjoidhaaGreatDoor
namespace Go.Proofs.YtldcljfjjoidhaaGreatDoor
open Go Go.Am Go.Sort
open List (map)
open Int (toNat)
open Go.IntKind (wrap)
open Go.Am.aM (fits)
set_option maxRecDepth 100000
def Kz:List UInt8:=[97,116]
def vS:List UInt8:=[114,105,103,104,116]
def OB:List UInt8:=[108,101,102,116]
def xg:List UInt8:=[117,112]
def OC:List UInt8:=[100,111,119,110]
noncomputable def xh:List (List UInt8)→Option bD
 |[a,x,y,d,u,n]=>if a=Kz∧(d=vS∨d=OB)∧(u=xg∨u=OC) then (match lA x,lA y,lA n with
  |some x,some y,some n=>some (x,y,d == vS,u == xg,n)
  |_,_,_=>none) else none
 |_=>none
noncomputable def KA (s:List UInt8):Option bD:=if (s.getD (s.length - 1) 0).toNat=10 then xh (bu 32 (s.take (s.length - 1))) else none
theorem Hn (a b:List UInt8):(a == b)=decide (a=b):=by rw [ab7]; simp
end Go.Proofs.YtldcljfjjoidhaaGreatDoor
namespace Go.Proofs.YtldcljfjjoidhaaGreatDoor
open Go Go.Am Go.Sort
open List (map)
open Int (toNat)
open Go.IntKind (wrap)
open Go.Am.aM (fits)
set_option maxRecDepth 100000
theorem OD {u:Nat} (h:u < 10):(abO (48+u)).toNat=48+u:=by
 rw [UInt8.toNat_ofNat'];omega
theorem nB (s:List UInt8) (b:UInt8) {k:Nat} (hk:k < s.length):(s++[b]).getD k 0=s.getD k 0:=by
 rw [abP,abP,List.getElem?_append_left hk]
theorem qL (s:List UInt8) (b:UInt8):(s++[b]).getD s.length 0=b:=by
 rw [abP,List.getElem?_append_right (aa4 _),Nat.sub_self];rfl
theorem BN (s:List UInt8) (b:UInt8):dh (s++[b])=10 * dh s+((b.toNat:Int) - 48):=by
 unfold dh;rw [aaH,aaZ,List.range_succ,List.foldl_append,aba,List.foldl_nil,qL];have gen:∀ (l:List Nat) (n:Int),(∀ k∈l,k < s.length)→l.foldl (fun n k=>10 * n+((((s++[b]).getD k 0).toNat:Int) - 48)) n=l.foldl (fun n k=>10 * n+(((s.getD k 0).toNat:Int) - 48)) n:=by
  intro l
  induction l with
  |nil=>intro n _; rfl
  |cons k l ih=>
   intro n h;rw [aba,aba,nB s b (h k (by simp)),ih _ fun x hx=>h x (aa3 _ hx)]
 rw [gen _ _ fun k hk=>abu.1 hk]
theorem qh:∀ (k u:Nat),u < 10 ^ (k+1)→dh (aaC u)=(u:Int)∧(∀ j,j < (aaC u).length→48≤((aaC u).getD j 0).toNat∧((aaC u).getD j 0).toNat≤57)∧(0 < u→((aaC u).getD 0 0).toNat≠48)
 |0,u,h=>by
  have h:u < 10:=by simpa using h
  rw [kj h];have e:dh [abO (48+u)]=10 * 0+(((abO (48+u)).toNat:Int) - 48):=rfl;refine ⟨by rw [e,OD h]; omega,fun j hj=>?_,fun h0=>?_⟩
  ·have:j=0:=by simpa using hj
   subst this;show 48≤(abO (48+u)).toNat∧(abO (48+u)).toNat≤57;rw [OD h];omega
  ·show (abO (48+u)).toNat≠48;rw [OD h];omega
 |k+1,u,h=>by
  by_cases h0:u < 10
  ·exact qh 0 u (by simpa using h0)
  ·have hd:u / 10 < 10 ^ (k+1):=by rw [abR] at h; omega
   obtain ⟨i1,i2,i3⟩:=qh k (u / 10) hd;have l1:=(qK k (u / 10) hd).1;rw [zQ h0,kj (show u % 10 < 10 by omega)];refine ⟨by rw [BN,i1,OD (by omega)]; omega,fun j hj=>?_,fun _=>?_⟩
   ·rw [aaH,aaZ] at hj;by_cases WR:j < (aaC (u / 10)).length
    ·rw [nB _ _ WR];exact i2 j WR
    ·have:j=(aaC (u / 10)).length:=by omega
     subst this;rw [qL,OD (by omega)];omega
   ·rw [nB _ _ (by omega)];exact i3 (by omega)
theorem EZ {u:Nat} (h:u < 1000000000):uY (aaC u)=some (u:Int):=by
 have h9:u < 10 ^ (8+1):=by have:10 ^ (8+1)=1000000000:=rfl; omega
 obtain ⟨i1,i2,i3⟩:=qh 8 u h9;have l:=qK 8 u h9;have hb:¬ Ki (aaC u):=by
  rintro (e|e|⟨e1,e2⟩|⟨k,hk,e⟩)
  ·rw [e] at l; simp at l
  ·omega
  ·by_cases hu:u < 10
   ·rw [kj hu] at e1;simp at e1
   ·exact i3 (by omega) e2
  ·have:=i2 k hk;omega
 unfold uY;rw [if_neg hb,i1]
theorem va {x:Int} (h:-1000000000 < x∧x < 1000000000):lA (aaM x)=some x:=by
 unfold aaM;by_cases hx:x < 0
 ·rw [if_pos hx];unfold lA;have c:0 < (45 :: aaC x.natAbs).length∧((45 :: aaC x.natAbs).getD 0 0).toNat=45:=⟨by simp,rfl⟩;rw [if_pos c];have e:(45 :: aaC x.natAbs).drop 1=aaC x.natAbs:=rfl;rw [e,EZ (by omega)];have hp:((x.natAbs:Nat):Int) > 0:=by omega
  simp only [hp,if_true];congr 1;omega
 ·rw [if_neg hx];unfold lA;have h9:x.toNat < 10 ^ (8+1):=by have:10 ^ (8+1)=1000000000:=rfl; omega
  obtain ⟨i1,i2,i3⟩:=qh 8 x.toNat h9;have l:=qK 8 x.toNat h9;have c:¬ (0 < (aaC x.toNat).length∧((aaC x.toNat).getD 0 0).toNat=45):=fun ⟨c1,c2⟩=>by
   have:=i2 0 c1;omega
  rw [if_neg c,EZ (by omega)];congr 1;omega
end Go.Proofs.YtldcljfjjoidhaaGreatDoor
namespace Go.Proofs.YtldcljfjjoidhaaGreatDoor
open Go Go.Am Go.Sort
open List (map)
open Int (toNat)
open Go.IntKind (wrap)
open Go.Am.aM (fits)
set_option maxRecDepth 100000
noncomputable def my:List (List UInt8)→List bD→Nat→(Unit × Int × Int) ⊕ List bD
 |[],out,_=>.inr out
 |s :: t,out,i=>match KA s with
  |none=>.inl ((),(i:Int),25)
  |some c=>if i≥256 then .inl ((),(i:Int),5) else if ki out c=0 then my t (out++[c]) (i+1) else .inl ((),(i:Int),ki out c)
noncomputable def tM (L:List (List UInt8)):List bD × Int × Int:=ace (fun o=>([],o.2.1,o.2.2)) (fun o=>(o,0,0)) (my L [] 0)
theorem BO:∀ (s:List UInt8),∀ w∈cz s,w≠[]∧w.length≤s.length
 |[],w,h=>by cases h
 |b :: l,w,h=>by
  rw [cz] at h;have ih:=BO l;rw [aaR];split at h
  ·rcases ab3.1 h with rfl|h
   ·simp
   ·obtain ⟨h1,h2⟩:=ih w h;exact ⟨h1,by omega⟩
  ·unfold OA at h;rw [if_neg (by simp)] at h;cases hl:cz l with
   |nil=>
    rw [hl] at h;have h:w∈[[b]]:=h;rw [List.mem_singleton] at h;subst h;simp
   |cons x xs=>
    rw [hl] at h ih;rcases ab3.1 h with rfl|h
    ·have:=ih x (by simp);exact ⟨by simp,by show ([b]++x).length≤_; rw [aaH,aaZ]; omega⟩
    ·obtain ⟨h1,h2⟩:=ih w (aa3 _ h);exact ⟨h1,by omega⟩
theorem zW:∀ (s:List UInt8),(cz s).length≤s.length
 |[]=>aa4 _
 |b :: l=>by
  have ih:=zW l;rw [cz,aaR];split
  ·rw [aaR]; omega
  ·unfold OA;rw [if_neg (by simp)];cases hl:cz l with
   |nil=>show 1≤_; omega
   |cons x xs=>rw [hl] at ih; exact Nat.le_succ_of_le ih
section
variable {N:Nat} (hN:fD N)
include hN
end
end Go.Proofs.YtldcljfjjoidhaaGreatDoor
namespace Go.Proofs.YtldcljfjjoidhaaGreatDoor
open Go Go.Am Go.Sort
open List (map)
open Int (toNat)
open Go.IntKind (wrap)
open Go.Am.aM (fits)
set_option maxRecDepth 100000
theorem zX (c:UInt8):∀ w:List UInt8,(∀ b∈w,b≠c)→bu c w=[w]
 |[],_=>rfl
 |b :: w,h=>by
  rw [me,if_neg (h b (by simp)),zX c w fun x hx=>h x (aa3 _ hx)];rfl
theorem iB (c:UInt8) (r:List UInt8):∀ w:List UInt8,(∀ b∈w,b≠c)→bu c (w++c :: r)=w :: bu c r
 |[],_=>by
  rw [abX,me,if_pos rfl]
 |b :: w,h=>by
  rw [List.cons_append,me,if_neg (h b (by simp)),iB c r w fun x hx=>h x (aa3 _ hx)];rfl
theorem E0 (k u:Nat) (h:u < 10 ^ (k+1)):∀ b∈aaC u,48≤b.toNat∧b.toNat≤57:=by
 intro b hb;obtain ⟨j,hj,rfl⟩:=ab0 hb;have:=(qh k u h).2.1 j hj;rwa [show (aaC u).getD j 0=(aaC u)[j] by simp [hj]] at this
theorem ku {x:Int} (h:-1000000000 < x∧x < 1000000000):∀ b∈aaM x,b≠32∧b≠10:=by
 intro b hb;have key:∀ c:UInt8,(48≤c.toNat∧c.toNat≤57)→c≠32∧c≠10:=fun c hc=>⟨fun e=>by subst e; simp at hc,fun e=>by subst e; simp at hc⟩
 unfold aaM at hb;have hp:10 ^ (8+1)=1000000000:=rfl;split at hb
 ·rcases ab3.1 hb with rfl|hb
  ·decide
  ·exact key b (E0 8 _ (by omega) b hb)
 ·exact key b (E0 8 _ (by omega) b hb)
theorem zY (b:Bool):∀ x∈ig b,x≠32∧x≠10:=by cases b <;> decide
theorem IF (b:Bool):∀ x∈Hm b,x≠32∧x≠10:=by cases b <;> decide
theorem Tv:∀ x∈Kz,x≠32∧x≠10:=by decide
theorem Ho {c:bD} (h:Ox c):(fa c).length - 1 < (fa c).length∧(fa c).getD ((fa c).length - 1) 0=10∧bu 32 ((fa c).take ((fa c).length - 1))=[Kz,aaM c.1,aaM c.2.1,ig c.2.2.1,Hm c.2.2.2.1,aaM c.2.2.2.2]:=by
 obtain ⟨h1,h2,h3⟩:=h;have e:fa c=(Kz++32 :: (aaM c.1++32 :: (aaM c.2.1++32 :: (ig c.2.2.1++32 :: (Hm c.2.2.2.1++32 :: aaM c.2.2.2.2)))))++[10]:=by
  unfold fa Kz;simp [ab4]
 rw [e];generalize hB:(Kz++32 :: (aaM c.1++32 :: (aaM c.2.1++32 :: (ig c.2.2.1++32 :: (Hm c.2.2.2.1++32 :: aaM c.2.2.2.2)))))=B;have hl:(B++[10]).length - 1=B.length:=by rw [aaH]; rfl
 rw [hl];refine ⟨by rw [aaH,aaZ]; omega,qL B 10,?_⟩;rw [List.take_append_of_le_length (aa4 _),aa6,← hB];rw [iB 32 _ Kz fun b hb=>(Tv b hb).1,iB 32 _ _ fun b hb=>(ku h1 b hb).1,iB 32 _ _ fun b hb=>(ku h2 b hb).1,iB 32 _ _ fun b hb=>(zY _ b hb).1,iB 32 _ _ fun b hb=>(IF _ b hb).1,zX 32 _ fun b hb=>(ku h3 b hb).1]
theorem OE {c:bD} (h:Ox c):KA (fa c)=some c:=by
 obtain ⟨-,h2,h3⟩:=Ho h;unfold KA;rw [h2,if_pos (by rfl),h3];obtain ⟨n1,C6,tC⟩:=h;have hd:(ig c.2.2.1=vS∨ig c.2.2.1=OB)∧(ig c.2.2.1 == vS)=c.2.2.1:=by cases c.2.2.1 <;> decide
 have hu:(Hm c.2.2.2.1=xg∨Hm c.2.2.2.1=OC)∧(Hm c.2.2.2.1 == xg)=c.2.2.2.1:=by cases c.2.2.2.1 <;> decide
 show (if Kz=Kz∧(ig c.2.2.1=vS∨ig c.2.2.1=OB)∧(Hm c.2.2.2.1=xg∨Hm c.2.2.2.1=OC) then _ else none)=_;rw [if_pos ⟨rfl,hd.1,hu.1⟩,va n1,va C6,va tC,hd.2,hu.2]
end Go.Proofs.YtldcljfjjoidhaaGreatDoor
namespace Go.Proofs.YtldcljfjjoidhaaGreatDoor
open Go Go.Am Go.Sort
open List (map)
open Int (toNat)
open Go.IntKind (wrap)
open Go.Am.aM (fits)
set_option maxRecDepth 100000
theorem vT (r:List UInt8):∀ w:List UInt8,(∀ b∈w,b≠10)→cz (w++10 :: r)=(w++[10]) :: cz r
 |[],_=>by
  rw [abX,cz,if_pos rfl];rfl
 |b :: w,h=>by
  rw [List.cons_append,cz,if_neg (h b (by simp)),vT r w fun x hx=>h x (aa3 _ hx)];rfl
theorem Kj {c:bD} (h:Ox c):∃ w,fa c=w++[10]∧∀ b∈w,b≠10:=by
 obtain ⟨h1,h2,h3⟩:=h;refine ⟨((((((((([97,116,32]++aaM c.1)++[32])++aaM c.2.1)++[32])++ig c.2.2.1)++[32])++Hm c.2.2.2.1)++[32])++aaM c.2.2.2.2),rfl,fun b hb=>?_⟩;have WE:∀ b∈([32]:List UInt8),b≠10:=by decide
 have eat:∀ b∈([97,116,32]:List UInt8),b≠10:=by decide
 simp only [List.mem_append] at hb;rcases hb with ((((((((hb|hb)|hb)|hb)|hb)|hb)|hb)|hb)|hb)|hb
 ·exact eat b hb
 ·exact (ku h1 b hb).2
 ·exact WE b hb
 ·exact (ku h2 b hb).2
 ·exact WE b hb
 ·exact (zY _ b hb).2
 ·exact WE b hb
 ·exact (IF _ b hb).2
 ·exact WE b hb
 ·exact (ku h3 b hb).2
theorem vU:∀ (p:List bD),(∀ c∈p,Ox c)→cz (cV p)=p.map fa
 |[],_=>rfl
 |c :: p,h=>by
  obtain ⟨w,e,hw⟩:=Kj (h c (by simp));have et:cV (c :: p)=w++10 :: cV p:=by
   unfold cV;rw [List.flatMap_cons,e,ab4];rfl
  rw [et,vT _ w hw,vU p fun x hx=>h x (aa3 _ hx),List.map_cons,e]
theorem Kk {p:List bD} (h:gA p=0):∀ (t:List bD) (i:Nat),p.drop i=t→i≤p.length→my (t.map fa) (p.take i) i=.inr p:=by
 obtain ⟨e1,e2⟩:=qJ h;have hf:aU (AN p)=0:=by
  unfold gA at h;rwa [if_neg (by omega)] at h
 intro t
 induction t with
 |nil=>
  intro i hd hi;have:=List.drop_eq_nil_iff.1 hd;rw [List.map_nil,my,abN this]
 |cons c t ih=>
  intro i hd hi;have bZ:i < p.length:=by
   have:=congrArg List.length hd;rw [ab6,aaR] at this;omega
  have es:p[i]=c:=by
   have:=congrArg (fun l=>l[0]?) hd;simp only [List.getElem?_drop,Nat.add_zero,List.getElem?_cons_zero] at this;rw [aaX bZ] at this;exact abQ this
  have Jd:p.drop (i+1)=t:=by
   have:=congrArg List.tail hd;rw [List.tail_drop] at this;exact this
  have hc:c∈p:=by rw [← es]; exact abS bZ
  have ea:=CT hf bZ;rw [es] at ea;rw [List.map_cons,my,OE (CV (e2 c hc))];simp only [if_neg (show ¬ i≥256 by omega),if_pos ea];have et:p.take i++[c]=p.take (i+1):=by rw [ab5,aaX bZ,es]; rfl
  rw [et];exact ih (i+1) Jd (by omega)
theorem Kl {p:List bD} (h:gA p=0):tM (cz (cV p))=(p,0,0):=by
 obtain ⟨e1,e2⟩:=qJ h;rw [vU p fun c hc=>CV (e2 c hc)];unfold tM;have:=Kk h p 0 rfl (aa9 _);rw [aca] at this;rw [this];rfl
end Go.Proofs.YtldcljfjjoidhaaGreatDoor
namespace Go.Proofs.YtldcljfjjoidhaaGreatDoor
open Go Go.Am Go.Sort
open List (map)
open Int (toNat)
open Go.IntKind (wrap)
open Go.Am.aM (fits)
set_option maxRecDepth 100000
def tW (d:List UInt8) (x:Int) (k:Nat):Int ⊕ XA:=if (d.getD k 0).toNat < 48∨57 < (d.getD k 0).toNat then .inr (x,((k+(bp d k).2:Nat):Int)) else .inl (10 * x+(((d.getD k 0).toNat:Int) - 48))
theorem qM (s:List UInt8):∀ (l:List Nat) (n:Int),(∀ k∈l,48≤(s.getD k 0).toNat∧(s.getD k 0).toNat≤57)→foldI (tW s) n l=.inl (l.foldl (fun n k=>10 * n+(((s.getD k 0).toNat:Int) - 48)) n)
 |[],_,_=>rfl
 |a :: l,n,h=>by
  have hb:=h a List.mem_cons_self;have e:tW s n a=.inl (10 * n+(((s.getD a 0).toNat:Int) - 48)):=by unfold tW; rw [if_neg (by omega)]
  simp only [foldI,e,ach,aba];exact qM s l _ fun k hk=>h k (aa3 _ hk)
theorem qN (s:List UInt8):∀ (l:List Nat) (n:Int) (k:Nat),k∈l→((s.getD k 0).toNat < 48∨57 < (s.getD k 0).toNat)→∃ z,foldI (tW s) n l=.inr z
 |[],_,_,h,_=>by cases h
 |a :: l,n,k,h,hb=>by
  simp only [foldI];by_cases ha:(s.getD a 0).toNat < 48∨57 < (s.getD a 0).toNat
  ·unfold tW; rw [if_pos ha]; exact ⟨_,rfl⟩
  ·have e:tW s n a=.inl (10 * n+(((s.getD a 0).toNat:Int) - 48)):=by unfold tW; rw [if_neg ha]
   rw [e,ach];rcases ab3.1 h with rfl|h
   ·exact absurd hb ha
   ·exact qN s l _ k h hb
theorem zZ {d:List UInt8} {k:Nat} (hk:k < d.length) (h:(d.getD k 0).toNat < 48∨57 < (d.getD k 0).toNat):(bp d k).1 < 48∨57 < (bp d k).1:=by
 obtain ⟨r1,r2⟩:=Ig d k hk;have e:d.getD k 0=d[k]:=by simp [hk]
 rw [e] at h;by_cases hb:d[k].toNat < 128
 ·rw [r1 hb]; exact h
 ·exact .inr (by have:=r2 (by omega); omega)
theorem z6 {d:List UInt8} {k:Nat} (hk:k < d.length) (h:¬ ((d.getD k 0).toNat < 48∨57 < (d.getD k 0).toNat)):bp d k=((d.getD k 0).toNat,1):=by
 have e:d.getD k 0=d[k]:=by simp [hk]
 rw [e] at h ⊢;exact (Ig d k hk).1 (by omega)
def oD (w:List UInt8):Bool:=decide (0 < w.length∧(w.getD 0 0).toNat=45)
def nC (w:List UInt8):List UInt8:=if oD w then w.drop 1 else w
def oO (d:List UInt8) (mb:Bool):Bool:=decide (d=[]∨9 < d.length∨((d.getD 0 0).toNat=48∧(1 < d.length∨mb=true)))
open Classical in
noncomputable def iU (d:List UInt8) (mb:Bool):Option Int:=if oO d mb=true then none else if ∃ k,k < d.length∧((d.getD k 0).toNat < 48∨57 < (d.getD k 0).toNat) then none else some (if mb then - dh d else dh d)
theorem IG {d:List UInt8} (h0:d≠[]) (h1:(d.getD 0 0).toNat≠48) (h:¬ ∃ k,k < d.length∧((d.getD k 0).toNat < 48∨57 < (d.getD k 0).toNat)):0 < dh d:=by
 have hp:=ab1.2 h0;have hd:∀ k,k < d.length→48≤(d.getD k 0).toNat∧(d.getD k 0).toNat≤57:=fun k hk=>by
  have:¬ ((d.getD k 0).toNat < 48∨57 < (d.getD k 0).toNat):=fun x=>h ⟨k,hk,x⟩
  omega
 unfold dh;obtain ⟨n,hn⟩:∃ n,d.length=n+1:=⟨d.length - 1,by omega⟩;rw [hn,List.range_succ_eq_map,aba];have h9:=hd 0 hp;have:=(uZ d ((aa5 n).map Nat.succ) (10 * 0+(((d.getD 0 0).toNat:Int) - 48)) 1 (fun k hk=>by
  obtain ⟨j,hj,rfl⟩:=abZ.1 hk;exact hd _ (by have:=abu.1 hj; omega)) (by omega) (by omega)).1
 omega
theorem CY (w:List UInt8):lA w=iU (nC w) (oD w):=by
 unfold lA nC oD;by_cases hm:0 < w.length∧(w.getD 0 0).toNat=45
 ·rw [if_pos hm,decide_eq_true hm,if_pos rfl];generalize w.drop 1=d;by_cases Hp:Ki d
  ·have e1:uY d=none:=by unfold uY; rw [if_pos Hp]
   have e2:iU d true=none:=by
    unfold iU;by_cases hb:oO d true=true
    ·rw [if_pos hb]
    ·rw [if_neg hb,if_pos];rcases Hp with h|h|h|h
     ·exact absurd (decide_eq_true (.inl h)) hb
     ·exact absurd (decide_eq_true (.inr (.inl h))) hb
     ·exact absurd (decide_eq_true (.inr (.inr ⟨h.2,.inl h.1⟩))) hb
     ·exact h
   rw [e1,e2]
  ·have e1:uY d=some (dh d):=by unfold uY; rw [if_neg Hp]
   have h1:d≠[]:=fun h=>Hp (.inl h)
   have h2:¬ 9 < d.length:=fun h=>Hp (.inr (.inl h))
   have h3:¬ ∃ k,k < d.length∧((d.getD k 0).toNat < 48∨57 < (d.getD k 0).toNat):=fun h=>Hp (.inr (.inr (.inr h)))
   have Dp:=ab1.2 h1;rw [e1];by_cases h4:(d.getD 0 0).toNat=48
   ·have h5:¬ 1 < d.length:=fun h=>Hp (.inr (.inr (.inl ⟨h,h4⟩)))
    have hl:d.length=1:=by omega
    have hv:dh d=0:=by
     unfold dh;rw [hl];show 10 * 0+(((d.getD 0 0).toNat:Int) - 48)=0;omega
    have e2:iU d true=none:=by
     unfold iU;exact if_pos (show oO d true=true from decide_eq_true (.inr (.inr ⟨h4,.inr rfl⟩)))
    rw [e2,hv];rfl
   ·have hv:=IG h1 h4 h3;have e2:iU d true=some (- dh d):=by
     unfold iU;have hb:¬ oO d true=true:=fun h=>by
      rcases of_decide_eq_true h with h|h|h
      ·exact h1 h
      ·exact h2 h
      ·exact h4 h.1
     rw [if_neg hb,if_neg h3];rfl
    rw [e2];show (if dh d > 0 then some (- dh d) else none)=some (- dh d);rw [if_pos hv]
 ·rw [if_neg hm,decide_eq_false hm,if_neg (by decide)];unfold uY iU oO Ki;by_cases h3:∃ k,k < w.length∧((w.getD k 0).toNat < 48∨57 < (w.getD k 0).toNat)
  ·rw [if_pos (.inr (.inr (.inr h3))),if_pos h3];simp
  ·rw [if_neg h3];by_cases hb:w=[]∨w.length > 9∨(1 < w.length∧(w.getD 0 0).toNat=48)
   ·rw [if_pos (by rcases hb with h | h | h; exact .inl h; exact .inr (.inl h); exact .inr (.inr (.inl h))),if_pos];rw [decide_eq_true_eq];rcases hb with h|h|h
    ·exact .inl h
    ·exact .inr (.inl h)
    ·exact .inr (.inr ⟨h.2,.inl h.1⟩)
   ·rw [if_neg (by rintro (h | h | h | h); exact hb (.inl h); exact hb (.inr (.inl h)); exact hb (.inr (.inr h)); exact h3 h),if_neg]
    ·rfl
    ·rw [decide_eq_true_eq];rintro (h|h|⟨h,h'⟩)
     ·exact hb (.inl h)
     ·exact hb (.inr (.inl h))
     ·rcases h' with h'|h'
      ·exact hb (.inr (.inr ⟨h',h⟩))
      ·cases h'
section
variable {m:Int} {N:Nat} (hN:fD N)
include hN
theorem agf (v1:(List UInt8) × (List bD) × Int × (List (dK × Bool)) × Unit × Int × Int × Int × Bool × Bool × Int) (M:List (dK × Bool)) (n0:Int) (q:bD) (c2:Int) (c3:Bool) (c4:Bool) (c5:Int) (d:List UInt8) (hd:d.length≤9) :
  aH (iA m N v1) N (M,(),n0,q.1,q.2.1,q.2.2.1,q.2.2.2.1,q.2.2.2.2,0,c2,c3,c4,c5,(),(),(),(),(),(),(),d,((0:Nat):Int)) =
   some (ace (fun x=>.inl (M,(),n0,q.1,q.2.1,q.2.2.1,q.2.2.2.1,q.2.2.2.2,x,c2,c3,c4,c5,(),(),(),(),(),(),(),d,((d.length:Nat):Int))) (fun z=>.inr (false,M,(),n0,q.1,q.2.1,q.2.2.1,q.2.2.2.1,q.2.2.2.2,z.1,c2,c3,c4,c5,(),(),(),(),(),(),(),d,z.2)) (foldI (tW d) 0 (aa5 d.length))):=by
 have key:=fZ (rd:=iA m N v1) (aa5 d.length) (fun (x:Int) k=>(M,(),n0,q.1,q.2.1,q.2.2.1,q.2.2.2.1,q.2.2.2.2,x,c2,c3,c4,c5,(),(),(),(),(),(),(),d,(k:Int))) (tW d) (fun x=>.inl (M,(),n0,q.1,q.2.1,q.2.2.1,q.2.2.2.1,q.2.2.2.2,x,c2,c3,c4,c5,(),(),(),(),(),(),(),d,((d.length:Nat):Int))) (fun z=>.inr (false,M,(),n0,q.1,q.2.1,q.2.2.1,q.2.2.2.1,q.2.2.2.2,z.1,c2,c3,c4,c5,(),(),(),(),(),(),(),d,z.2)) (fun x k=>0≤x∧x < ((10 ^ k:Nat):Int)∧k≤9)
  (fun x k hk hP=>by
   obtain ⟨p1,p2,p3⟩:=hP;rw [aaY] at hk;rw [ab2];have hb:abU k d.length=true:=abV hk;by_cases hx:(d.getD k 0).toNat < 48∨57 < (d.getD k 0).toNat
   ·constructor
    ·have rb:=zZ hk hx;unfold tW;rw [if_pos hx];simp only [iA,aax,hb,Sum.map_inr];by_cases q1:(bp d k).1 < 48
     ·have d1:decide ((((bp d k).1:Nat):Int) < 48)=true:=decide_eq_true (by omega);simp only [d1,au.cells,au.bc,av,aw,aaB,aac,cond_true,cond_false,aaa,eq_self,decide_true,aax]
     ·have d1:decide ((((bp d k).1:Nat):Int) < 48)=false:=decide_eq_false (by omega);have lz:decide ((((bp d k).1:Nat):Int) > 57)=true:=decide_eq_true (by omega);simp only [d1,lz,au.cells,au.bc,av,aw,aaB,aac,cond_true,cond_false,aaa,eq_self,decide_true,aax]
    ·intro s' h;unfold tW at h;rw [if_pos hx] at h;cases h
   ·have hp8:=CX (show k≤8 by omega);have es:tW d x k=.inl (10 * x+(((d.getD k 0).toNat:Int) - 48)):=by unfold tW; rw [if_neg hx]
    have rd:=z6 hk hx;rw [es];constructor
    ·have w1:wrap .i32 ((((d.getD k 0).toNat:Nat):Int) - 48)=(((d.getD k 0).toNat:Nat):Int) - 48:=IntWalk.i32_in _ (by omega);have w2:wrap .i64 ((((d.getD k 0).toNat:Nat):Int) - 48)=(((d.getD k 0).toNat:Nat):Int) - 48:=gF (by omega);have w3:wrap .i64 (10 * x)=10 * x:=gF (by omega);have w4:wrap .i64 (10 * x+((((d.getD k 0).toNat:Nat):Int) - 48))=10 * x+((((d.getD k 0).toNat:Nat):Int) - 48):=gF (by omega);have d1:decide ((((d.getD k 0).toNat:Nat):Int) < 48)=false:=decide_eq_false (by omega);have lz:decide ((((d.getD k 0).toNat:Nat):Int) > 57)=false:=decide_eq_false (by omega);simp only [iA,aax,hb,rd,Sum.map_inl,d1,lz,au.cells,au.bc,av,aw,aaB,aac,cond_true,cond_false,aaa,eq_self,decide_true,w1,w2,w3,w4]
    ·intro s' h;injection h with h;subst h;have:(10:Nat) ^ (k+1)=10 ^ k * 10:=abR ..;refine ⟨by omega,?_,by omega⟩;rw [this];omega) (fun x _=>by
   have hb:abU d.length d.length=false:=by
    cases hb:abU d.length d.length with
    |false=>rfl
    |true=>have:=abW hb; omega
   simp only [iA,aaY,aax,hb,au.cells,au.bc,av,aw,aaB,aac,cond_true,cond_false,aaa,eq_self,decide_true]) N 0 0 (aa9 _) (by rw [aaY]; unfold fD at hN; omega) ⟨ab9 _,by simp,by omega⟩
 rw [abq] at key;exact key
theorem agh (v1:(List UInt8) × (List bD) × Int × (List (dK × Bool)) × Unit × Int × Int × Int × Bool × Bool × Int) (M:List (dK × Bool)) (n0:Int) (q:bD) (c1:Int) (c3:Bool) (c4:Bool) (c5:Int) (d:List UInt8) (hd:d.length≤9) :
  aH (gz m N v1) N (M,(),n0,q.1,q.2.1,q.2.2.1,q.2.2.2.1,q.2.2.2.2,c1,0,c3,c4,c5,(),(),(),(),(),(),(),d,((0:Nat):Int)) =
   some (ace (fun x=>.inl (M,(),n0,q.1,q.2.1,q.2.2.1,q.2.2.2.1,q.2.2.2.2,c1,x,c3,c4,c5,(),(),(),(),(),(),(),d,((d.length:Nat):Int))) (fun z=>.inr (false,M,(),n0,q.1,q.2.1,q.2.2.1,q.2.2.2.1,q.2.2.2.2,c1,z.1,c3,c4,c5,(),(),(),(),(),(),(),d,z.2)) (foldI (tW d) 0 (aa5 d.length))):=by
 have key:=fZ (rd:=gz m N v1) (aa5 d.length) (fun (x:Int) k=>(M,(),n0,q.1,q.2.1,q.2.2.1,q.2.2.2.1,q.2.2.2.2,c1,x,c3,c4,c5,(),(),(),(),(),(),(),d,(k:Int))) (tW d) (fun x=>.inl (M,(),n0,q.1,q.2.1,q.2.2.1,q.2.2.2.1,q.2.2.2.2,c1,x,c3,c4,c5,(),(),(),(),(),(),(),d,((d.length:Nat):Int))) (fun z=>.inr (false,M,(),n0,q.1,q.2.1,q.2.2.1,q.2.2.2.1,q.2.2.2.2,c1,z.1,c3,c4,c5,(),(),(),(),(),(),(),d,z.2)) (fun x k=>0≤x∧x < ((10 ^ k:Nat):Int)∧k≤9)
  (fun x k hk hP=>by
   obtain ⟨p1,p2,p3⟩:=hP;rw [aaY] at hk;rw [ab2];have hb:abU k d.length=true:=abV hk;by_cases hx:(d.getD k 0).toNat < 48∨57 < (d.getD k 0).toNat
   ·constructor
    ·have rb:=zZ hk hx;unfold tW;rw [if_pos hx];simp only [gz,aax,hb,Sum.map_inr];by_cases q1:(bp d k).1 < 48
     ·have d1:decide ((((bp d k).1:Nat):Int) < 48)=true:=decide_eq_true (by omega);simp only [d1,au.cells,au.bc,av,aw,aaB,aac,cond_true,cond_false,aaa,eq_self,decide_true,aax]
     ·have d1:decide ((((bp d k).1:Nat):Int) < 48)=false:=decide_eq_false (by omega);have lz:decide ((((bp d k).1:Nat):Int) > 57)=true:=decide_eq_true (by omega);simp only [d1,lz,au.cells,au.bc,av,aw,aaB,aac,cond_true,cond_false,aaa,eq_self,decide_true,aax]
    ·intro s' h;unfold tW at h;rw [if_pos hx] at h;cases h
   ·have hp8:=CX (show k≤8 by omega);have es:tW d x k=.inl (10 * x+(((d.getD k 0).toNat:Int) - 48)):=by unfold tW; rw [if_neg hx]
    have rd:=z6 hk hx;rw [es];constructor
    ·have w1:wrap .i32 ((((d.getD k 0).toNat:Nat):Int) - 48)=(((d.getD k 0).toNat:Nat):Int) - 48:=IntWalk.i32_in _ (by omega);have w2:wrap .i64 ((((d.getD k 0).toNat:Nat):Int) - 48)=(((d.getD k 0).toNat:Nat):Int) - 48:=gF (by omega);have w3:wrap .i64 (10 * x)=10 * x:=gF (by omega);have w4:wrap .i64 (10 * x+((((d.getD k 0).toNat:Nat):Int) - 48))=10 * x+((((d.getD k 0).toNat:Nat):Int) - 48):=gF (by omega);have d1:decide ((((d.getD k 0).toNat:Nat):Int) < 48)=false:=decide_eq_false (by omega);have lz:decide ((((d.getD k 0).toNat:Nat):Int) > 57)=false:=decide_eq_false (by omega);simp only [gz,aax,hb,rd,Sum.map_inl,d1,lz,au.cells,au.bc,av,aw,aaB,aac,cond_true,cond_false,aaa,eq_self,decide_true,w1,w2,w3,w4]
    ·intro s' h;injection h with h;subst h;have:(10:Nat) ^ (k+1)=10 ^ k * 10:=abR ..;refine ⟨by omega,?_,by omega⟩;rw [this];omega) (fun x _=>by
   have hb:abU d.length d.length=false:=by
    cases hb:abU d.length d.length with
    |false=>rfl
    |true=>have:=abW hb; omega
   simp only [gz,aaY,aax,hb,au.cells,au.bc,av,aw,aaB,aac,cond_true,cond_false,aaa,eq_self,decide_true]) N 0 0 (aa9 _) (by rw [aaY]; unfold fD at hN; omega) ⟨ab9 _,by simp,by omega⟩
 rw [abq] at key;exact key
theorem agi (v1:(List UInt8) × (List bD) × Int × (List (dK × Bool)) × Unit × Int × Int × Int × Bool × Bool × Int) (M:List (dK × Bool)) (n0:Int) (q:bD) (c1:Int) (c2:Int) (c3:Bool) (c4:Bool) (d:List UInt8) (hd:d.length≤9) :
  aH (fE m N v1) N (M,(),n0,q.1,q.2.1,q.2.2.1,q.2.2.2.1,q.2.2.2.2,c1,c2,c3,c4,0,(),(),(),(),(),(),(),d,((0:Nat):Int)) =
   some (ace (fun x=>.inl (M,(),n0,q.1,q.2.1,q.2.2.1,q.2.2.2.1,q.2.2.2.2,c1,c2,c3,c4,x,(),(),(),(),(),(),(),d,((d.length:Nat):Int))) (fun z=>.inr (false,M,(),n0,q.1,q.2.1,q.2.2.1,q.2.2.2.1,q.2.2.2.2,c1,c2,c3,c4,z.1,(),(),(),(),(),(),(),d,z.2)) (foldI (tW d) 0 (aa5 d.length))):=by
 have key:=fZ (rd:=fE m N v1) (aa5 d.length) (fun (x:Int) k=>(M,(),n0,q.1,q.2.1,q.2.2.1,q.2.2.2.1,q.2.2.2.2,c1,c2,c3,c4,x,(),(),(),(),(),(),(),d,(k:Int))) (tW d) (fun x=>.inl (M,(),n0,q.1,q.2.1,q.2.2.1,q.2.2.2.1,q.2.2.2.2,c1,c2,c3,c4,x,(),(),(),(),(),(),(),d,((d.length:Nat):Int))) (fun z=>.inr (false,M,(),n0,q.1,q.2.1,q.2.2.1,q.2.2.2.1,q.2.2.2.2,c1,c2,c3,c4,z.1,(),(),(),(),(),(),(),d,z.2)) (fun x k=>0≤x∧x < ((10 ^ k:Nat):Int)∧k≤9)
  (fun x k hk hP=>by
   obtain ⟨p1,p2,p3⟩:=hP;rw [aaY] at hk;rw [ab2];have hb:abU k d.length=true:=abV hk;by_cases hx:(d.getD k 0).toNat < 48∨57 < (d.getD k 0).toNat
   ·constructor
    ·have rb:=zZ hk hx;unfold tW;rw [if_pos hx];simp only [fE,aax,hb,Sum.map_inr];by_cases q1:(bp d k).1 < 48
     ·have d1:decide ((((bp d k).1:Nat):Int) < 48)=true:=decide_eq_true (by omega);simp only [d1,au.cells,au.bc,av,aw,aaB,aac,cond_true,cond_false,aaa,eq_self,decide_true,aax]
     ·have d1:decide ((((bp d k).1:Nat):Int) < 48)=false:=decide_eq_false (by omega);have lz:decide ((((bp d k).1:Nat):Int) > 57)=true:=decide_eq_true (by omega);simp only [d1,lz,au.cells,au.bc,av,aw,aaB,aac,cond_true,cond_false,aaa,eq_self,decide_true,aax]
    ·intro s' h;unfold tW at h;rw [if_pos hx] at h;cases h
   ·have hp8:=CX (show k≤8 by omega);have es:tW d x k=.inl (10 * x+(((d.getD k 0).toNat:Int) - 48)):=by unfold tW; rw [if_neg hx]
    have rd:=z6 hk hx;rw [es];constructor
    ·have w1:wrap .i32 ((((d.getD k 0).toNat:Nat):Int) - 48)=(((d.getD k 0).toNat:Nat):Int) - 48:=IntWalk.i32_in _ (by omega);have w2:wrap .i64 ((((d.getD k 0).toNat:Nat):Int) - 48)=(((d.getD k 0).toNat:Nat):Int) - 48:=gF (by omega);have w3:wrap .i64 (10 * x)=10 * x:=gF (by omega);have w4:wrap .i64 (10 * x+((((d.getD k 0).toNat:Nat):Int) - 48))=10 * x+((((d.getD k 0).toNat:Nat):Int) - 48):=gF (by omega);have d1:decide ((((d.getD k 0).toNat:Nat):Int) < 48)=false:=decide_eq_false (by omega);have lz:decide ((((d.getD k 0).toNat:Nat):Int) > 57)=false:=decide_eq_false (by omega);simp only [fE,aax,hb,rd,Sum.map_inl,d1,lz,au.cells,au.bc,av,aw,aaB,aac,cond_true,cond_false,aaa,eq_self,decide_true,w1,w2,w3,w4]
    ·intro s' h;injection h with h;subst h;have:(10:Nat) ^ (k+1)=10 ^ k * 10:=abR ..;refine ⟨by omega,?_,by omega⟩;rw [this];omega) (fun x _=>by
   have hb:abU d.length d.length=false:=by
    cases hb:abU d.length d.length with
    |false=>rfl
    |true=>have:=abW hb; omega
   simp only [fE,aaY,aax,hb,au.cells,au.bc,av,aw,aaB,aac,cond_true,cond_false,aaa,eq_self,decide_true]) N 0 0 (aa9 _) (by rw [aaY]; unfold fD at hN; omega) ⟨ab9 _,by simp,by omega⟩
 rw [abq] at key;exact key
end
end Go.Proofs.YtldcljfjjoidhaaGreatDoor
