/- Plain laws: the knots of a net. -/
import Derived.Test.YtldcljfjjoidhaaGreatDoorSeamKA
import Derived.Test.YtldcljfjjoidhaaGreatDoorBraX
import Derived.Test.YtldcljfjjoidhaaGreatDoorBraS
import Derived.Test.YtldcljfjjoidhaaGreatDoorBraR
import Derived.Test.YtldcljfjjoidhaaGreatDoorBraMu
set_option linter.all false
open Bool renaming and_true→aad, and_self→aae, and_eq_true→aa6, not_true→abT, eq_iff_iff→acw, not_false→acU
open Classical renaming byContradiction→acY
open Go.Lib renaming decDigits→aao, itoa→aaZ
open Int renaming toNat_natCast→aaf, tdiv_eq_ediv_of_nonneg→abN, tmod_eq_emod_of_nonneg→abS
open List renaming length_map→aac, length_append→aag, length_singleton→aah, length_cons→aai, getElem?_eq_getElem→aap, take_length→aa0, map_append→aa2, mem_range→aa4, length_take→aa5, length_nil→aa7, range→abx, getElem_mem→aby, mem_cons_of_mem→abI, mem_singleton→abU, drop_zero→abV, length_range→abW, take_of_length_le→abX, mem_cons→ab1, length_drop→ab2, take→ace, length_pos_iff→acT, append_assoc→acV, take_add_one→acW, drop_eq_getElem_cons→acX, mem_map→ac0, foldl_cons→ac1, replicate→ac3, length_mergeSort→ac4, getElem_of_mem→ac5
open Nat renaming le_refl→aaF, zero_le→aa1, pow_le_pow_right→abD, zero_add→acz, pow_succ→acS
open Option renaming bind_some→aab
open Option.some renaming inj→aa3
open Sum renaming elim_inr→aa8, elim_inl→acZ
open UInt8 renaming ofNat→ac2
namespace Go.Proofs.YtldcljfjjoidhaaGreatDoor
open Go Go.Am Go.Sort
open List (map)
open Int (toNat)
open Go.IntKind (wrap)
open Go.Am.aP (fits)
set_option maxRecDepth 100000
def AM:Int × Int→Int × Int→Bool:=ltOf BD
theorem YE (x y:Int × Int):AM x y=decide (x.2 < y.2∨x.2=y.2∧x.1 < y.1):=zI x y
def cg:List dm→List XA
 |[]=>[]
 |b :: l=>Ai b :: z7 b :: cg l
theorem lu:∀ l:List dm,(cg l).length=2 * l.length
 |[]=>rfl
 |b :: l=>by rw [cg,aai,aai,lu l,aai]; omega
theorem qh:∀ (l:List dm) (k:Nat) (h:k / 2 < l.length) (h2:k < (cg l).length),(cg l)[k]=if k % 2=0 then Ai l[k / 2] else z7 l[k / 2]
 |[],k,h,_=>absurd h (Nat.not_lt_zero _)
 |b :: l,0,_,_=>rfl
 |b :: l,1,_,_=>rfl
 |b :: l,k+2,h,h2=>by
  have e:(k+2) / 2=k / 2+1:=by omega
  have e2:(k+2) % 2=k % 2:=by omega
  have hl:k / 2 < l.length:=by rw [e,aai] at h; omega
  have LR:k < (cg l).length:=by rw [lu]; omega
  have ih:=qh l k hl LR;simp only [e2];have g1:(cg (b :: l))[k+2]=(cg l)[k]:=rfl;have g2:(b :: l)[(k+2) / 2]=l[k / 2]:=by
   have:∀ i (hi:i < (b :: l).length) (KL:i=k / 2+1),(b :: l)[i]=l[k / 2]:=by
    intro i hi KL; subst KL; rfl
   exact this _ h e
  rw [g1,g2,ih]
def qz (l:List dm):List XA:=Hx AM (0,0) (cg l)
theorem BR (l:List XA) {k:Nat} (hk:k < l.length):dX (ah (map dx l) k)=l[k]∧fits cZ (ah (map dx l) k)=true:=by
 rw [gO dx l k hk,aaQ,aaP]; exact ⟨rfl,rfl⟩
theorem HE (l:List XA) (a b:Nat):bC a b (map dx l)=map dx ((l.take b).drop a):=by simp [bC,List.map_take,List.map_drop]
theorem OJ (x o:Int × Int):(bif decide (x.2 < o.2) then some true else bif (x.2 == o.2) then some (decide (x.1 < o.1)) else some false)=some (AM x o):=by
 rw [YE];by_cases h1:x.2 < o.2
 ·simp [h1]
 ·by_cases h2:x.2=o.2
  ·simp [h2]
  ·have hb:(x.2 == o.2)=false:=beq_false_of_ne h2;simp [h1,h2,hb]
section
variable {N:Nat} (hN:eE N)
include hN
theorem YF (s:List XA) (i:Int) (o:Int × Int) (hs:s.length≤2000000):ay (jk N (s,i) o) N 0=some ((s.takeWhile fun x=>AM x o).length:Int):=by
 have q:=zZ (rd:=jk N (s,i) o) s.length (fun k=>(k:Int)) (fun k=>!AM (s.getD k (0,0)) o) (fun k=>(k:Int)) (s.length:Int) (fun k hk=>by
  obtain ⟨a1,a2⟩:=BR s hk;have e:s.getD k (0,0)=s[k]:=by simp [hk]
  rw [e];have hb:=OJ s[k] o;simp only [jk,aac,aaf,a1,a2,aX hk,aO hk,aae,cond_true,bp (show k < 9223372036854775807 by omega),hb,aab];cases AM s[k] o <;> rfl) (by
  simp only [jk,aac,bL,cond_false,aab]) N (by unfold eE at hN; omega)
 have q':ay (jk N (s,i) o) N 0=_:=q;rw [q'];have:=IT s (fun x=>AM x o) (0,0);rw [← this];cases (abx s.length).find? fun j=>!AM (s.getD j (0,0)) o <;> rfl
theorem OK (l:List dm) (s:List XA) (k:Nat) (hl:l.length≤1000000) (hs:s.length≤2000000) (hk:k < 2 * l.length) (hk2:k < (cg l).length):uW N l (s,(k:Int))=some (.inl (rB AM (0,0) (cg l)[k] s,((k+1:Nat):Int))):=by
 have hk3:k / 2 < l.length:=by omega
 have hw:wrap .i64 (2 * (l.length:Int))=((2 * l.length:Nat):Int):=by rw [fA (by omega)]; omega
 have hd:wrap .i64 (Int.tdiv (k:Int) 2)=((k / 2:Nat):Int):=by
  rw [abN (by omega),fA (by omega)]; omega
 have hm:Int.tmod (k:Int) 2=((k % 2:Nat):Int):=by
  rw [abS (by omega)]; omega
 obtain ⟨a1,a2⟩:=qc l hk3;have ahw:Og N (l[k / 2].1,l[k / 2].2.1,l[k / 2].2.2)=_:=Ku N l[k / 2];have ho:((bif decide (((k % 2:Nat):Int)=0) then some (l[k / 2].1,l[k / 2].2.1) else bif decide (((k % 2:Nat):Int)=1) then some ((z7 l[k / 2]).1,(z7 l[k / 2]).2) else none):Option XA)=some (cg l)[k]:=by
  rw [qh l k hk3 hk2];by_cases h:k % 2=0
  ·rw [h]; rfl
  ·have h1:k % 2=1:=by omega
   rw [h1]; rfl
 generalize (cg l)[k]=o at *;obtain ⟨t1,t2⟩:=hJ (fun x=>AM x o) s;have hle:(s.takeWhile fun x=>AM x o).length≤s.length:=(List.takeWhile_sublist _).length_le;have nJ:∀ i,ay (jk N (s,i) o) N 0=some ((s.takeWhile fun x=>AM x o).length:Int):=fun i=>YF hN s i o (by omega)
 unfold rB;simp only;generalize (s.takeWhile fun x=>AM x o).length=a at *;have hc:((bif ((a:Int) == (s.length:Int)) then some true else bif (decide ((0:Int)≤(a:Int)∧(a:Int) < (s.length:Int))&&fits cZ (ah (map dx s) a)) then some (!(((dX (ah (map dx s) a)).1 == o.1)&&(((dX (ah (map dx s) a)).2 == o.2)&&true))) else none):Option Bool)=some (decide (a=s.length∨s.getD a (0,0)≠o)):=by
  by_cases h:a=s.length
  ·have hb:((a:Int) == (s.length:Int))=true:=by simp [h]
   rw [hb]; simp [h]
  ·have wF:a < s.length:=by omega
   obtain ⟨b1,b2⟩:=BR s wF;have hb:((a:Int) == (s.length:Int))=false:=beq_false_of_ne (by omega);have e:s.getD a (0,0)=s[a]:=by simp [wF]
   rw [hb,b1,b2,aO wF,e];simp only [aae,cond_true,cond_false];congr 1;rw [acw];simp only [h,false_or,Bool.not_eq_true',aad,decide_eq_true_eq,Bool.and_eq_false_iff,beq_eq_false_iff_ne,ne_eq];constructor
   ·rintro h2 rfl;rcases h2 with h2|h2 <;> exact h2 rfl
   ·intro h2;by_cases h3:s[a].1=o.1
    ·right; intro h4; exact h2 (Prod.ext h3 h4)
    ·exact .inl h3
 have c1:decide ((0:Int)≤(a:Int)∧(a:Int)≤(s.length:Int))=true:=decide_eq_true (by omega);have ht:(ace a s).length=a:=by rw [aa5]; omega
 have Zn:decide (1=([AV.agg [AV.int .i64 o.1,AV.int .i64 o.2]]:List AV).length)=true:=rfl;have TM:∀ x:Nat,x≤4000000→decide (x * 16≤140737488355328)=true:=fun x hx=>decide_eq_true (by omega)
 have z0:∀ x:List XA,[AV.agg [AV.int .i64 o.1,AV.int .i64 o.2]]++map dx x=map dx ([o]++x):=fun x=>rfl
 have z1:∀ x y:List XA,(map dx x++[AV.agg [AV.int .i64 o.1,AV.int .i64 o.2]])++map dx y=map dx (x++[o]++y):=fun x y=>by rw [aa2,aa2]; rfl
 simp only [uW,aac,hw,aX hk,hd,aaf,a1,a2,aO hk3,aae,cond_true,ahw,aab,hm,ho,nJ,hc];by_cases hi:a=s.length∨s.getD a (0,0)≠o
 ·rw [if_pos hi];simp only [hi,decide_true,cond_true,c1,aae,aad,HE,abV,aa0,beq_self_eq_true];by_cases h0:a=0
  ·subst h0;simp only [List.take_zero,List.map_nil,List.isEmpty_nil,cond_true,List.nil_append,aah,aac,ab2,decide_true,TM (1+s.length) (by omega),aae,z0,kV,kW,aab,abV,aad,bp (show k < 9223372036854775807 by omega)]
  ·have cS:List.isEmpty (map dx (ace a s))=false:=by
    cases hd:ace a s with
    |nil=>rw [hd] at ht; simp at ht; omega
    |cons x y=>rfl
   simp only [cS,cond_false,List.nil_append,aag,aah,aac,ab2,ht,acz,TM a (by omega),TM (a+1) (by omega),TM (a+1+(s.length - a)) (by omega),decide_true,cond_true,aae,z1,kV,kW,aab,aad,bp (show k < 9223372036854775807 by omega)]
 ·rw [if_neg hi];simp only [hi,decide_false,cond_false,kV,kW,aad,cond_true,aab,bp (show k < 9223372036854775807 by omega)]
theorem Ky (l:List dm) (hl:l.length≤1000000):T41 N l=some (qz l):=by
 rw [X1];have key:=jI (rd:=uW N l) (cg l) (fun s k=>(s,(k:Int))) (fun s k=>rB AM (0,0) k s) (fun s=>s) (fun s k=>s.length≤k) (fun s k hk hs=>by
  have iJ:k < 2 * l.length:=by rw [lu] at hk; exact hk
  refine ⟨OK hN l s k hl (by omega) iJ hk,?_⟩;have:=E1 (lt:=AM) (0,0) (cg l)[k] s;omega) (fun s _=>by
  have hw:wrap .i64 (2 * (l.length:Int))=((2 * l.length:Nat):Int):=by rw [fA (by omega)]; omega
  rw [lu];simp only [uW,aac,hw,bL,cond_false,kV,kW,aad,cond_true,aab]) N [] 0 (aa1 _) (by unfold eE at hN; rw [lu]; omega) (aaF _)
 have oL:ay (uW N l) N ([],0)=_:=key;have z:((bif (allFit (fits cZ) ([]:List AV)&&true) then some ((map dX ([]:List AV)),0) else none:Option (lZ × Int)).bind fun Ht=>some Ht)=some ([],0):=rfl;rw [z,aab,oL,abV,aab];simp only [kV,kW,aad,cond_true] <;> rfl
omit hN in
theorem Fc (N:Nat) (x y:Int × Int):Hu N (x,y)=some (decide (x=y)):=by
 rw [Td];congr 1;rw [acw];simp only [aad,aa6,beq_iff_eq,decide_eq_true_eq];constructor
 ·rintro ⟨h1,h2⟩; exact Prod.ext h1 h2
 ·rintro rfl; exact ⟨rfl,rfl⟩
omit hN in
theorem acx (l:List XA):aF (map dx l)=true:=vR (fun _=>rfl) l
omit hN in
theorem acy (s:List XA) (i:Nat) (a b:Int):aI (map dx s) i (AV.agg [AV.int .i64 a,AV.int .i64 b])=map dx (s.set i (a,b)):=by
 rw [gk];show (map dx s).set i (dx (a,b))=_;rw [List.map_set]
omit hN in
theorem T0 (s:List XA) (a b c d:Int):map dx s++[AV.agg [AV.int .i64 a,AV.int .i64 b],AV.agg [AV.int .i64 c,AV.int .i64 d]]=map dx (s++[(a,b),(c,d)]):=by
 rw [aa2]; rfl
theorem Kz (l:List dm) (hl:l.length≤1000000):ay (qW N l) N ((),0,[])=some ((),cg l):=by
 have key:=jI (rd:=qW N l) l (fun s k=>((),(k:Int),s)) (fun s b=>s++[Ai b,z7 b]) (fun s=>((),s)) (fun s k=>s.length=2 * k) (fun s k hk hs=>by
  obtain ⟨a1,a2⟩:=qc l hk;have q:EL N (l[k].1,l[k].2.1,l[k].2.2)=_:=BQ N l[k];have jo:∀ a b c d:Int,aF [AV.int .i64 a,AV.int .i64 b,AV.int .i64 c,AV.int .i64 d]=true:=fun _ _ _ _=>rfl
  have hlen:(s++[(l[k].1,l[k].2.1),((z7 l[k]).1,(z7 l[k]).2)]).length=s.length+2:=by simp
  have hb:decide ((s.length+2) * 16≤140737488355328)=true:=decide_eq_true (by omega);refine ⟨?_,by rw [aag,hs]; simp; omega⟩;simp only [qW,aac,aaf,a1,a2,aX hk,aO hk,aae,aad,cond_true,q,aab,jo,T0,hlen,hb,decide_true,Nat.beq_refl,kV,kW,bp (show k < 9223372036854775807 by omega)];rfl) (fun s _=>by
  simp only [qW,aac,bL,cond_false,Nat.beq_refl,kV,kW,aae,aad,cond_true,aab]) N [] 0 (aa1 _) (by unfold eE at hN; omega) rfl
 have oL:ay (qW N l) N ((),0,[])=_:=key;rw [oL,abV];congr 2;have gen:∀ (l:List dm) (s:List XA),l.foldl (fun s b=>s++[Ai b,z7 b]) s=s++cg l:=by
  intro l
  induction l with
  |nil=>intro s; simp [cg]
  |cons b l ih=>intro s; rw [ac1,ih,cg,acV]; rfl
 rw [gen]; rfl
section
variable (F st:List XA) (hn:st.length=F.length) (hF:F.length≤2000000)
include hn hF
theorem T1 (m:Nat) (h1:1≤m) (hm:m < F.length) (hu:zX (0,0) st (m+1)=st.take m) :
  ∃ x,ay (eZ N ((),F) ((m:Int),st)) N ((m:Int),1,st)=some x∧∃ (t:Nat) (c:List XA),x=((t:Int),c)∧c.length=F.length∧t≤F.length∧c.take t=zX (0,0) st F.length:=by
 refine qY (rd:=eZ N ((),F) ((m:Int),st)) (S:=Nat × List XA) (F.length - m - 1) (fun s i=>((s.1:Int),((i+1:Nat):Int),s.2))
  (fun s i=>s.1≤m+i∧s.2.length=F.length∧s.2.take s.1=zX (0,0) st (m+1+i)∧∀ t,m+i≤t→s.2[t]?=st[t]?) _ ?_ ?_ N (m,st) 0 (aa1 _) (by unfold eE at hN; omega) ⟨by omega,hn,hu.symm,fun _ _=>rfl⟩
 ·rintro ⟨t,c⟩ i hi ⟨i1,i2,i3,i4⟩;simp only at i1 i2 i3 i4;have hj:m+(i+1) < c.length:=by omega
  have hj0:m+i < c.length:=by omega
  have Fu:m+(i+1) < st.length:=by omega
  have N1:m+i < st.length:=by omega
  have e1:c[m+(i+1)]=st[m+(i+1)]:=by
   have:=i4 (m+(i+1)) (by omega);rw [aap hj,aap Fu] at this;exact aa3 this
  have e0:c[m+i]=st[m+i]:=by
   have:=i4 (m+i) (by omega);rw [aap hj0,aap N1] at this;exact aa3 this
  obtain ⟨a1,a2⟩:=BR c hj;obtain ⟨b1,b2⟩:=BR c hj0;rw [e1] at a1;rw [e0] at b1;have g1:st.getD (m+(i+1)) (0,0)=st[m+(i+1)]:=by simp [Fu]
  have g0:st.getD (m+i) (0,0)=st[m+i]:=by simp [N1]
  have UF:zX (0,0) st (m+1+(i+1))=if st[m+(i+1)]=st[m+i] then zX (0,0) st (m+1+i) else zX (0,0) st (m+1+i)++[st[m+(i+1)]]:=by
   rw [show m+1+(i+1)=m+1+i+1 by omega]
   conv=>lhs; unfold zX
   rw [show m+1+i=m+(i+1) by omega,g1,show m+(i+1) - 1=m+i by omega,g0];by_cases h:st[m+(i+1)]=st[m+i]
   ·rw [if_pos h,if_pos ⟨by omega,h⟩]
   ·rw [if_neg h,if_neg fun c=>h c.2]
  have hw:wrap .i64 (((i+1:Nat):Int) - 1)=(i:Int):=by rw [fA (by omega)]; omega
  have cm:decide (((i+1:Nat):Int) < ((F.length - m:Nat):Int))=true:=decide_eq_true (by omega);have yf:decide ((0:Int)≤((i+1:Nat):Int)∧((i+1:Nat):Int) < ((F.length - m:Nat):Int))=true:=decide_eq_true (by omega);have Mm:decide ((0:Int)≤(i:Int)∧(i:Int) < ((F.length - m:Nat):Int))=true:=decide_eq_true (by omega);have Jx:decide (m+(i+1) < F.length)=true:=decide_eq_true (by omega);have hd0:decide (m+i < F.length)=true:=decide_eq_true (by omega);have hrt:decide ((0:Int)≤(t:Int)∧(t:Int) < (F.length:Int))=true:=decide_eq_true (by omega);have hdt:decide (t < F.length)=true:=decide_eq_true (by omega);have q:Hu N ((st[m+(i+1)].1,st[m+(i+1)].2),(st[m+i].1,st[m+i].2))=_:=Fc N st[m+(i+1)] st[m+i];by_cases h:st[m+(i+1)]=st[m+i]
  ·rw [decide_eq_true h] at q;refine ⟨(t,c),?_,by omega,i2,?_,fun t' D5=>i4 t' (by omega)⟩
   ·simp only [eZ,aac,aaf,acz,hw,cm,yf,Mm,i2,Jx,hd0,a1,a2,b1,b2,decide_true,aae,aad,cond_true,q,aab,abT,cond_false,kV,kW,bp (show i+1 < 9223372036854775807 by omega)]
   ·rw [UF,if_pos h]; exact i3
  ·refine ⟨(t+1,c.set t st[m+(i+1)]),?_,by simp only; omega,by simp only [List.length_set]; exact i2,?_,fun t' D5=>?_⟩
   ·simp only [eZ,aac,aaf,acz,hw,cm,yf,Mm,i2,Jx,hd0,hrt,hdt,a1,a2,b1,b2,decide_true,aae,aad,cond_true,q,h,decide_false,aab,acU,acy,kV,kW,bp (show i+1 < 9223372036854775807 by omega),bp (show t < 9223372036854775807 by omega)]
   ·rw [UF,if_neg h,← i3];simp only;rw [List.take_succ,List.take_set_of_le (aaF _),List.getElem?_set_self (by omega)];rfl
   ·simp only;rw [List.getElem?_set_ne (by omega)];exact i4 t' (by omega)
 ·rintro ⟨t,c⟩ ⟨i1,i2,i3,i4⟩;simp only at i1 i2 i3 i4;have lM:decide (((F.length - m - 1+1:Nat):Int) < ((F.length - m:Nat):Int))=false:=decide_eq_false (by omega);refine ⟨((t:Int),c),?_,t,c,rfl,i2,by omega,?_⟩
  ·simp only [eZ,aac,aaf,lM,cond_false,kV,kW,aad,cond_true,aab]
  ·rw [i3]; congr 1; omega
omit hN hn hF in
theorem Fe (s:List AV):∀ (t:Nat) (z:List AV),t+z.length=s.length→(bh s t z).length=s.length∧(bh s t z).take t=s.take t:=by
 induction s with
 |nil=>intro t z h; cases z with
  |nil=>simp [bh]
  |cons y z=>simp at h
 |cons a s ih=>
  intro t z h;cases z with
  |nil=>simp [bh]
  |cons y z=>
   cases t with
   |zero=>
    simp only [bh,aai,List.take_zero,and_true];have:=ih 0 z (by simp at h ⊢; omega);omega
   |succ t=>
    simp only [bh,aai,List.take_succ_cons];have:=ih t (y :: z) (by simp at h ⊢; omega);exact ⟨by omega,by rw [this.2]⟩
omit hN hn hF in
theorem va:∀ (s:List AV) (t:Nat) (z:List AV),aF s=true→aF z=true→aF (bh s t z)=true
 |[],t,[],h1,h2=>by simpa [bh] using h1
 |[],t,y :: z,h1,h2=>rfl
 |a :: s,t,[],h1,h2=>by cases t <;> simpa [bh] using h1
 |a :: s,0,y :: z,h1,h2=>by
  simp only [aF,aa6] at h1 h2;simp only [bh,aF,aa6];exact ⟨h2.1,va s 0 z h1.2 h2.2⟩
 |a :: s,t+1,y :: z,h1,h2=>by
  simp only [aF,aa6] at h1;simp only [bh,aF,aa6];exact ⟨h1.1,va s t (y :: z) h1.2 h2⟩
theorem OL:∃ o,ay (fY N ((),F)) N (1,st)=some o∧Sum.elim (fun l=>l) (fun l=>l) o=zX (0,0) st F.length∧∀ l,o=.inr l→l.length=F.length:=by
 have hN0:1≤F.length→F.length - 1 < N:=fun _=>by unfold eE at hN; omega
 by_cases hF0:F.length=0
 ·refine ⟨.inr st,?_,?_,fun l h=>by cases h; exact hn⟩
  ·obtain ⟨n,rfl⟩:∃ n,N=n+1:=⟨N - 1,by unfold eE at hN; omega⟩;rw [bE];have lM:decide ((1:Int) < (F.length:Int))=false:=decide_eq_false (by omega);simp only [fY,aac,lM,cond_false,kV,kW,aad,cond_true,aab,aa8]
  ·rw [hF0];have:st=[]:=List.length_eq_zero_iff.1 (by omega);rw [this]; rfl
 refine BJ (rd:=fY N ((),F)) (S:=Unit) (F.length - 1) (fun _ k=>(((k+1:Nat):Int),st)) (fun _ k=>∀ j,0 < j→j < k+1→st.getD j (0,0)≠st.getD (j - 1) (0,0)) _ ?_ ?_ N () 0 (aa1 _) (by unfold eE at hN; omega) (fun j h1 h2=>by omega)
 ·rintro _ k hk hP;have Fu:k+1 < st.length:=by omega
  have N1:k < st.length:=by omega
  obtain ⟨a1,a2⟩:=BR st Fu;obtain ⟨b1,b2⟩:=BR st N1;have g1:st.getD (k+1) (0,0)=st[k+1]:=by simp [Fu]
  have g0:st.getD k (0,0)=st[k]:=by simp [N1]
  have hw:wrap .i64 (((k+1:Nat):Int) - 1)=(k:Int):=by rw [fA (by omega)]; omega
  have DD:k+1 < F.length:=by omega
  have uv:k < F.length:=by omega
  have Jx:decide (k+1 < F.length)=true:=decide_eq_true DD;have hd0:decide (k < F.length)=true:=decide_eq_true uv;have q:Hu N ((st[k+1].1,st[k+1].2),(st[k].1,st[k].2))=_:=Fc N st[k+1] st[k];by_cases h:st[k+1]=st[k]
  ·right;rw [decide_eq_true h] at q;have ht:=tU (0,0) st (k+1) (by omega) hP;have hu:zX (0,0) st (k+1+1)=st.take (k+1):=by
    rw [← ht]
    conv=>lhs; unfold zX
    rw [if_pos ⟨by omega,by rw [g1,show k+1 - 1=k by omega,g0]; exact h⟩]
   obtain ⟨x,r,t,c,rfl,c1,c2,c3'⟩:=T1 hN F st hn hF (k+1) (by omega) DD hu;have hle:decide ((0:Int)≤((k+1:Nat):Int)∧((k+1:Nat):Int)≤(F.length:Int))=true:=decide_eq_true (by omega);have ahx:decide ((0:Int)≤(t:Int)∧(t:Int)≤(F.length:Int))=true:=decide_eq_true (by omega);obtain ⟨z1,z2⟩:=Fe (map dx c) t (ac3 (F.length - t) (AV.agg [AV.int .i64 0,AV.int .i64 0])) (by rw [List.length_replicate,aac]; omega);have z3:aF (bh (map dx c) t (ac3 (F.length - t) (AV.agg [AV.int .i64 0,AV.int .i64 0])))=true:=va _ _ _ (acx c) (by
    have:∀ n,aF (ac3 n (AV.agg [AV.int .i64 0,AV.int .i64 0]))=true:=by
     intro n
     induction n with
     |zero=>rfl
     |succ n ih=>rw [List.replicate_succ,aF,ih]; rfl
    exact this _)
   have hs:decide (t+(F.length - t)≤F.length)=true:=decide_eq_true (by omega);have ht2:decide (t≤F.length)=true:=decide_eq_true c2;rw [aac] at z1;refine ⟨.inl (zX (0,0) st F.length),?_,rfl,fun l h=>by cases h⟩;have hmt:ace t (map dx c)=map dx (ace t c):=by rw [List.map_take]
   simp only [fY,aac,aaf,acz,hw,aX DD,aO DD,aO uv,hn,Jx,hd0,a1,a2,b1,b2,decide_true,aae,aad,cond_true,q,hle,kV,kW,aab,r,ahx,c1,hs,z1,ht2,z3,z2,hmt,c3']
  ·left;rw [decide_eq_false h] at q;refine ⟨(),?_,fun j h1 h2=>?_⟩
   ·simp only [fY,aac,aaf,acz,hw,aX DD,aO DD,aO uv,hn,Jx,hd0,a1,a2,b1,b2,decide_true,aae,aad,cond_true,q,cond_false,kV,kW,aab,bp (show k+1 < 9223372036854775807 by omega)]
   ·by_cases hj:j=k+1
    ·subst hj;rw [g1,show k+1 - 1=k by omega,g0]; exact h
    ·exact hP j h1 (by omega)
 ·intro _ hP;have lM:decide (((F.length - 1+1:Nat):Int) < (F.length:Int))=false:=decide_eq_false (by omega);refine ⟨.inr st,?_,?_,fun l h=>by cases h; exact hn⟩
  ·simp only [fY,aac,lM,cond_false,kV,kW,aad,cond_true,aab]
  ·have:=tU (0,0) st F.length (by omega) (fun j h1 h2=>hP j h1 (by omega));rw [this,← hn,aa0];rfl
end
theorem HF (l:List dm) (hl:l.length≤1000000):Te N l=some (qz l):=by
 have hs:gB cZ BD (map dx (cg l))=map dx ((cg l).mergeSort fun x y=>!AM y x):=by
  unfold gB;rw [show map (aP.bJ cZ) (map dx (cg l))=cg l from kW _];rfl
 have hfp:allFit (fits cZ) (map dx (cg l))=true:=kV _;have hlen:((cg l).mergeSort fun x y=>!AM y x).length=(cg l).length:=ac4 _;have hb:decide ((cg l).length≤140737488355328)=true:=decide_eq_true (by rw [lu]; omega);have vw:(cg l).length≤2000000:=by rw [lu]; omega
 have huq:=Ys abL abM (0,0) (cg l);have huq:zX (0,0) ((cg l).mergeSort fun x y=>!AM y x) (cg l).length=qz l:=huq;have z:((bif ((Nat.beq 0 (([]:List AV)).length&&Nat.beq 0 (([]:List AV)).length)&&(allFit (fits cZ) ([]:List AV)&&true)) then some ((),0,(map dX ([]:List AV))) else none:Option (Unit × Int × lZ)).bind fun w7=>some w7)=some ((),0,[]):=rfl;rw [Tg,z,aab,Kz hN l hl,aab];simp only [hs,hfp,aac,hb,hlen,decide_true,aae,aad,cond_true,aaF,acx,kV,kW,aab];by_cases h2:((cg l).length:Int) < 2
 ·have ht:ace (cg l).length (map dx ((cg l).mergeSort fun x y=>!AM y x))=map dx ((cg l).mergeSort fun x y=>!AM y x):=abX (by rw [aac,hlen]; exact aaF _);simp only [h2,decide_true,cond_true,ht,kV,kW,aab];congr 1;rw [← huq,tU (0,0) _ _ (by rw [hlen]; exact aaF _) (fun j a b=>by omega),abX (by rw [hlen]; exact aaF _)]
 ·obtain ⟨o,r,e,LR⟩:=OL hN (cg l) ((cg l).mergeSort fun x y=>!AM y x) hlen vw;simp only [h2,decide_false,cond_false,r,aab];rw [huq] at e;cases o with
  |inl x=>
   simp only [acZ] at e ⊢;rw [e];simp only [kV,kW,cond_true,aab]
  |inr x=>
   have hx:=LR x rfl;simp only [aa8] at e ⊢;subst e;have ht:ace (cg l).length (map dx (qz l))=map dx (qz l):=abX (by rw [aac,hx]; exact aaF _);simp only [hx,decide_true,aaF,aae,cond_true,ht,kV,kW,aab]
end
end Go.Proofs.YtldcljfjjoidhaaGreatDoor
namespace Go.Proofs.YtldcljfjjoidhaaGreatDoor
open Go Go.Am Go.Sort
open List (map)
open Int (toNat)
open Go.IntKind (wrap)
open Go.Am.aP (fits)
set_option maxRecDepth 100000
theorem Ff {c:bQ} (h:dz c=0) {k:Nat} (hk:k≤c.2.2.2.2.toNat):bf (aT c k)=0:=by
 have h1:=mF h;unfold dz at h;rw [if_pos h1] at h;have:=gq.1 h (bf (aT c k)) (ac0.2 ⟨aT c k,ac0.2 ⟨k,aa4.2 (by omega),rfl⟩,rfl⟩);exact this
theorem T2 {b:dm} (h0:bf (Ai b)=0) (h1:b.2.2=-1∨b.2.2=1):z7 b=(b.1+b.2.2,b.2.1+1):=by
 have:=jm h0;unfold Ai at this;simp only at this;unfold z7;rw [fA (by omega),fA (by omega)]
theorem OM {c:bQ} (h:dz c=0) {k:Nat} (hk:k < c.2.2.2.2.toNat):u0 (eK c k)=0:=by
 have k1:=Ff h (show k≤c.2.2.2.2.toNat by omega);have k2:=Ff h (show k+1≤c.2.2.2.2.toNat by omega);have hs:((aT c (k+1)).1=(aT c k).1+1∨(aT c (k+1)).1=(aT c k).1 - 1)∧((aT c (k+1)).2=(aT c k).2+1∨(aT c (k+1)).2=(aT c k).2 - 1):=by
  unfold aT sg;obtain ⟨x,y,r,u,n⟩:=c;simp only;rcases Nat.mod_two_eq_zero_or_one k with hm|hm
  ·have Oy:(k+1) % 2=1:=by omega
   rw [hm,Oy];cases r <;> cases u <;> simp <;> omega
  ·have Oy:(k+1) % 2=0:=by omega
   rw [hm,Oy];cases r <;> cases u <;> simp <;> omega
 unfold eK;generalize aT c k=a at *;generalize aT c (k+1)=b at *;obtain ⟨a1,a2⟩:=a;obtain ⟨b1,b2⟩:=b;simp only at hs;have e:∀ d:dm,bf (Ai d)=0→(d.2.2=-1∨d.2.2=1)→bf (d.1+d.2.2,d.2.1+1)=0→u0 d=0:=by
  intro d h0 h1 h2;unfold u0;rw [if_neg (by simp [h0]),if_neg (by omega),T2 h0 h1];exact h2
 unfold iV;simp only;by_cases hh:a2 > b2
 ·rw [if_pos hh];refine e _ k2 (by simp only; omega) ?_;simp only;rw [show b1+(a1 - b1)=a1 by omega,show b2+1=a2 by omega];exact k1
 ·rw [if_neg hh];refine e _ k1 (by simp only; omega) ?_;simp only;rw [show a1+(b1 - a1)=b1 by omega,show a2+1=b2 by omega];exact k2
theorem KA {c:bQ} {b:dm}:b∈bS c↔∃ k,k < c.2.2.2.2.toNat∧eK c k=b:=by
 unfold bS cQ;simp [ac0,aa4]
theorem Fg {p:List bQ} (h:gG p=0):p.length≤256∧(∀ k (hk:k < p.length),jN (p.take k) p[k]=0):=by
 unfold gG at h;by_cases hp:p.length > 256
 ·rw [if_pos hp] at h; simp at h
 ·rw [if_neg hp] at h;exact ⟨by omega,fun k hk=>I1 h hk⟩
theorem YG {p:List bQ} (h:gG p=0):∀ c∈p,dz c=0:=by
 intro c hc;obtain ⟨k,hk,rfl⟩:=ac5 hc;exact (kx ((Fg h).2 k hk)).1
theorem ON {p:List bQ} (h:gG p=0):∀ b∈bH p,u0 b=0:=by
 intro b hb;obtain ⟨c,hc,hb⟩:=List.mem_flatMap.1 hb;obtain ⟨k,hk,rfl⟩:=KA.1 hb;exact OM (YG h c hc) hk
theorem wi (c:bQ):∀ k,(cQ c k).Nodup
 |0=>by simp [cQ]
 |k+1=>by
  rw [lq,List.nodup_append];refine ⟨wi c k,by simp,?_⟩;intro a ha b hb e;rw [abU] at hb;subst hb; subst e;exact z6 c k ha
theorem oN {p:List bQ} (h:gG p=0):∀ k,k≤p.length→(bH (p.take k)).Nodup∧(bH (p.take k)).length≤4096:=by
 intro k
 induction k with
 |zero=>intro _; simp [bH]
 |succ k ih=>
  intro hk;have iJ:k < p.length:=by omega
  obtain ⟨i1,i2⟩:=ih (by omega);obtain ⟨e1,e2,e3,e4⟩:=kx ((Fg h).2 k iJ);rw [qZ p iJ];refine ⟨?_,by rw [aag]; exact e4⟩;rw [List.nodup_append];refine ⟨i1,wi _ _,?_⟩;intro a ha b hb e;subst e;exact e3 a hb ha
def mG (p:List bQ):List dm:=Hx (ltOf lF) (0,0,0) (bH p)
theorem BS (p:List bQ):Pu (ltOf lF) (mG p)∧∀ x,x∈mG p↔x∈bH p:=BI N2 SN (0,0,0) (bH p)
theorem OO (a b:dm):ltOf lF a b=less a b:=by
 have h1:=E6 0 a b;have h2:=Kv 0 a b;rw [h1] at h2;exact aa3 h2
theorem BT {p:List bQ} (h:(bH p).Nodup):(bH p).mergeSort (fun x y=>!(ltOf lF) y x)=mG p:=by
 obtain ⟨s1,s2⟩:=E2 N2 (bH p);obtain ⟨n1,J6⟩:=BS p;refine C1 N2 ?_ n1 (fun x=>by rw [s2,J6]);have hn:((bH p).mergeSort (fun x y=>!(ltOf lF) y x)).Nodup:=(List.mergeSort_perm (bH p) _).nodup_iff.2 h;refine List.Pairwise.imp₂ ?_ s1 hn;intro a b hab cS;cases hc:ltOf lF a b with
 |true=>rfl
 |false=>exact absurd (SN a b hc hab) cS
theorem Fh {p:List bQ} (h:(bH p).Nodup):(mG p).length=(bH p).length:=by
 rw [← BT h,ac4]
theorem OP {p:List bQ} (h:gG p=0):OI (mG p)=0:=by
 obtain ⟨o1,o2⟩:=oN h p.length (aaF _);rw [aa0] at o1 o2;have hlen:=Fh o1;obtain ⟨n1,J6⟩:=BS p;unfold OI;rw [if_neg (by omega)];refine gq.2 fun x hx=>?_
 obtain ⟨k,hk,rfl⟩:=ac0.1 hx;have hk:k < (mG p).length:=aa4.1 hk;have e1:(mG p).getD k (0,0,0)=(mG p)[k]:=by simp [hk]
 have c1:u0 (mG p)[k]=0:=ON h _ ((J6 _).1 (aby hk));unfold TY;rw [e1,if_neg (by simp [c1])];refine if_neg ?_;rintro ⟨h0,hl⟩;have Oc:k - 1 < (mG p).length:=by omega
 have e2:(mG p).getD (k - 1) (0,0,0)=(mG p)[k - 1]:=by simp [Oc]
 rw [e2,← OO] at hl;have:=List.pairwise_iff_getElem.1 n1 (k - 1) k Oc hk (by omega);rw [hl] at this;cases this
section
variable {N:Nat} (hN:eE N)
include hN
def hM (l:List dm):List (XA × Bool):=l.foldl (fun m b=>sw (z7 b) true m) []
theorem KB (l:List dm) (hl:l.length≤1000000) (h:OI l=0):T92 N l=some (qz l,0):=by
 rw [Yb];simp only [gA,fX,aad,cond_true,aab];rw [TZ hN,h,aab,HF hN l hl];simp only [bne_self_eq_false,cond_false,aab,kV,kW,cond_true]
end
end Go.Proofs.YtldcljfjjoidhaaGreatDoor
namespace Go.Proofs.YtldcljfjjoidhaaGreatDoor
open Go Go.Am Go.Sort
open List (map)
open Int (toNat)
open Go.IntKind (wrap)
open Go.Am.aP (fits)
set_option maxRecDepth 100000
section
variable {N:Nat} (hN:eE N)
include hN
theorem YH (p:List bQ) (n:Nat) (hn:n≤1000):∃ b,T26 N (p,(n:Int))=some b∧(b=true→(p.length≤n∨p.length=257)∧∀ c∈p,c.2.2.2.2≤12∨512 < c.2.2.2.2):=by
 rw [Xi];simp only [aac];by_cases hl:p.length≤n∨p.length=257
 ·have hp:p.length≤1000:=by omega
  have h1:((bif (decide ((p.length:Int) > (n:Int))) then (some ((p.length:Int) != 257)) else (some false)):Option Bool)=some false:=by
   by_cases h:p.length≤n
   ·rw [decide_eq_false (by omega)]; rfl
   ·have:p.length=257:=by omega
    rw [decide_eq_true (by omega),this]; rfl
  have q:=zZ (rd:=zC N p) p.length (fun k=>(k:Int)) (fun k=>decide ((p.getD k (0,0,false,false,0)).2.2.2.2 > 12)&&decide ((p.getD k (0,0,false,false,0)).2.2.2.2≤512)) (fun _=>Sum.inl false) (Sum.inr ()) (fun k hk=>by
   obtain ⟨a1,a2⟩:=C3 hN p hk;have e:p.getD k (0,0,false,false,0)=p[k]:=by simp [hk]
   rw [e];simp only [zC,aac,aaf,a1,a2,aX hk,aO hk,aae,cond_true,bp (show k < 9223372036854775807 by omega)];generalize p[k]=c at *;cases decide (c.2.2.2.2 > 12) <;> cases decide (c.2.2.2.2≤512) <;> rfl) (by
   simp only [zC,aac,bL,cond_false]) N (by unfold eE at hN; omega)
  have q':ay (zC N p) N 0=_:=q;rw [h1,aab,q'];simp only [cond_false,aab];cases hf:(abx p.length).find? fun k=>decide ((p.getD k (0,0,false,false,0)).2.2.2.2 > 12)&&decide ((p.getD k (0,0,false,false,0)).2.2.2.2≤512) with
  |some j=>exact ⟨false,rfl,fun h=>by cases h⟩
  |none=>
   refine ⟨true,rfl,fun _=>⟨hl,fun c hc=>?_⟩⟩;obtain ⟨k,hk,rfl⟩:=ac5 hc;have:=List.find?_eq_none.1 hf k (aa4.2 hk);have e:p.getD k (0,0,false,false,0)=p[k]:=by simp [hk]
   rw [e] at this;simp only [aa6,decide_eq_true_eq,not_and] at this;omega
 ·have h1:((bif (decide ((p.length:Int) > (n:Int))) then (some ((p.length:Int) != 257)) else (some false)):Option Bool)=some true:=by
   rw [decide_eq_true (by omega),cond_true];exact congrArg some (bne_iff_ne.2 (by omega))
  rw [h1,aab];exact ⟨false,rfl,fun h=>by cases h⟩
theorem T3 (p:List bQ) (h:gG p=0):T45 N p=some (mG p):=by
 have Cy:∀ c∈p,cP c=0:=(oM h).2;have hp:=(oM h).1;obtain ⟨o1,o2⟩:=oN h p.length (aaF _);rw [aa0] at o1 o2;have z88:((bif (allFit (fits dS) (map ey p)&&true) then some (map cb (map ey p)) else none:Option (dQ)))=some p:=by simp only [qd,qe,aad,cond_true]
 rw [X3,z88,aab,IW hN p Cy (by omega),aab];simp only [gA,fX,aad,cond_true,aab];rw [show T62 N (bH p)=some (mG p) from TN hN _ (by omega),aab]
end
end Go.Proofs.YtldcljfjjoidhaaGreatDoor
namespace Go.Proofs.YtldcljfjjoidhaaGreatDoor
open Go Go.Am Go.Sort
open List (map)
open Int (toNat)
open Go.IntKind (wrap)
open Go.Am.aP (fits)
set_option maxRecDepth 100000
theorem ahy {α β:Type} {rd:List β × Int→Option ((List β × Int) ⊕ List β)} (l:List α) (g:α→β)
  (h:∀ k (hk:k < l.length) (s:List β),s.length=k→rd (s,(k:Int))=some (.inl (s++[g l[k]],((k+1:Nat):Int)))) (h0:∀ s:List β,s.length=l.length→rd (s,(l.length:Int))=some (.inr s)) (n:Nat) (hn:l.length < n) :
  ay rd n ([],0)=some (l.map g):=by
 have key:=cE (rd:=rd) l.length (fun k=>((l.take k).map g,(k:Int))) (l.map g) (fun k hk=>by
  rw [h k hk _ (by rw [aac,aa5]; omega)];have e:(l.take (k+1)).map g=(l.take k).map g++[g l[k]]:=by
   rw [acW,aap hk,aa2];rfl
  rw [e]) (by
  have e:(l.take l.length).map g=l.map g:=by rw [aa0]
  have:=h0 (l.map g) (by rw [aac]);rw [e];exact this) n 0 (aa1 _) (by omega)
 simpa using key
theorem T5 (l:List bQ) (x y:Int) (r u:Bool) (n:Int):map ey l++[AV.agg [AV.int .i64 x,AV.int .i64 y,AV.bool r,AV.bool u,AV.int .i64 n]]=map ey (l++[(x,y,r,u,n)]):=by rw [aa2]; rfl
theorem acA:((bif (allFit (fits dS) ([]:List AV)&&true) then some ((map cb ([]:List AV)),(0:Int)) else none:Option (List bQ × Int)).bind fun w9=>bif (decide (0=(map ey w9.1).length)&&true) then some w9 else none)=some ([],0):=rfl
section
variable {N:Nat} (hN:eE N)
include hN
theorem YI (p:List bQ) (hp:p.length≤1000000):T38 N p=some p:=by
 rw [XP,acA,aab];have key:ay (CX N p) N ([],0)=some (p.map id):=ahy p id (fun k hk s hs=>by
  obtain ⟨a1,a2⟩:=HA hN p hk;generalize p[k]=c at *;have hb:decide ((k+1) * 32≤140737488355328)=true:=decide_eq_true (by omega);have sn:=T5 s c.1 c.2.1 c.2.2.1 c.2.2.2.1 c.2.2.2.2;simp only [CX,xu,aac,aX hk,aO hk,aaf,a1,a2,aae,cond_true,aab,hs,hb,decide_true,sn,qd,qe,aad,aag,aah,bp (show k < 9223372036854775807 by omega)];rfl) (fun s hs=>by
  simp only [CX,xu,aac,bL,cond_false,qd,qe,aae,aad,decide_true,cond_true,aab]) N (by unfold eE at hN; omega)
 rw [key,List.map_id,aab];simp only [qd,qe,cond_true]
theorem OQ (l:List bQ) (hl:l.length≤1000000):T37 N (l,l)=some true:=by
 have key:=cE (rd:=zT N l l) l.length (fun k=>(k:Int)) (.inr ()) (fun k hk=>by
  obtain ⟨a1,a2⟩:=C3 hN l hk;simp only [zT,aac,aaf,aX hk,aO hk,a1,a2,aae,cond_true,beq_self_eq_true,abT,cond_false,bp (show k < 9223372036854775807 by omega)]) (by
  simp only [zT,aac,bL,cond_false]) N 0 (aa1 _) (by unfold eE at hN; omega)
 have oL:ay (zT N l l) N 0=some (.inr ()):=key;rw [XR,oL];simp only [bne_self_eq_false,cond_false,aab,aa8]
end
end Go.Proofs.YtldcljfjjoidhaaGreatDoor
namespace Go.Proofs.YtldcljfjjoidhaaGreatDoor
open Go Go.Am Go.Sort
open List (map)
open Int (toNat)
open Go.IntKind (wrap)
open Go.Am.aP (fits)
set_option maxRecDepth 100000
def acB (p:List bQ) (a b:Int):Int × Int × Int × Int:=
 (((mG p).length:Int),((qz (mG p)).length:Int),((HB p p.length).length:Int),wrap .i64 (wrap .i64 (((mG p).length:Int) * a)+wrap .i64 (((qz (mG p)).length:Int) * b)))
def C6 (p:List bQ) (a b:Int):Int:=aZ [gG p,ov a 1 100,ov b 0 100]
section
variable {N:Nat} (hN:eE N)
include hN
theorem z8 {p:List bQ} (h:gG p=0):(mG p).length≤4096:=by
 obtain ⟨o1,o2⟩:=oN h p.length (aaF _);rw [aa0] at o1 o2;rw [Fh o1];exact o2
theorem T6 (p:List bQ) (a b:Int):T27 N (p,a,b)=some (if C6 p a b=0 then (acB p a b,0) else ((0,0,0,0),C6 p a b)):=by
 have z3:(bif (allFit (fits xh) [(AV.int .i64 (gG p)),(AV.int .i64 (ov a 1 100)),(AV.int .i64 (ov b 0 100))]) then some (map kj [(AV.int .i64 (gG p)),(AV.int .i64 (ov a 1 100)),(AV.int .i64 (ov b 0 100))]) else none:Option ma)=some [gG p,ov a 1 100,ov b 0 100]:=rfl;rw [Yd];simp only [qi,qj,aad,cond_true,aab,I3 hN,IU,z3,nD hN _ (show [gG p,ov a 1 100,ov b 0 100].length≤9223372036854775806 by simp),N3];unfold C6;by_cases h:aZ [gG p,ov a 1 100,ov b 0 100]=0
 ·rw [if_pos h,if_pos h];have hp:gG p=0:=gq.1 h _ (by simp);obtain ⟨e1,e2⟩:=oM hp;obtain ⟨o1,o2⟩:=oN hp p.length (aaF _);rw [aa0] at o1;have nl:=z8 hN hp;have q91:=TP hN p e2 (by omega);rw [BT o1] at q91;have q92:=KB hN (mG p) (by omega) (OP hp);have q93:=YA hN p e2 (by omega);simp only [q91,aab,gA,fX,cond_true,q92,q93,aac];rfl
 ·rw [if_neg h,if_neg h]
theorem T7 (p:List bQ) (a b:Int) (h:gG p=0):T34 N (p,a,b)=some (acB p a b):=by
 obtain ⟨e1,e2⟩:=oM h;have nl:=z8 hN h;have q46:=YB hN p e2 (by omega);have q41:=Ky hN (mG p) (by omega);rw [Yg];simp only [qd,qe,aad,cond_true,aab,T3 hN p h,gA,fX,q41,q46,aac];rfl
end
end Go.Proofs.YtldcljfjjoidhaaGreatDoor
namespace Go.Proofs.YtldcljfjjoidhaaGreatDoor
open Go Go.Am Go.Sort
open List (map)
open Int (toNat)
open Go.IntKind (wrap)
open Go.Am.aP (fits)
set_option maxRecDepth 100000
theorem OR (u:Nat):aaZ (u:Int)=aao u:=by unfold aaZ; rw [if_neg (by omega)]; simp
theorem ko {u:Nat} (h:u < 10):aao u=[ac2 (48+u)]:=by rw [aao,dif_pos h]
theorem Aa {u:Nat} (h:¬ u < 10):aao u=aao (u / 10)++aao (u % 10):=by
 rw [ko (show u % 10 < 10 by omega)]
 conv=>lhs; rw [aao,dif_neg h]
theorem q7:∀ (k u:Nat),u < 10 ^ (k+1)→1≤(aao u).length∧(aao u).length≤k+1
 |0,u,h=>by rw [ko (by simpa using h)]; simp
 |k+1,u,h=>by
  by_cases h0:u < 10
  ·rw [ko h0]; simp
  ·have ih:=q7 k (u / 10) (by rw [acS] at h; omega);rw [Aa h0,aag,ko (show u % 10 < 10 by omega),aah];omega
theorem T8 (u:Nat) (h:u < 10):bC u (u+1) ([48,49,50,51,52,53,54,55,56,57]:List UInt8)=[ac2 (48+u)]:=by
 have:∀ u:Fin 10,bC u.1 (u.1+1) ([48,49,50,51,52,53,54,55,56,57]:List UInt8)=[ac2 (48+u.1)]:=by decide
 exact this ⟨u,h⟩
theorem nG (N n u:Nat) (h:u < 10):mf N (n+1) (u:Int)=some (aao u):=by
 rw [tP];have c1:decide ((u:Int) < -9)=false:=decide_eq_false (by omega);have c2:decide ((u:Int) < 0)=false:=decide_eq_false (by omega);have c3:decide ((u:Int) < 10)=true:=decide_eq_true (by omega);have w:wrap .i64 ((u:Int)+1)=((u+1:Nat):Int):=bp (by omega);have c4:decide ((0:Int)≤((u+1:Nat):Int)∧((u+1:Nat):Int)≤(([48,49,50,51,52,53,54,55,56,57]:List UInt8).length:Int))=true:=decide_eq_true (by simp; omega);have c5:decide ((0:Int)≤(u:Int)∧(u:Int)≤(((u+1:Nat):Nat):Int))=true:=decide_eq_true (by omega);rw [c1,c2,c3,w];simp only [cond_false,cond_true,aaf,c4,c5,aae,T8 u h];rw [ko h]
theorem BU (N:Nat):∀ (k u n:Nat),k≤15→u < 10 ^ (k+1)→mf N (n+k+1) (u:Int)=some (aao u)
 |0,u,n,_,h=>nG N n u (by simpa using h)
 |k+1,u,n,hk,h=>by
  by_cases h0:u < 10
  ·exact nG N (n+(k+1)) u h0
  ·have hu:u < 10000000000000000000:=by
    have:10 ^ (k+1+1)≤10 ^ 17:=abD (by omega) (by omega);have e:10 ^ 17=100000000000000000:=rfl;omega
   have hd:u / 10 < 10 ^ (k+1):=by rw [acS] at h; omega
   have ih:=BU N k (u / 10) n (by omega) hd;have ih2:=nG N (n+k) (u % 10) (by omega);have l1:=(q7 k (u / 10) hd).2;rw [show n+(k+1)+1=(n+k+1)+1 from rfl,tP];have c1:decide ((u:Int) < -9)=false:=decide_eq_false (by omega);have c2:decide ((u:Int) < 0)=false:=decide_eq_false (by omega);have c3:decide ((u:Int) < 10)=false:=decide_eq_false (by omega);have e1:Int.tdiv (u:Int) 10=((u / 10:Nat):Int):=by rw [abN (by omega)]; omega
   have e2:Int.tmod (u:Int) 10=((u % 10:Nat):Int):=by rw [abS (by omega)]; omega
   have w:wrap .i64 ((u / 10:Nat):Int)=((u / 10:Nat):Int):=fA (by omega);rw [c1,c2,c3,e1,e2,w];simp only [cond_false,ih,ih2,aab];rw [ko (show u % 10 < 10 by omega),decide_eq_true (by simp only [aah]; omega),cond_true,Aa h0,ko (show u % 10 < 10 by omega)]
section
variable {N:Nat} (hN:eE N)
include hN
theorem vb (x:Int) (h:-1000000000 < x∧x < 1000000000):EY N x=some (aaZ x):=by
 obtain ⟨n,hn⟩:∃ n,N=n+20:=⟨N - 20,by unfold eE at hN; omega⟩;have key:∀ M,M=n+20→mf N M x=some (aaZ x):=by
  rintro M rfl;by_cases h0:0≤x
  ·obtain ⟨u,rfl⟩:∃ u:Nat,x=u:=⟨x.toNat,by omega⟩;rw [OR];exact BU N 8 u (n+11) (by omega) (by have:10 ^ (8+1)=1000000000:=rfl; omega)
  ·obtain ⟨u,rfl⟩:∃ u:Nat,x=-(u:Int):=⟨(-x).toNat,by omega⟩;have hu:u < 1000000000:=by omega
   have ei:aaZ (-(u:Int))=45 :: aao u:=by
    unfold aaZ;rw [if_pos (by omega)];simp
   have one:∀ (M v:Nat),v < 10→0 < v→mf N (M+2) (-(v:Int))=some (45 :: aao v):=fun M v hv hv0=>by
    rw [tP];have c1:decide (-(v:Int) < -9)=false:=decide_eq_false (by omega);have c2:decide (-(v:Int) < 0)=true:=decide_eq_true (by omega);have w:wrap .i64 (0 - -(v:Int))=(v:Int):=by rw [fA (by omega)]; omega
    have l:=(q7 0 v (by simpa using hv)).2;have hl:decide (([45]:List UInt8).length+(aao v).length≤9223372036854775807)=true:=decide_eq_true (by simp only [aah]; omega);rw [c1,c2,w];simp only [cond_false,cond_true,nG N M v hv,aab,hl,List.singleton_append]
   have more:∀ (k v M:Nat),k≤10→v < 10 ^ (k+1)→0 < v→mf N (M+k+2) (-(v:Int))=some (45 :: aao v):=by
    intro k
    induction k with
    |zero=>intro v M _ hv hv0; exact one M v (by simpa using hv) hv0
    |succ k ih=>
     intro v M hk hv hv0;by_cases hs:v < 10
     ·exact one (M+(k+1)) v hs hv0
     ·have hd:v / 10 < 10 ^ (k+1):=by rw [acS] at hv; omega
      have hvb:v < 1000000000000:=by
       have:10 ^ (k+1+1)≤10 ^ 12:=abD (by omega) (by omega);have e:10 ^ 12=1000000000000:=rfl;omega
      have i1:=ih (v / 10) M (by omega) hd (by omega);have i2:=nG N (M+k+1) (v % 10) (by omega);have l1:=(q7 k (v / 10) hd).2;rw [show M+(k+1)+2=(M+k+2)+1 from rfl,tP];have c1:decide (-(v:Int) < -9)=true:=decide_eq_true (by omega);have e1:Int.tdiv (-(v:Int)) 10=-((v / 10:Nat):Int):=by rw [Int.neg_tdiv,abN (by omega)]; omega
      have e2:Int.tmod (-(v:Int)) 10=-((v % 10:Nat):Int):=by rw [Int.neg_tmod,abS (by omega)]; omega
      have w1:wrap .i64 (-((v / 10:Nat):Int))=-((v / 10:Nat):Int):=fA (by omega);have w2:wrap .i64 (0 - -((v % 10:Nat):Int))=((v % 10:Nat):Int):=by rw [fA (by omega)]; omega
      rw [c1,e1,e2,w1,w2];simp only [cond_true,i1,i2,aab];rw [ko (show v % 10 < 10 by omega),decide_eq_true (by simp only [aai,aa7]; omega),cond_true,Aa hs,ko (show v % 10 < 10 by omega)];rfl
   rw [ei];exact more 8 u (n+10) (by omega) (by have:10 ^ (8+1)=1000000000:=rfl; omega) (by omega)
 exact key N hn
theorem Ab (x:Int) (h:-1000000000 < x∧x < 1000000000):Xg N x=some (aaZ x):=by
 show zv x=_;rw [EI];unfold zr;rw [decide_eq_true (by omega),decide_eq_true (by omega)];rfl
end
end Go.Proofs.YtldcljfjjoidhaaGreatDoor
namespace Go.Proofs.YtldcljfjjoidhaaGreatDoor
open Go Go.Am Go.Sort
open List (map)
open Int (toNat)
open Go.IntKind (wrap)
open Go.Am.aP (fits)
set_option maxRecDepth 100000
def vc (b:Bool):List UInt8:=if b then [114,105,103,104,116] else [108,101,102,116]
def Zo (b:Bool):List UInt8:=if b then [117,112] else [100,111,119,110]
def lx (c:bQ):List UInt8:=(((((((((([97,116,32]++aaZ c.1)++[32])++aaZ c.2.1)++[32])++vc c.2.2.1)++[32])++Zo c.2.2.2.1)++[32])++aaZ c.2.2.2.2)++[10])
theorem iW {x:Int} (h:-1000000000 < x∧x < 1000000000):1≤(aaZ x).length∧(aaZ x).length≤10:=by
 unfold aaZ;split
 ·have:=q7 8 x.natAbs (by have:10 ^ (8+1)=1000000000:=rfl; omega);rw [aai];omega
 ·have:=q7 8 x.toNat (by have:10 ^ (8+1)=1000000000:=rfl; omega);omega
theorem sG (b:Bool):(vc b).length≤5:=by cases b <;> decide
theorem C7 (b:Bool):(Zo b).length≤4:=by cases b <;> decide
def YJ (c:bQ):Prop:=(-1000000000 < c.1∧c.1 < 1000000000)∧(-1000000000 < c.2.1∧c.2.1 < 1000000000)∧(-1000000000 < c.2.2.2.2∧c.2.2.2.2 < 1000000000)
theorem OS {c:bQ} (h:cP c=0):YJ c:=by
 obtain ⟨h1,h2,h3⟩:=dj h;have:=jm h1;simp only at this;exact ⟨by omega,by omega,by omega⟩
theorem nH {c:bQ} (h:YJ c):(lx c).length≤60∧1≤(lx c).length:=by
 obtain ⟨h1,h2,h3⟩:=h;have l1:=iW h1;have l2:=iW h2;have l3:=iW h3;have l4:=sG c.2.2.1;have l5:=C7 c.2.2.2.1;unfold lx;simp only [aag,aai,aa7];omega
def gS (p:List bQ):List UInt8:=p.flatMap lx
theorem sH {p:List bQ} {k:Nat} (hk:k < p.length):gS (p.take (k+1))=gS (p.take k)++lx p[k]:=by
 rw [acW,aap hk];unfold gS;rw [List.flatMap_append];simp
theorem vd {p:List bQ} (h:∀ c∈p,YJ c):∀ k,k≤p.length→(gS (p.take k)).length≤60 * k
 |0,_=>by simp [gS]
 |k+1,hk=>by
  have ih:=vd h k (by omega);have iJ:k < p.length:=by omega
  rw [sH iJ,aag];have:=nH (h _ (aby iJ));omega
section
variable {N:Nat} (hN:eE N)
include hN
theorem KC {c:bQ} (h:YJ c):Ol N c=some (lx c):=by
 have hl:=(nH h).1;obtain ⟨h1,h2,h3⟩:=h;have l1:=(iW h1).2;have l2:=(iW h2).2;have l3:=(iW h3).2;have l4:=sG c.2.2.1;have l5:=C7 c.2.2.2.1;have q1:∀ b:Bool,Km N (b,([114,105,103,104,116]:List UInt8),([108,101,102,116]:List UInt8))=some (vc b):=fun b=>by rw [IR]; cases b <;> rfl
 have q2:∀ b:Bool,Km N (b,([117,112]:List UInt8),([100,111,119,110]:List UInt8))=some (Zo b):=fun b=>by rw [IR]; cases b <;> rfl
 unfold lx;rw [Tm];generalize hA:aaZ c.1=A at *;generalize hB:aaZ c.2.1=B at *;generalize hC:aaZ c.2.2.2.2=C at *;have t1:EY N c.1=some A:=by rw [← hA]; exact vb hN _ h1
 have t2:EY N c.2.1=some B:=by rw [← hB]; exact vb hN _ h2
 have t3:EY N c.2.2.2.2=some C:=by rw [← hC]; exact vb hN _ h3
 generalize hD:vc c.2.2.1=D at *;generalize hE:Zo c.2.2.2.1=E at *;have b1:∀ n:Nat,n≤1000→decide (n≤9223372036854775807)=true:=fun n hn=>decide_eq_true (by omega)
 simp only [t1,t2,t3,q1,q2,hD,hE,aab,beq_self_eq_true,aae,cond_true,aag,aai,aa7]
 repeat rw [b1 _ (by omega),cond_true]
theorem OT (p:List bQ) (h:∀ c∈p,YJ c) (hp:p.length≤1000000):T35 N p=some (gS p):=by
 have key:=cE (rd:=zU N p) p.length (fun k=>(gS (p.take k),(k:Int))) (gS p) (fun k hk=>by
  obtain ⟨a1,a2⟩:=C3 hN p hk;have hc:=h _ (aby hk);have q:Ol N (p[k].1,p[k].2.1,p[k].2.2.1,p[k].2.2.2.1,p[k].2.2.2.2)=some (lx p[k]):=KC hN hc;have l1:=vd h k (by omega);have l2:=(nH hc).1;have hb:decide ((gS (p.take k)).length+(lx p[k]).length≤9223372036854775807)=true:=decide_eq_true (by omega);rw [sH hk];simp only [zU,aac,aaf,aX hk,aO hk,a1,a2,aae,cond_true,q,aab,hb,bp (show k < 9223372036854775807 by omega)]) (by
  simp only [zU,aac,bL,cond_false,aa0]) N 0 (aa1 _) (by unfold eE at hN; omega)
 have key:ay (zU N p) N ([],0)=some (gS p):=key;rw [Yi,key];rfl
end
end Go.Proofs.YtldcljfjjoidhaaGreatDoor
namespace Go.Proofs.YtldcljfjjoidhaaGreatDoor
open Go Go.Am Go.Sort
open List (map)
open Int (toNat)
open Go.IntKind (wrap)
open Go.Am.aP (fits)
set_option maxRecDepth 100000
def bI (s:List UInt8):List Int:=s.map fun b=>(b.toNat:Int)
theorem C8 (s:List UInt8):map Dl (bI s)=map jt s:=by
 unfold bI;rw [List.map_map];exact List.map_congr_left fun _ _=>rfl
theorem YK (s t:List UInt8):map Dl (bI s)++map jt t=map Dl (bI (s++t)):=by rw [C8,C8,aa2]
theorem OU (s:List UInt8):(bI s).length=s.length:=by simp [bI]
theorem acC (s:List UInt8):su (map Dl (bI s))=true∧fN (map Dl (bI s))=s:=by
 rw [C8]
 induction s with
 |nil=>exact ⟨rfl,rfl⟩
 |cons b s ih=>
  have hb:b.toNat < 256:=b.toNat_lt;constructor
  ·show ((decide ((0:Int)≤(b.toNat:Int))&&decide ((b.toNat:Int) < 256))&&su (map jt s))=true;rw [ih.1,decide_eq_true (by omega),decide_eq_true (by omega)];rfl
  ·show ac2 ((b.toNat:Int).toNat) :: fN (map jt s)=b :: s;rw [ih.2,aaf,UInt8.ofNat_toNat]
section
variable {N:Nat} (hN:eE N)
include hN
theorem OV (m:Int) (p:List bQ) (h:∀ c∈p,YJ c) (hp:p.length≤1000000) (h0:p≠[]):ay (qX m N p) N (0,false,[])=some (true,bI (gS p)):=by
 have hlp:0 < p.length:=acT.2 h0;have key:=cE (rd:=qX m N p) p.length (fun k=>((k:Int),!(k == 0),bI (gS (p.take k)))) (true,bI (gS p)) (fun k hk=>by
  obtain ⟨a1,a2⟩:=HA hN p hk;have hc:=h _ (aby hk);have l0:=(nH hc).1;have lt:=vd h k (by omega);rw [sH hk];have hf:(!(k+1 == 0))=true:=rfl;have HY:Qb 0 (bif !(k == 0) then AV.ptr 0 0 else AV.fj)=true:=by cases (k == 0) <;> rfl
  have tl:(bI (gS (p.take k))).length=(gS (p.take k)).length:=OU _;generalize gS (p.take k)=t at *;generalize (!(k == 0))=f at *;generalize p[k]=c at *;have Ur:=YK t (lx c);have Pl:(bI (t++lx c)).length=t.length+(lx c).length:=by rw [OU,aag]
  have hb:decide ((t.length+(lx c).length) * 1≤140737488355328)=true:=decide_eq_true (by omega);obtain ⟨h1,h2,h3⟩:=hc;have l1:=(iW h1).2;have l2:=(iW h2).2;have l3:=(iW h3).2;have l4:=sG c.2.2.1;have l5:=C7 c.2.2.2.1;have q1:∀ b:Bool,Zm N (b,([114,105,103,104,116]:List UInt8),([108,101,102,116]:List UInt8))=some (vc b):=fun b=>by rw [Oj]; cases b <;> rfl
  have q2:∀ b:Bool,Zm N (b,([117,112]:List UInt8),([100,111,119,110]:List UInt8))=some (Zo b):=fun b=>by rw [Oj]; cases b <;> rfl
  have t1:Xg N c.1=some (aaZ c.1):=Ab hN _ h1;have t2:Xg N c.2.1=some (aaZ c.2.1):=Ab hN _ h2;have t3:Xg N c.2.2.2.2=some (aaZ c.2.2.2.2):=Ab hN _ h3;have b1:∀ n:Nat,n≤1000→decide (n≤9223372036854775807)=true:=fun n hn=>decide_eq_true (by omega)
  have eL:(((((((((([97,116,32]++aaZ c.1)++[32])++aaZ c.2.1)++[32])++vc c.2.2.1)++[32])++Zo c.2.2.2.1)++[32])++aaZ c.2.2.2.2)++[10])=lx c:=rfl;have d1:decide (([97,116,32]:List UInt8).length+(aaZ c.1).length≤9223372036854775807)=true:=b1 _ (by simp only [aai,aa7]; omega);simp only [qX,aac,aaf,aX hk,aO hk,a1,a2,aae,cond_true,t1,t2,t3,q1,q2,aab,beq_self_eq_true,eL,HY,Ur,tl,Pl,hb,fa5,md5,decide_true,aad,bp (show k < 9223372036854775807 by omega)];simp only [aag,aai,aa7]
  repeat rw [b1 _ (by omega),cond_true]
  rfl) (by
  have e:(!(p.length == 0))=true:=by
   have:(p.length == 0)=false:=beq_false_of_ne (by omega);rw [this]; rfl
  have s0:dE (AV.ptr 0 0) AV.fj=false:=by decide
  have s2:dE (AV.ptr 0 0) (AV.ptr 0 0)=true:=by decide
  simp only [qX,aac,bL,cond_false,e,cond_true,s0,s2,Bool.false_or,fa5,md5,aae,aad,decide_true,aab,aa0]) N 0 (aa1 _) (by unfold eE at hN; omega)
 have key:ay (qX m N p) N (0,false,[])=some (true,bI (gS p)):=key;exact key
theorem OW (m:Int) (p:List bQ):Yr m N p=some (if gG p=0 then (gS p,0) else ([],gG p)):=by
 cases p with
 |nil=>rfl
 |cons c q=>
  show T29 m N (c :: q)=_;generalize hpq:c :: q=p;have h0:p≠[]:=by rw [← hpq]; simp
  rw [Ym];have z:((bif (allFit (fits p5) ([]:List AV)) then some (0,false,(map dq5 ([]:List AV))) else none:Option (Int × Bool × List Int)).bind fun zx=>bif decide (0=zx.2.2.length) then some zx else none)=some (0,false,[]):=rfl;simp only [qi,qj,aad,cond_true,aab,I3 hN,N3];by_cases h:gG p=0
  ·rw [if_pos h,if_pos h];obtain ⟨e1,e2⟩:=oM h;have hc:∀ c∈p,YJ c:=fun c hc=>OS (e2 c hc)
   have q:=OV hN m p hc (by omega) h0;obtain ⟨o1,o2⟩:=acC (gS p);have cS:List.isEmpty (map Dl (bI (gS p)))=false:=by
    rw [C8];cases p with
    |nil=>exact absurd rfl h0
    |cons c q=>
     have:=(nH (hc c (by simp))).2;cases hl:lx c with
     |nil=>rw [hl] at this; simp at this
     |cons x xs=>simp [gS,hl]
   simp only [aac,z,aab,q,cS,acU,decide_true,o1,o2,aae,cond_true]
  ·rw [if_neg h,if_neg h]
end
end Go.Proofs.YtldcljfjjoidhaaGreatDoor
namespace Go.Proofs.YtldcljfjjoidhaaGreatDoor
open Go Go.Am Go.Sort
open List (map)
open Int (toNat)
open Go.IntKind (wrap)
open Go.Am.aP (fits)
set_option maxRecDepth 100000
theorem xx {k:Nat} (h:k≤8):10 ^ k≤100000000:=by
 have:=abD (show 0 < 10 by omega) h;simpa using this
def stM (s:List UInt8) (n:Int) (k:Nat):Int ⊕ Int:=if (s.getD k 0).toNat < 48∨57 < (s.getD k 0).toNat then .inr (-1) else .inl (10 * n+(((s.getD k 0).toNat:Int) - 48))
theorem BV (s:List UInt8):∀ (l:List Nat) (n:Int),(∀ k∈l,48≤(s.getD k 0).toNat∧(s.getD k 0).toNat≤57)→foldI (stM s) n l=.inl (l.foldl (fun n k=>10 * n+(((s.getD k 0).toNat:Int) - 48)) n)
 |[],_,_=>rfl
 |a :: l,n,h=>by
  have hb:=h a List.mem_cons_self;have e:stM s n a=.inl (10 * n+(((s.getD a 0).toNat:Int) - 48)):=by unfold stM; rw [if_neg (by omega)]
  simp only [foldI,e,acZ,ac1];exact BV s l _ fun k hk=>h k (abI _ hk)
theorem BW (s:List UInt8):∀ (l:List Nat) (n:Int) (k:Nat),k∈l→((s.getD k 0).toNat < 48∨57 < (s.getD k 0).toNat)→foldI (stM s) n l=.inr (-1)
 |[],_,_,h,_=>by cases h
 |a :: l,n,k,h,hb=>by
  simp only [foldI];by_cases ha:(s.getD a 0).toNat < 48∨57 < (s.getD a 0).toNat
  ·unfold stM; rw [if_pos ha]; rfl
  ·have e:stM s n a=.inl (10 * n+(((s.getD a 0).toNat:Int) - 48)):=by unfold stM; rw [if_neg ha]
   rw [e,acZ];rcases ab1.1 h with rfl|h
   ·exact absurd hb ha
   ·exact BW s l _ k h hb
theorem OX {N:Nat} (hN:eE N) (s:List UInt8) (hs:s.length≤9):ay (nt N s) N (0,0)=some (Sum.elim (fun n=>.inr n) (fun y=>.inl y) (foldI (stM s) 0 (abx s.length))):=by
 have key:=fh (rd:=nt N s) (abx s.length) (fun (n:Int) k=>(n,(k:Int))) (stM s) (fun n=>(.inr n:Int ⊕ Int)) (fun y=>.inl y) (fun n k=>0≤n∧n < ((10 ^ k:Nat):Int)∧k≤9)
  (fun n k hk hP=>by
   obtain ⟨p1,p2,p3⟩:=hP;rw [abW] at hk;rw [List.getElem_range];have c1:decide ((0:Int)≤(k:Int)∧(k:Int) < (s.length:Int))=true:=aO hk;by_cases hb:(s.getD k 0).toNat < 48∨57 < (s.getD k 0).toNat
   ·constructor
    ·unfold stM;rw [if_pos hb];simp only [Sum.map_inr,nt,aaf,aX hk,c1,cond_true];by_cases q1:(s.getD k 0).toNat < 48
     ·rw [decide_eq_true (show (((s.getD k 0).toNat:Nat):Int) < 48 by omega)];simp only [cond_true,aab]
     ·rw [decide_eq_false (show ¬ (((s.getD k 0).toNat:Nat):Int) < 48 by omega),decide_eq_true (show (((s.getD k 0).toNat:Nat):Int) > 57 by omega)];simp only [cond_true,cond_false,aab]
    ·intro s' h;unfold stM at h;rw [if_pos hb] at h;cases h
   ·have hp8:=xx (show k≤8 by omega);have es:stM s n k=.inl (10 * n+(((s.getD k 0).toNat:Int) - 48)):=by unfold stM; rw [if_neg hb]
    rw [es];constructor
    ·have w1:wrap .u8 ((((s.getD k 0).toNat:Nat):Int) - 48)=(((s.getD k 0).toNat:Nat):Int) - 48:=IntWalk.u8_in _ (by omega);have w2:wrap .i64 ((((s.getD k 0).toNat:Nat):Int) - 48)=(((s.getD k 0).toNat:Nat):Int) - 48:=fA (by omega);have w3:wrap .i64 (10 * n)=10 * n:=fA (by omega);have w4:wrap .i64 (10 * n+((((s.getD k 0).toNat:Nat):Int) - 48))=10 * n+((((s.getD k 0).toNat:Nat):Int) - 48):=fA (by omega);simp only [Sum.map_inl,nt,aaf,aX hk,c1,cond_true];rw [decide_eq_false (show ¬ (((s.getD k 0).toNat:Nat):Int) < 48 by omega),decide_eq_false (show ¬ (((s.getD k 0).toNat:Nat):Int) > 57 by omega)];simp only [cond_false,aab,w1,w2,w3,w4,bp (show k < 9223372036854775807 by omega)]
    ·intro s' h;injection h with h;subst h;have:(10:Nat) ^ (k+1)=10 ^ k * 10:=acS ..;refine ⟨by omega,?_,by omega⟩;rw [this];omega) (fun n _=>by
   simp only [nt,abW,bL,cond_false]) N 0 0 (aa1 _) (by rw [abW]; unfold eE at hN; omega) ⟨Int.le_refl _,by simp,by omega⟩
 rw [abV] at key;exact key
def KD (s:List UInt8):Prop:=s=[]∨s.length > 9∨(1 < s.length∧(s.getD 0 0).toNat=48)∨∃ k,k < s.length∧((s.getD k 0).toNat < 48∨57 < (s.getD k 0).toNat)
def eO (s:List UInt8):Int:=(abx s.length).foldl (fun n k=>10 * n+(((s.getD k 0).toNat:Int) - 48)) 0
open Classical in
noncomputable def lG (s:List UInt8):Option Int:=if KD s then none else some (eO s)
theorem Fi {N:Nat} (hN:eE N) (s:List UInt8) (hs:s.length≤1000000):On N s=some ((lG s).getD (-1)):=by
 rw [Tt];by_cases h0:s=[]
 ·have:lG s=none:=by unfold lG; rw [if_pos (.inl h0)]
  rw [this];subst h0;rfl
 ·have nW:0 < s.length:=acT.2 h0;have e0:(((s.length:Nat):Int) == 0)=false:=beq_false_of_ne (by omega);rw [e0,cond_false];by_cases h9:s.length > 9
  ·have:lG s=none:=by unfold lG; rw [if_pos (.inr (.inl h9))]
   rw [this,decide_eq_true (show ((s.length:Nat):Int) > 9 by omega)];rfl
  ·rw [decide_eq_false (show ¬ ((s.length:Nat):Int) > 9 by omega),cond_false];have hz:decide ((0:Int)≤0∧0 < (s.length:Int))=true:=decide_eq_true (by omega);by_cases Dd:1 < s.length∧(s.getD 0 0).toNat=48
   ·have:lG s=none:=by unfold lG; rw [if_pos (.inr (.inr (.inl Dd)))]
    rw [this,decide_eq_true (show ((s.length:Nat):Int) > 1 by omega),hz,cond_true,cond_true];have:((((s.getD (toNat 0) 0).toNat:Nat):Int) == 48)=true:=by
     have:(s.getD (toNat 0) 0).toNat=48:=Dd.2;rw [this]; rfl
    rw [this];rfl
   ·have acD:(bif decide (((s.length:Nat):Int) > 1) then (bif decide ((0:Int)≤0∧0 < (s.length:Int)) then some ((((s.getD (toNat 0) 0).toNat:Nat):Int) == 48) else none) else some false)=some false:=by
     by_cases h1:1 < s.length
     ·have cS:(s.getD 0 0).toNat≠48:=fun e=>Dd ⟨h1,e⟩
      have:((((s.getD (toNat 0) 0).toNat:Nat):Int) == 48)=false:=beq_false_of_ne (by
       have:(s.getD (toNat 0) 0).toNat≠48:=cS;omega)
      rw [decide_eq_true (by omega),hz,this];rfl
     ·rw [decide_eq_false (by omega)];rfl
    rw [acD,aab,cond_false,OX hN s (by omega),aab];by_cases hb:∃ k,k < s.length∧((s.getD k 0).toNat < 48∨57 < (s.getD k 0).toNat)
    ·have:lG s=none:=by unfold lG; rw [if_pos (.inr (.inr (.inr hb)))]
     obtain ⟨k,hk,hkb⟩:=hb;rw [this,BW s _ 0 k (aa4.2 hk) hkb];rfl
    ·have hn:¬ KD s:=by
      rintro (h|h|h|h)
      ·exact h0 h
      ·exact h9 h
      ·exact Dd h
      ·exact hb h
     have:lG s=some (eO s):=by unfold lG; rw [if_neg hn]
     rw [this,BV s _ 0 (fun k hk=>by
      have hk:=aa4.1 hk;have:¬ ((s.getD k 0).toNat < 48∨57 < (s.getD k 0).toNat):=fun h=>hb ⟨k,hk,h⟩
      omega)]
     rfl
end Go.Proofs.YtldcljfjjoidhaaGreatDoor
namespace Go.Proofs.YtldcljfjjoidhaaGreatDoor
open Go Go.Am Go.Sort
open List (map)
open Int (toNat)
open Go.IntKind (wrap)
open Go.Am.aP (fits)
set_option maxRecDepth 100000
theorem vf (s:List UInt8):∀ (l:List Nat) (n:Int) (j:Nat),(∀ k∈l,48≤(s.getD k 0).toNat∧(s.getD k 0).toNat≤57)→0≤n→n < ((10 ^ j:Nat):Int) →
  n≤(l.foldl (fun n k=>10 * n+(((s.getD k 0).toNat:Int) - 48)) n)∧(l.foldl (fun n k=>10 * n+(((s.getD k 0).toNat:Int) - 48)) n) < ((10 ^ (j+l.length):Nat):Int)
 |[],n,j,_,_,h2=>⟨Int.le_refl _,h2⟩
 |a :: l,n,j,h,h1,h2=>by
  have ha:=h a List.mem_cons_self;have hp:(10:Nat) ^ (j+1)=10 ^ j * 10:=acS ..;have:=vf s l (10 * n+(((s.getD a 0).toNat:Int) - 48)) (j+1) (fun k hk=>h k (abI _ hk)) (by omega) (by rw [hp]; omega);rw [show j+1+l.length=j+(a :: l).length by simp; omega] at this;rw [ac1];exact ⟨by omega,this.2⟩
theorem I4 {s:List UInt8} {n:Int} (h:lG s=some n):0≤n∧n≤999999999∧¬ KD s∧n=eO s:=by
 unfold lG at h;by_cases hb:KD s
 ·rw [if_pos hb] at h; cases h
 ·rw [if_neg hb] at h;have e:=aa3 h;subst e;have h9:¬ s.length > 9:=fun h=>hb (.inr (.inl h))
  have hd:∀ k∈abx s.length,48≤(s.getD k 0).toNat∧(s.getD k 0).toNat≤57:=fun k hk=>by
   have hk:=aa4.1 hk;have:¬ ((s.getD k 0).toNat < 48∨57 < (s.getD k 0).toNat):=fun h=>hb (.inr (.inr (.inr ⟨k,hk,h⟩)))
   omega
  have:=vf s (abx s.length) 0 0 hd (by omega) (by simp);have hp:10 ^ (0+(abx s.length).length)≤10 ^ 9:=abD (by omega) (by rw [abW]; omega);have e9:10 ^ 9=1000000000:=rfl;unfold eO;refine ⟨this.1,by omega,hb,rfl⟩
noncomputable def jO (s:List UInt8):Option Int:=if 0 < s.length∧(s.getD 0 0).toNat=45 then (match lG (s.drop 1) with | some n=>if n > 0 then some (-n) else none | none=>none) else lG s
theorem Ac {N:Nat} (hN:eE N) (s:List UInt8) (hs:s.length≤1000000):∃ v,Kn N s=some (v,(jO s).isSome)∧∀ n,jO s=some n→v=n:=by
 rw [Tv];have YL:(bif decide (((s.length:Nat):Int) > 0) then (bif decide ((0:Int)≤0∧0 < (s.length:Int)) then some ((((s.getD (toNat 0) 0).toNat:Nat):Int) == 45) else none) else some false)=some (decide (0 < s.length∧(s.getD 0 0).toNat=45)):=by
  by_cases h0:0 < s.length
  ·rw [decide_eq_true (show ((s.length:Nat):Int) > 0 by omega),decide_eq_true (show (0:Int)≤0∧0 < (s.length:Int) by omega)];show some ((((s.getD 0 0).toNat:Nat):Int) == 45)=_;congr 1;rw [acw,beq_iff_eq,decide_eq_true_eq];exact ⟨fun h=>⟨h0,by omega⟩,fun h=>by omega⟩
  ·rw [decide_eq_false (show ¬ ((s.length:Nat):Int) > 0 by omega),cond_false,decide_eq_false (show ¬ (0 < s.length∧(s.getD 0 0).toNat=45) from fun h=>h0 h.1)]
 rw [YL,aab];unfold jO;by_cases hm:0 < s.length∧(s.getD 0 0).toNat=45
 ·rw [decide_eq_true hm,cond_true,if_pos hm];have i1:decide ((0:Int)≤1∧1≤((s.length:Nat):Int))=true:=decide_eq_true (by omega);have sb:bC (toNat 1) s.length s=s.drop 1:=by
   unfold bC;rw [aa0];rfl
  rw [i1,cond_true,sb,Fi hN (s.drop 1) (by rw [ab2]; omega),aab];cases hn:lG (s.drop 1) with
  |none=>exact ⟨_,rfl,fun n h=>by cases h⟩
  |some n=>
   obtain ⟨n1,J6,-,-⟩:=I4 hn;have w:wrap .i64 (0 - n)=-n:=by rw [fA (by omega)]; omega
   refine ⟨-n,?_,?_⟩
   ·show some (wrap .i64 (0 - n),decide (n > 0))=_;rw [w];by_cases hp:n > 0
    ·simp [hp]
    ·simp [hp]
   ·intro k hk;by_cases hp:n > 0
    ·simp only [hp,if_true] at hk;exact aa3 hk
    ·simp only [hp,if_false] at hk;cases hk
 ·rw [decide_eq_false hm,cond_false,if_neg hm,Fi hN s hs,aab];cases hn:lG s with
  |none=>exact ⟨_,rfl,fun n h=>by cases h⟩
  |some n=>
   obtain ⟨n1,J6,-,-⟩:=I4 hn;refine ⟨n,?_,fun k hk=>aa3 hk⟩;show some (n,decide (n≥0))=_;rw [decide_eq_true (by omega)];rfl
end Go.Proofs.YtldcljfjjoidhaaGreatDoor
namespace Go.Proofs.YtldcljfjjoidhaaGreatDoor
open Go Go.Am Go.Sort
open List (map)
open Int (toNat)
open Go.IntKind (wrap)
open Go.Am.aP (fits)
set_option maxRecDepth 100000
def wN (w:List UInt8):List (List UInt8)→List (List UInt8)
 |x :: xs=>(w++x) :: xs
 |[]=>[w]
theorem qA (c b:UInt8) (l:List UInt8):bu c (b :: l)=if b=c then [] :: bu c l else wN [b] (bu c l):=by
 rw [bu];by_cases h:b=c
 ·rw [if_pos h,if_pos h]
 ·rw [if_neg h,if_neg h];cases bu c l <;> rfl
theorem qS (c:UInt8) (l:List UInt8):bu c l≠[]:=by
 cases l with
 |nil=>simp [bu]
 |cons b l=>
  rw [qA];split
  ·simp
  ·cases bu c l <;> simp [wN]
theorem Fj {L:List (List UInt8)} (h:L≠[]):wN [] L=L:=by
 cases L with
 |nil=>exact absurd rfl h
 |cons x xs=>rfl
theorem Fk (w v:List UInt8) (L:List (List UInt8)):wN w (wN v L)=wN (w++v) L:=by
 cases L with
 |nil=>rfl
 |cons x xs=>simp [wN]
theorem vg (s:List UInt8) {a i:Nat} (h:a≤i) (hi:i < s.length):bC a (i+1) s=bC a i s++[s[i]]:=by
 unfold bC;rw [acW,aap hi,List.drop_append_of_le_length (by rw [aa5]; omega)];rfl
theorem at9 (l:List (List UInt8)) {k:Nat} (hk:k < l.length):fE (ah (map iS l) k)=l[k]∧fits p9 (ah (map iS l) k)=true:=by
 rw [gO iS l k hk]; exact ⟨rfl,rfl⟩
theorem I5 (l:List (List UInt8)) (s:List UInt8):map iS l++[AV.str s]=map iS (l++[s]):=by rw [aa2]; rfl
def acE (c:UInt8) (s:List UInt8) (v:List (List UInt8) × Nat) (i:Nat):Prop:=v.2≤i∧v.1.length≤i∧i≤s.length∧bu c s=v.1++wN (bC v.2 i s) (bu c (s.drop i))
theorem HG {N:Nat} (hN:eE N) (s:List UInt8) (c:UInt8) (hs:s.length≤1000000):Om N (s,(c.toNat:Int))=some (bu c s):=by
 have z:((bif (allFit (fits p9) ([]:List AV)) then some ((map fE ([]:List AV)),0,0) else none:Option (List (List UInt8) × Int × Int)).bind fun w9=>bif decide (0=w9.1.length) then some w9 else none)=some ([],0,0):=rfl;obtain ⟨x,e1,v,rfl,h1,h2,h3,h4⟩:=qY (rd:=nr N s (c.toNat:Int)) s.length (fun (v:List (List UInt8) × Nat) i=>(v.1,(v.2:Int),(i:Int))) (acE c s) (fun x=>∃ v:List (List UInt8) × Nat,x=(v.1,(v.2:Int))∧acE c s v s.length)
  (fun v i hi hP=>by
   obtain ⟨h1,h2,h3,h4⟩:=hP;obtain ⟨out,a⟩:=v;simp only at h1 h2 h4;have c1:decide ((0:Int)≤(i:Int)∧(i:Int) < (s.length:Int))=true:=aO hi;have g:s.getD i 0=s[i]:=by simp [hi]
   have hd:s.drop i=s[i] :: s.drop (i+1):=acX hi;rw [hd,qA] at h4;by_cases hc:s[i]=c
   ·rw [if_pos hc] at h4;refine ⟨(out++[bC a i s],i+1),?_,by simp only; omega,by simp only [aag,aah]; omega,by omega,?_⟩
    ·have e:((((s.getD i 0).toNat:Nat):Int) == (c.toNat:Int))=true:=by rw [g,hc]; exact beq_self_eq_true _
     have c2:decide ((0:Int)≤(i:Int)∧(i:Int)≤(s.length:Int))=true:=decide_eq_true (by omega);have c3:decide ((0:Int)≤(a:Int)∧(a:Int)≤((i:Nat):Int))=true:=decide_eq_true (by omega);have hb:decide ((out.length+1) * 16≤140737488355328)=true:=decide_eq_true (by omega);simp only [nr,aac,aaf,aX hi,c1,e,c2,c3,hb,I5,Th,Ti,aae,aad,cond_true,decide_true,aab,aag,aah,bp (show i < 9223372036854775807 by omega)]
    ·simp only;rw [h4];have:bC (i+1) (i+1) s=[]:=by simp [bC]
     rw [this,Fj (qS _ _),acV];simp [wN]
   ·rw [if_neg hc,Fk,← vg s h1 hi] at h4;refine ⟨(out,a),?_,by simp only; omega,by simp only; omega,by omega,h4⟩;have cS:s[i].toNat≠c.toNat:=fun e=>hc (UInt8.toNat_inj.1 e)
    have e:((((s.getD i 0).toNat:Nat):Int) == (c.toNat:Int))=false:=by rw [g]; exact beq_false_of_ne (by omega)
    simp only [nr,aac,aaf,aX hi,c1,e,Th,Ti,aae,aad,cond_true,cond_false,decide_true,aab,bp (show i < 9223372036854775807 by omega)])
  (fun v hP=>⟨(v.1,(v.2:Int)),by
   simp only [nr,aac,bL,cond_false,Th,Ti,aae,aad,cond_true,decide_true,aab],v,rfl,hP⟩) N ([],0) 0 (aa1 _) (by unfold eE at hN; omega) ⟨aaF _,by simp,aa1 _,by
   show bu c s=[]++wN (bC 0 0 s) (bu c (s.drop 0));have:bC 0 0 s=[]:=by simp [bC]
   rw [this,Fj (qS _ _)];rfl⟩
 have e1:ay (nr N s (c.toNat:Int)) N ([],0,0)=some (v.1,(v.2:Int)):=e1;have c2:decide ((0:Int)≤(v.2:Int)∧(v.2:Int)≤((s.length:Nat):Int))=true:=decide_eq_true (by omega);have hb:decide ((v.1.length+1) * 16≤140737488355328)=true:=decide_eq_true (by omega);rw [Tr];simp only [aad,aac,z,aab,e1,c2,hb,aaf,I5,Th,Ti,decide_true,aae,cond_true];rw [h4];have:bu c (s.drop s.length)=[[]]:=by rw [List.drop_length]; rfl
 rw [this];simp [wN]
end Go.Proofs.YtldcljfjjoidhaaGreatDoor
namespace Go.Proofs.YtldcljfjjoidhaaGreatDoor
open Go Go.Am Go.Sort
open List (map)
open Int (toNat)
open Go.IntKind (wrap)
open Go.Am.aP (fits)
set_option maxRecDepth 100000
def vh (w:List UInt8) (L:List (List UInt8)):List (List UInt8):=if w=[] then L else wN w L
def cR:List UInt8→List (List UInt8)
 |[]=>[]
 |b :: l=>if b=10 then [10] :: cR l else vh [b] (cR l)
theorem OY {w v:List UInt8} (hv:v≠[]) (L:List (List UInt8)):vh w (vh v L)=vh (w++v) L:=by
 unfold vh;rw [if_neg hv,if_neg (show w++v≠[] by intro e; exact hv (List.append_eq_nil_iff.1 e).2)];by_cases hw:w=[]
 ·rw [if_pos hw,hw]; rfl
 ·rw [if_neg hw,Fk]
theorem vi (w x:List UInt8) (L:List (List UInt8)) (hx:x≠[]):vh w (x :: L)=(w++x) :: L:=by
 unfold vh;by_cases hw:w=[]
 ·rw [if_pos hw,hw]; rfl
 ·rw [if_neg hw]; rfl
def acF (s:List UInt8) (v:List (List UInt8) × Nat) (i:Nat):Prop:=v.2≤i∧v.1.length≤i∧i≤s.length∧cR s=v.1++vh (bC v.2 i s) (cR (s.drop i))
theorem HH {N:Nat} (hN:eE N) (s:List UInt8) (hs:s.length≤1000000):Tn N s=some (cR s):=by
 have z:((bif (allFit (fits p9) ([]:List AV)) then some ((map fE ([]:List AV)),0,0) else none:Option (List (List UInt8) × Int × Int)).bind fun w9=>bif decide (0=w9.1.length) then some w9 else none)=some ([],0,0):=rfl;obtain ⟨x,e1,v,rfl,h1,h2,h3,h4⟩:=qY (rd:=nq N s) s.length (fun (v:List (List UInt8) × Nat) i=>(v.1,(v.2:Int),(i:Int))) (acF s) (fun x=>∃ v:List (List UInt8) × Nat,x=(v.1,(v.2:Int))∧acF s v s.length)
  (fun v i hi hP=>by
   obtain ⟨h1,h2,h3,h4⟩:=hP;obtain ⟨out,a⟩:=v;simp only at h1 h2 h4;have c1:decide ((0:Int)≤(i:Int)∧(i:Int) < (s.length:Int))=true:=aO hi;have g:s.getD i 0=s[i]:=by simp [hi]
   have hd:s.drop i=s[i] :: s.drop (i+1):=acX hi;have w1:wrap .i64 ((i:Int)+1)=((i+1:Nat):Int):=bp (by omega);rw [hd,cR] at h4;by_cases hc:s[i]=10
   ·rw [if_pos hc,vi _ _ _ (by simp),← hc,← vg s h1 hi] at h4;refine ⟨(out++[bC a (i+1) s],i+1),?_,by simp only; omega,by simp only [aag,aah]; omega,by omega,?_⟩
    ·have e:((((s.getD i 0).toNat:Nat):Int) == 10)=true:=by rw [g,hc]; rfl
     have c2:decide ((0:Int)≤((i+1:Nat):Int)∧((i+1:Nat):Int)≤(s.length:Int))=true:=decide_eq_true (by omega);have c3:decide ((0:Int)≤(a:Int)∧(a:Int)≤((i+1:Nat):Int))=true:=decide_eq_true (by omega);have hb:decide ((out.length+1) * 16≤140737488355328)=true:=decide_eq_true (by omega);simp only [nq,aac,aaf,aX hi,c1,e,w1,c2,c3,hb,I5,Th,Ti,aae,aad,cond_true,decide_true,aab,aag,aah]
    ·simp only;rw [h4];have:bC (i+1) (i+1) s=[]:=by simp [bC]
     rw [this,acV];rfl
   ·rw [if_neg hc,OY (by simp),← vg s h1 hi] at h4;refine ⟨(out,a),?_,by simp only; omega,by simp only; omega,by omega,h4⟩;have cS:s[i].toNat≠10:=fun e=>hc (UInt8.toNat_inj.1 e)
    have e:((((s.getD i 0).toNat:Nat):Int) == 10)=false:=by rw [g]; exact beq_false_of_ne (by omega)
    simp only [nq,aac,aaf,aX hi,c1,e,Th,Ti,aae,aad,cond_true,cond_false,decide_true,aab,w1])
  (fun v hP=>⟨(v.1,(v.2:Int)),by
   simp only [nq,aac,bL,cond_false,Th,Ti,aae,aad,cond_true,decide_true,aab],v,rfl,hP⟩) N ([],0) 0 (aa1 _) (by unfold eE at hN; omega) ⟨aaF _,by simp,aa1 _,by
   show cR s=[]++vh (bC 0 0 s) (cR (s.drop 0));have:bC 0 0 s=[]:=by simp [bC]
   rw [this];rfl⟩
 have e1:ay (nq N s) N ([],0,0)=some (v.1,(v.2:Int)):=e1;have hd:cR (s.drop s.length)=[]:=by rw [List.drop_length]; rfl
 rw [hd] at h4;rw [Tp];by_cases cm:v.2 < s.length
 ·have c0:decide ((v.2:Int) < ((s.length:Nat):Int))=true:=decide_eq_true (by omega);have c2:decide ((0:Int)≤(v.2:Int)∧(v.2:Int)≤((s.length:Nat):Int))=true:=decide_eq_true (by omega);have hb:decide ((v.1.length+1) * 16≤140737488355328)=true:=decide_eq_true (by omega);have cS:bC v.2 s.length s≠[]:=by
   intro e;have:=congrArg List.length e;rw [lO (aaF _)] at this;simp only [aa7] at this;omega
  simp only [aad,aac,z,aab,e1,c0,c2,hb,aaf,I5,Th,Ti,decide_true,aae,cond_true,aag,aah];rw [h4];unfold vh;rw [if_neg cS];rfl
 ·have c0:decide ((v.2:Int) < ((s.length:Nat):Int))=false:=decide_eq_false (by omega);have he:bC v.2 s.length s=[]:=by
   unfold bC;exact List.drop_eq_nil_of_le (by rw [aa5]; omega)
  simp only [aad,aac,z,aab,e1,c0,Th,Ti,decide_true,aae,cond_true,cond_false];rw [h4,he];unfold vh;rw [if_pos rfl,List.append_nil]
end Go.Proofs.YtldcljfjjoidhaaGreatDoor
namespace Go.Proofs.YtldcljfjjoidhaaGreatDoor
open Go Go.Am Go.Sort
open List (map)
open Int (toNat)
open Go.IntKind (wrap)
open Go.Am.aP (fits)
set_option maxRecDepth 100000
def Zp:List UInt8:=[97,116]
def vj:List UInt8:=[114,105,103,104,116]
def KT:List UInt8:=[108,101,102,116]
def wO:List UInt8:=[117,112]
def KU:List UInt8:=[100,111,119,110]
noncomputable def uc:List (List UInt8)→Option bQ
 |[a,x,y,d,u,n]=>if a=Zp∧(d=vj∨d=KT)∧(u=wO∨u=KU) then (match jO x,jO y,jO n with
  |some x,some y,some n=>some (x,y,d == vj,u == wO,n)
  |_,_,_=>none) else none
 |_=>none
noncomputable def OZ (s:List UInt8):Option bQ:=if (s.getD (s.length - 1) 0).toNat=10 then uc (bu 32 (s.take (s.length - 1))) else none
theorem Fl (a b:List UInt8):(a == b)=decide (a=b):=by rw [acw]; simp
theorem BX (c:UInt8):∀ (s:List UInt8),∀ w∈bu c s,w.length≤s.length
 |[],w,h=>by
  have h:w∈[[]]:=h;rw [abU] at h;subst h;exact aaF _
 |b :: l,w,h=>by
  rw [qA] at h;have ih:=BX c l;rw [aai];split at h
  ·rcases ab1.1 h with rfl|h
   ·simp
   ·have:=ih w h; omega
  ·cases hl:bu c l with
   |nil=>exact absurd hl (qS c l)
   |cons x xs=>
    rw [hl] at h ih;rcases ab1.1 h with rfl|h
    ·have:=ih x (by simp);show ([b]++x).length≤_;rw [aag,aah]; omega
    ·have:=ih w (abI _ h); omega
theorem KE {N:Nat} (hN:eE N) (s:List UInt8) (hs:s.length≤1000000) (h0:s≠[]):∃ c,Oo N s=some (c,(OZ s).isSome)∧∀ c',OZ s=some c'→c=c':=by
 have nW:0 < s.length:=acT.2 h0;have w1:wrap .i64 (((s.length:Nat):Int) - 1)=((s.length - 1:Nat):Int):=by rw [fA (by omega)]; omega
 have c1:decide ((0:Int)≤((s.length - 1:Nat):Int)∧((s.length - 1:Nat):Int) < (s.length:Int))=true:=decide_eq_true (by omega);have c2:decide ((0:Int)≤((s.length - 1:Nat):Int)∧((s.length - 1:Nat):Int)≤(s.length:Int))=true:=decide_eq_true (by omega);rw [Tx];simp only [w1,c1,c2,cond_true,aaf,aad];unfold OZ;by_cases hl:(s.getD (s.length - 1) 0).toNat=10
 ·have e:((((s.getD (s.length - 1) 0).toNat:Nat):Int) != 10)=false:=by rw [hl]; rfl
  have sb:bC 0 (s.length - 1) s=s.take (s.length - 1):=rfl;have q:Om N (s.take (s.length - 1),32)=some (bu 32 (s.take (s.length - 1))):=HG hN (s.take (s.length - 1)) 32 (by rw [aa5]; omega);rw [if_pos hl];simp only [e,cond_false,sb,q,aab,aac];have hw:=BX 32 (s.take (s.length - 1));have ht:(s.take (s.length - 1)).length≤1000000:=by rw [aa5]; omega
  generalize bu 32 (s.take (s.length - 1))=W at *;by_cases h6:W.length=6
  ·obtain ⟨a,x,y,d,u,n,rfl⟩:∃ a x y d u n,W=[a,x,y,d,u,n]:=by
    match W,h6 with
    |[a,x,y,d,u,n],_=>exact ⟨a,x,y,d,u,n,rfl⟩
   have l6:((([a,x,y,d,u,n]:List (List UInt8)).length:Int) != 6)=false:=rfl;have d0:fE (ah (map iS [a,x,y,d,u,n]) (toNat 0))=a:=rfl;have d1:fE (ah (map iS [a,x,y,d,u,n]) (toNat 1))=x:=rfl;have lD:fE (ah (map iS [a,x,y,d,u,n]) (toNat 2))=y:=rfl;have ahA:fE (ah (map iS [a,x,y,d,u,n]) (toNat 3))=d:=rfl;have ahB:fE (ah (map iS [a,x,y,d,u,n]) (toNat 4))=u:=rfl;have ahC:fE (ah (map iS [a,x,y,d,u,n]) (toNat 5))=n:=rfl;have f0:fits p9 (ah (map iS [a,x,y,d,u,n]) (toNat 0))=true:=rfl;have f1:fits p9 (ah (map iS [a,x,y,d,u,n]) (toNat 1))=true:=rfl;have f2:fits p9 (ah (map iS [a,x,y,d,u,n]) (toNat 2))=true:=rfl;have f3:fits p9 (ah (map iS [a,x,y,d,u,n]) (toNat 3))=true:=rfl;have f4:fits p9 (ah (map iS [a,x,y,d,u,n]) (toNat 4))=true:=rfl;have f5:fits p9 (ah (map iS [a,x,y,d,u,n]) (toNat 5))=true:=rfl;have i0:decide ((0:Int)≤0∧0 < (([a,x,y,d,u,n]:List (List UInt8)).length:Int))=true:=decide_eq_true (by simp);have i1:decide ((0:Int)≤1∧1 < (([a,x,y,d,u,n]:List (List UInt8)).length:Int))=true:=decide_eq_true (by simp);have i2:decide ((0:Int)≤2∧2 < (([a,x,y,d,u,n]:List (List UInt8)).length:Int))=true:=decide_eq_true (by simp);have i3:decide ((0:Int)≤3∧3 < (([a,x,y,d,u,n]:List (List UInt8)).length:Int))=true:=decide_eq_true (by simp);have i4:decide ((0:Int)≤4∧4 < (([a,x,y,d,u,n]:List (List UInt8)).length:Int))=true:=decide_eq_true (by simp);have i5:decide ((0:Int)≤5∧5 < (([a,x,y,d,u,n]:List (List UInt8)).length:Int))=true:=decide_eq_true (by simp);obtain ⟨vx,t1,e1⟩:=Ac hN x (by have:=hw x (by simp); omega);obtain ⟨vy,t2,e2⟩:=Ac hN y (by have:=hw y (by simp); omega);obtain ⟨vn,t3,e3⟩:=Ac hN n (by have:=hw n (by simp); omega);have hO:(bif !(a == ([97,116]:List UInt8)) then some true else bif !(d == ([114,105,103,104,116]:List UInt8)) then (bif !(d == ([108,101,102,116]:List UInt8)) then some true else (bif !(u == ([117,112]:List UInt8)) then some (!(u == ([100,111,119,110]:List UInt8))) else some false)) else (bif !(u == ([117,112]:List UInt8)) then some (!(u == ([100,111,119,110]:List UInt8))) else some false))=some (!decide (a=Zp∧(d=vj∨d=KT)∧(u=wO∨u=KU))):=by
    unfold Zp vj KT wO KU;simp only [Fl];by_cases ha:a=[97,116] <;> by_cases hd:d=[114,105,103,104,116] <;> by_cases VO:d=[108,101,102,116] <;> by_cases hu:u=[117,112] <;> by_cases UF:u=[100,111,119,110] <;> simp [ha,hd,VO,hu,UF]
   simp only [l6,cond_false,d0,d1,lD,ahA,ahB,ahC,f0,f1,f2,f3,f4,f5,i0,i1,i2,i3,i4,i5,aae,cond_true,t1,t2,t3,aab];rw [hO,aab];have Mm:uc [a,x,y,d,u,n]=if a=Zp∧(d=vj∨d=KT)∧(u=wO∨u=KU) then (match jO x,jO y,jO n with
     |some x,some y,some n=>some (x,y,d == vj,u == wO,n)
     |_,_,_=>none) else none:=rfl
   by_cases hg:a=Zp∧(d=vj∨d=KT)∧(u=wO∨u=KU)
   ·have hr:uc [a,x,y,d,u,n]=(match jO x,jO y,jO n with
     |some x,some y,some n=>some (x,y,d == vj,u == wO,n)
     |_,_,_=>none):=by rw [Mm,if_pos hg]
    rw [decide_eq_true hg,abT,cond_false,hr];cases hx:jO x with
    |none=>exact ⟨_,rfl,fun c' h=>by cases h⟩
    |some x'=>
     cases hy:jO y with
     |none=>exact ⟨_,rfl,fun c' h=>by cases h⟩
     |some y'=>
      cases hn:jO n with
      |none=>exact ⟨_,rfl,fun c' h=>by cases h⟩
      |some n'=>
       refine ⟨_,rfl,fun c' h=>?_⟩;have h:=aa3 h;rw [← h,e1 x' hx,e2 y' hy,e3 n' hn];rfl
   ·have hr:uc [a,x,y,d,u,n]=none:=by rw [Mm,if_neg hg]
    rw [decide_eq_false hg,acU,cond_true,hr];exact ⟨_,rfl,fun c' h=>by cases h⟩
  ·have l6:(((W.length:Nat):Int) != 6)=true:=bne_iff_ne.2 (by omega);have hr:uc W=none:=by
    unfold uc;split
    ·exact absurd rfl h6
    ·rfl
   rw [hr];refine ⟨(0,0,false,false,0),?_,fun c' h=>by cases h⟩;simp only [l6,cond_true,aab];rfl
 ·have e:((((s.getD (s.length - 1) 0).toNat:Nat):Int) != 10)=true:=bne_iff_ne.2 (by omega);rw [if_neg hl];refine ⟨(0,0,false,false,0),?_,fun c' h=>by cases h⟩;rw [e];rfl
end Go.Proofs.YtldcljfjjoidhaaGreatDoor
namespace Go.Proofs.YtldcljfjjoidhaaGreatDoor
open Go Go.Am Go.Sort
open List (map)
open Int (toNat)
open Go.IntKind (wrap)
open Go.Am.aP (fits)
set_option maxRecDepth 100000
end Go.Proofs.YtldcljfjjoidhaaGreatDoor
namespace Go.Proofs.YtldcljfjjoidhaaGreatDoor
open Go Go.Am Go.Sort
open List (map)
open Int (toNat)
open Go.IntKind (wrap)
open Go.Am.aP (fits)
set_option maxRecDepth 100000
noncomputable def qB:List (List UInt8)→List bQ→Nat→(Unit × Int × Int) ⊕ List bQ
 |[],out,_=>.inr out
 |s :: t,out,i=>match OZ s with
  |none=>.inl ((),(i:Int),25)
  |some c=>if i≥256 then .inl ((),(i:Int),5) else if jN out c=0 then qB t (out++[c]) (i+1) else .inl ((),(i:Int),jN out c)
noncomputable def Fm (L:List (List UInt8)):List bQ × Int × Int:=Sum.elim (fun o=>([],o.2.1,o.2.2)) (fun o=>(o,0,0)) (qB L [] 0)
theorem BY:∀ (s:List UInt8),∀ w∈cR s,w≠[]∧w.length≤s.length
 |[],w,h=>by cases h
 |b :: l,w,h=>by
  rw [cR] at h;have ih:=BY l;rw [aai];split at h
  ·rcases ab1.1 h with rfl|h
   ·simp
   ·obtain ⟨h1,h2⟩:=ih w h;exact ⟨h1,by omega⟩
  ·unfold vh at h;rw [if_neg (by simp)] at h;cases hl:cR l with
   |nil=>
    rw [hl] at h;have h:w∈[[b]]:=h;rw [abU] at h;subst h;simp
   |cons x xs=>
    rw [hl] at h ih;rcases ab1.1 h with rfl|h
    ·have:=ih x (by simp);exact ⟨by simp,by show ([b]++x).length≤_; rw [aag,aah]; omega⟩
    ·obtain ⟨h1,h2⟩:=ih w (abI _ h);exact ⟨h1,by omega⟩
theorem oO:∀ (s:List UInt8),(cR s).length≤s.length
 |[]=>aaF _
 |b :: l=>by
  have ih:=oO l;rw [cR,aai];split
  ·rw [aai]; omega
  ·unfold vh;rw [if_neg (by simp)];cases hl:cR l with
   |nil=>show 1≤_; omega
   |cons x xs=>rw [hl] at ih; exact Nat.le_succ_of_le ih
theorem T9 {p:List bQ} {c:bQ} (h:jN p c=0):cP c=0:=by
 have h1:dz c=0:=by
  apply acY;intro hc;unfold jN at h;rw [if_neg hc] at h;exact hc h
 apply acY;intro hc;unfold dz at h1;rw [if_neg hc] at h1;exact hc h1
section
variable {N:Nat} (hN:eE N)
include hN
theorem O0 (L:List (List UInt8)) (hL:∀ w∈L,w≠[]∧w.length≤1000000) (hl:L.length≤1000000):∀ (rest:List (List UInt8)) (out:List bQ) (i n:Nat),L.drop i=rest→out.length=i→(∀ c∈out,cP c=0)→rest.length < n →
  ay (gZ N L) n (out,(i:Int))=some (qB rest out i):=by
 intro rest
 induction rest with
 |nil=>
  intro out i n hd ho hc hn;obtain ⟨n,rfl⟩:∃ k,n=k+1:=⟨n - 1,by omega⟩;have lM:decide ((i:Int) < ((L.length:Nat):Int))=false:=decide_eq_false (by
   have:=List.drop_eq_nil_iff.1 hd;omega)
  rw [bE];simp only [gZ,aac,lM,cond_false,qd,qe,aad,cond_true,decide_true,aab,aa8];rfl
 |cons s t ih=>
  intro out i n hd ho hc hn;obtain ⟨n,rfl⟩:∃ k,n=k+1:=⟨n - 1,by omega⟩;have hi:i < L.length:=by
   have:=congrArg List.length hd;rw [ab2,aai] at this;omega
  have es:L[i]=s:=by
   have:=congrArg (fun l=>l[0]?) hd;simp only [List.getElem?_drop,Nat.add_zero,List.getElem?_cons_zero] at this;rw [aap hi] at this;exact aa3 this
  have Jx:L.drop (i+1)=t:=by
   have:=congrArg List.tail hd;rw [List.tail_drop] at this;exact this
  obtain ⟨a1,a2⟩:=at9 L hi;rw [es] at a1;obtain ⟨Fu,hs2⟩:=hL s (by rw [← es]; exact aby hi);obtain ⟨c,q1,q2⟩:=KE hN s hs2 Fu;rw [bE];have Zq:Oo N s=some (c,(OZ s).isSome):=q1;cases hr:OZ s with
  |none=>
   rw [hr] at Zq;have jz:gZ N L (out,(i:Int))=some (.inr (.inl ((),(i:Int),25))):=by
    have n25:((25:Int) != 0)=true:=rfl;simp only [gZ,aac,aX hi,aO hi,aaf,a1,a2,aae,cond_true,Zq,Option.isSome_none,acU,qd,qe,aad,decide_true,aab,n25]
   rw [jz,aab,aa8,qB,hr]
  |some c'=>
   have ecc:=q2 c' hr;subst ecc;rw [hr] at Zq;by_cases Ad:i≥256
   ·have jz:gZ N L (out,(i:Int))=some (.inr (.inl ((),(i:Int),5))):=by
     have ahD:((5:Int) != 0)=true:=rfl;have d256:decide ((i:Int)≥256)=true:=decide_eq_true (by omega);simp only [gZ,aac,aX hi,aO hi,aaf,a1,a2,aae,cond_true,cond_false,Zq,Option.isSome_some,abT,d256,qd,qe,aad,decide_true,aab,ahD]
    rw [jz,aab,aa8,qB,hr];simp only [if_pos Ad]
   ·have d256:decide ((i:Int)≥256)=false:=decide_eq_false (by omega);have q3:=E9 hN out c hc (by omega);have q3':Hq N (out,(c.1,c.2.1,c.2.2.1,c.2.2.2.1,c.2.2.2.2))=some (jN out c):=q3;have hb:decide ((out.length+1) * 32≤140737488355328)=true:=decide_eq_true (by omega);have sn:map ey out++[AV.agg [AV.int .i64 c.1,AV.int .i64 c.2.1,AV.bool c.2.2.1,AV.bool c.2.2.2.1,AV.int .i64 c.2.2.2.2]]=map ey (out++[c]):=by rw [aa2]; rfl
    by_cases he:jN out c=0
    ·have jz:gZ N L (out,(i:Int))=some (.inl (out++[c],((i+1:Nat):Int))):=by
      simp only [gZ,aac,aX hi,aO hi,aaf,a1,a2,aae,cond_true,cond_false,Zq,Option.isSome_some,abT,d256,q3',he,bne_self_eq_false,hb,sn,qd,qe,aad,decide_true,aab,aag,aah,bp (show i < 9223372036854775807 by omega)]
     rw [jz,aab,acZ,ih (out++[c]) (i+1) n Jx (by rw [aag,ho]; rfl) (fun x hx=>by
      rcases List.mem_append.1 hx with hx|hx
      ·exact hc x hx
      ·rw [abU] at hx;subst hx;exact T9 he) (by rw [aai] at hn; omega)]
     conv=>rhs; rw [qB,hr]
     simp only [if_neg Ad,if_pos he]
    ·have jz:gZ N L (out,(i:Int))=some (.inr (.inl ((),(i:Int),jN out c))):=by
      have ne:(jN out c != 0)=true:=bne_iff_ne.2 he;simp only [gZ,aac,aX hi,aO hi,aaf,a1,a2,aae,cond_true,cond_false,Zq,Option.isSome_some,abT,d256,q3',ne,qd,qe,aad,decide_true,aab]
     rw [jz,aab,aa8,qB,hr];simp only [if_neg Ad,if_neg he]
theorem KF (s:List UInt8) (hs:s.length≤1000000):T36 N s=some (Fm (cR s)):=by
 have q:=HH hN s hs;have w:=O0 hN (cR s) (fun w hw=>by have:=BY s w hw; exact ⟨this.1,by omega⟩) (by have:=oO s; omega) (cR s) [] 0 N rfl rfl (fun c hc=>by cases hc) (by have:=oO s; unfold eE at hN; omega);have w:ay (gZ N (cR s)) N ([],0)=some (qB (cR s) [] 0):=w;have z:((bif (allFit (fits dS) ([]:List AV)) then some ((map cb ([]:List AV)),0) else none:Option (List bQ × Int)).bind fun Ht=>bif decide (0=Ht.1.length) then some Ht else none)=some ([],0):=rfl;have d0:decide (((s.length:Nat):Int) > 1000000)=false:=decide_eq_false (by omega);rw [Yk];simp only [d0,cond_false,q,aab,aad,aac,z,w,qd,qe,cond_true];unfold Fm;cases qB (cR s) [] 0 <;> rfl
end
end Go.Proofs.YtldcljfjjoidhaaGreatDoor
namespace Go.Proofs.YtldcljfjjoidhaaGreatDoor
open Go Go.Am Go.Sort
open List (map)
open Int (toNat)
open Go.IntKind (wrap)
open Go.Am.aP (fits)
set_option maxRecDepth 100000
end Go.Proofs.YtldcljfjjoidhaaGreatDoor
namespace Go.Proofs.YtldcljfjjoidhaaGreatDoor
open Go Go.Am Go.Sort
open List (map)
open Int (toNat)
open Go.IntKind (wrap)
open Go.Am.aP (fits)
set_option maxRecDepth 100000
end Go.Proofs.YtldcljfjjoidhaaGreatDoor
