/- The abstract machine: maps and ranges over strings on values with leaves. -/
import Derived.Test.YtldcljfjjoidhaaGreatDoorAmKI
set_option linter.all false
open Bool renaming and_eq_true→aad
open Classical renaming propDecidable→aaO
open List renaming length_append→abi, mem_cons_of_mem→abn, mem_cons_self→abo, nodup_nil→abr
open Nat renaming beq→aao, eq_of_beq_eq_true→aau, ble→aaB, min→aaY, ble_eq_true_of_le→abj, lt_or_ge→abu
open Option renaming isSome_iff_exists→abp
open Option.some renaming inj→abq
open Prod.mk renaming injEq→abt
namespace Go.Am
open Go
def NH (s:St) (dst:Option Tmp) (x:SV):Option (Bool × St × St):=match x with
 |.v (.ptr id 0)=>match nth s.G id with
  |some (.iI l pos)=>some (Nat.blt pos l.length,(s.cP (aG s.G id (.iI l (pos+(rF l pos).2)))).put dst (.v (.bu [.bool true,.int .i64 pos,.int .i32 (rF l pos).1])),s.put dst (.v (.bu [.bool false])))
  |_=>none
 |_=>none
theorem IA {s:St} {dst:Option Tmp} {x:SV} {b:Bool} {s1 s2:St} (h:NH s dst x=some (b,s1,s2)):nf s dst x=some (bif b then s1 else s2):=by
 unfold NH at h;split at h
 ·split at h
  ·rename_i l pos hg;cases h;simp only [nf,hg];cases Nat.blt pos l.length <;> rfl
  ·cases h
 ·cases h
theorem JU {e:EK} {k:AV}:∀ {es:List (AV × AV)},fI e k es=true→lx e k es=some (ma e k es)
 |[],_=>rfl
 |(k',v) :: l,h=>by
  simp only [fI,aad] at h;obtain ⟨b,hb⟩:=abp.1 h.1;simp only [lx,ma,yW,hb];cases b
  ·simp only [cond_false]; exact JU h.2
  ·rfl
theorem NI {e:EK} {k v:AV}:∀ {es:List (AV × AV)},fI e k es=true→vm e k v es=some (fJ e k v es)
 |[],_=>rfl
 |(k',v') :: l,h=>by
  simp only [fI,aad] at h;obtain ⟨b,hb⟩:=abp.1 h.1;simp only [vm,fJ,yW,hb];cases b
  ·simp only [cond_false,NI h.2]
  ·rfl
mutual
def aO.flat:aO→Bool
 |.int _=>true
 |.bool=>true
 |.str=>true
 |.agg ps=>ps.flat
 |.bF _ _ p=>p.flat
 |_=>false
def aQ.flat:aQ→Bool
 |.nil=>true
 |.cons p ps=>p.flat&&ps.flat
end
theorem FV {α:Type} {f:AV→Bool} {d:AV→α} {g:α→AV} (h:∀ a,f a=true→g (d a)=a):∀ {es:List AV},allFit f es=true→(es.map d).map g=es
 |[],_=>rfl
 |a :: l,hl=>by
  simp only [allFit,aad] at hl;rw [List.map_cons,List.map_cons,h a hl.1,FV h hl.2]
mutual
theorem aO.kJ:∀ {p:aO},p.flat=true→∀ {a:AV},p.fits a=true→p.enc (p.bC a)=a
 |.int k,_,a,h=>by
  cases a <;> first | (cases h; done) | skip
  have hk:XF _ _=true:=h;rw [Hr hk]; rfl
 |.bool,_,a,h=>by cases a <;> first | (cases h; done) | rfl
 |.str,_,a,h=>by cases a <;> first | (cases h; done) | rfl
 |.agg ps,hp,a,h=>by
  cases a <;> first | (cases h; done) | skip
  exact congrArg AV.agg (aQ.kJ (ps:=ps) hp h)
 |.bu _,hp,_,_=>by cases hp
 |.list _ _,hp,_,_=>by cases hp
 |.own _ _ _,hp,_,_=>by cases hp
 |.bF id sz p,hp,a,h=>by
  cases a <;> first | (cases h; done) | skip
  rename_i k bT es;cases k <;> first | (cases h; done) | skip
  rename_i kV j;simp only [aO.fits,aad] at h;have e1:=aau h.1.1;have e2:=aau h.1.2;subst e1 e2;have hp:p.flat=true:=hp;show AV.list (.bF id j) sz ((es.map p.bC).map p.enc)=_;rw [FV (fun a ha=>aO.kJ hp ha) h.2]
 |.dO _,hp,_,_=>by cases hp
 |.two _ _,hp,_,_=>by cases hp
theorem aQ.kJ:∀ {ps:aQ},ps.flat=true→∀ {l:List AV},ps.fits l=true→ps.enc (ps.bC l)=l
 |.nil,_,l,h=>by
  cases l with
  |nil=>rfl
  |cons _ _=>cases h
 |.cons p .nil,hp,l,h=>by
  simp only [aQ.flat,aad] at hp;cases l with
  |nil=>cases h
  |cons a l=>
   simp only [aQ.fits,aad] at h;cases l with
   |nil=>exact congrArg (fun x=>[x]) (aO.kJ hp.1 h.1)
   |cons _ _=>cases h.2
 |.cons p (.cons q ps),hp,l,h=>by
  rw [aQ.flat,aad] at hp;cases l with
  |nil=>cases h
  |cons a l=>
   rw [aQ.fits,aad] at h;have h1:=aO.kJ hp.1 h.1;have h2:=aQ.kJ (ps:=.cons q ps) hp.2 h.2;show p.enc (p.bC a) :: (aQ.cons q ps).enc ((aQ.cons q ps).bC l)=a :: l;rw [h1,h2]
end
def yx (E:Env) (s:St) (t:TypeId) (m k:SV):Option (Bool × AV × Bool):=match Wz E s.G t,E.ti t,mapOf s m,k with
 |some p,some i,some es,.v k=>match i.k with
  |.map kt _ (some z)=>match E.ti kt with
   |some j=>if j.ek.plain&&kr j.ek k&&p.flat then
     some (fI j.ek k es&&p.fits (dV j.ek k (E0 E s.G t z) es),p.enc (p.bC (dV j.ek k (E0 E s.G t z) es)),(ma j.ek k es).isSome)
    else none
   |none=>none
  |_=>none
 |_,_,_,_=>none
theorem uy {E:Env} {s:St} {t:TypeId} {m k:SV} {v:AV} {b:Bool} (h:yx E s t m k=some (true,v,b)):nb E s t m k=some (v,b):=by
 unfold yx at h;split at h
 ·rename_i p i es k h1 h2 h3;split at h
  ·rename_i kt et z hk;split at h
   ·rename_i j hj;split at h
    ·rename_i hc;simp only [aad] at hc;injection h with h;injection h with h4 h;injection h with h5 h6;rw [aad] at h4;rw [aO.kJ hc.2 h4.2] at h5;have e:lx j.ek k es=some (ma j.ek k es):=JU h4.1;have yl:(j.ek.plain&&kr j.ek k)=true:=by rw [hc.1.1,hc.1.2]; rfl
     have e0:n3 E s t m (.v k)=some ((ma j.ek k es).getD z,(ma j.ek k es).isSome):=by
      simp only [n3,h2,h3,hk,hj,yl,if_true,e];cases ma j.ek k es <;> rfl
     unfold nb;rw [e0];unfold dV at h5;cases hg:ma j.ek k es with
     |none=>
      rw [hg] at h5 h6;subst h5 h6;rfl
     |some v'=>
      rw [hg] at h5 h6;subst h5 h6;rfl
    ·cases h
   ·cases h
  ·cases h
 ·cases h
def yy (E:Env) (s:St) (t:TypeId) (m k x:SV):Option (Bool × St):=match E.ti t,m,k,x with
 |some i,.v (.map id),.v k,.v x=>match i.k,nth s.G id with
  |.map kt _ _,some (.map es)=>match E.ti kt with
   |some j=>if j.ek.plain&&kr j.ek k then some (fI j.ek k es,s.cP (aG s.G id (.map (fJ j.ek k x es)))) else none
   |none=>none
  |_,_=>none
 |_,_,_,_=>none
theorem uz {E:Env} {s s':St} {t:TypeId} {m k x:SV} (h:yy E s t m k x=some (true,s')):gr E s t m k x=some s':=by
 unfold yy at h;split at h
 ·rename_i i id k x h1;split at h
  ·rename_i kt _ _ es hk hg;split at h
   ·rename_i j hj;split at h
    ·rename_i hc;injection h with h;injection h with h4 h5;simp only [gr,h1,hk,hg,hj,hc,if_true,NI h4,h5]
    ·cases h
   ·cases h
  ·cases h
 ·cases h
def NJ (E:Env) (s:St) (dst:Option Tmp) (l:List AV) (tys:List TypeId):Option (Bool × St):=match l,tys with
 |[.lz id off sz len _,.str bs],t :: _=>match E.ti t,nth s.G id with
  |some i,some (.row cs el)=>match i.k with
   |.sl _ esz _ _ _=>if aao sz esz&&aao esz 1 then
     some (aaB (off+(bs.take (aaY bs.length len)).length) cs.length,
      (s.cP (aG s.G id (.row (cu cs off ((bs.take (aaY bs.length len)).map tM)) el))).put dst (.v (.int .i64 (aaY bs.length len))))
    else none
   |_=>none
  |_,_=>none
 |[.lz id off sz len _,.list _ bT es],t :: _=>match E.ti t,nth s.G id with
  |some i,some (.row cs el)=>match i.k with
   |.sl _ esz _ _ _=>if aao sz esz&&aao bT esz then
     some (aaB (off+(aq (es.take (aaY es.length len))).length) cs.length,
      (s.cP (aG s.G id (.row (cu cs off (aq (es.take (aaY es.length len)))) el))).put dst (.v (.int .i64 (aaY es.length len))))
    else none
   |_=>none
  |_,_=>none
 |[.dM id f off sz len,.list _ bT xs],t :: _=>match E.ti t,nth s.G id with
  |some i,some (.dv es szo el)=>match i.k with
   |.sl _ esz _ _ _=>if aao sz esz&&aao szo sz&&aao bT esz then
     some (decide (f=es.length)&&decide (off+aaY xs.length len≤es.length),
      (s.cP (aG s.G id (.dv (cu es off (xs.take (aaY xs.length len))) szo el))).put dst (.v (.int .i64 (aaY xs.length len))))
    else none
   |_=>none
  |_,_=>none
 |_,_=>none
theorem IB {E:Env} {s s':St} {dst:Option Tmp} {l:List AV} {tys:List TypeId} (h:NJ E s dst l tys=some (true,s')):bU E s dst .copy l tys=some (true,s'):=by
 unfold NJ at h;split at h
 ·rename_i id off sz len cap bs t ts;split at h
  ·rename_i i cs el hi hid;split at h
   ·rename_i a1 esz a2 a3 a4 hk;split at h
    ·rename_i hc;rw [aad] at hc;injection h with h;injection h with h1 h2;have xJ:(aao esz 1&&aaB (off+(bs.take (aaY bs.length len)).length) cs.length)=true:=by rw [hc.2,h1]; rfl
     simp only [bU,hi,hk,tN,hid,hc.1,if_true,xJ,h2]
    ·cases h
   ·cases h
  ·cases h
 ·rename_i id off sz len cap k bT es t ts;split at h
  ·rename_i i cs el hi hid;split at h
   ·rename_i a1 esz a2 a3 a4 hk;split at h
    ·rename_i hc;rw [aad] at hc;injection h with h;injection h with h1 h2;have e2:(aao bT esz || es.isEmpty)=true:=by rw [hc.2]; rfl
     simp only [bU,hi,hk,tN,hid,hc.1,if_true,e2,h1,h2]
    ·cases h
   ·cases h
  ·cases h
 ·rename_i id f off sz len k bT xs t ts;split at h
  ·rename_i i es szo el hi hid;split at h
   ·rename_i a1 esz a2 a3 a4 hk;split at h
    ·rename_i hc;rw [aad] at hc;injection h with h;injection h with h1 h2;rw [aad,decide_eq_true_eq,decide_eq_true_eq] at h1;obtain ⟨rfl,h1⟩:=h1;have e2:(aao sz esz&&aao szo sz&&(aao bT esz || xs.isEmpty)&&aaB es.length es.length&&aaB es.length es.length&&aaB (off+aaY xs.length len) es.length)=true:=by
      rw [hc.1,hc.2];simp only [Bool.true_or,Bool.true_and,aad];exact ⟨⟨abj (Nat.le_refl _),abj (Nat.le_refl _)⟩,abj h1⟩
     simp only [bU,hi,hk,tN,hid,e2,if_true,h2]
    ·cases h
   ·cases h
  ·cases h
 ·cases h
def yz (s:St) (dst:Option Tmp) (elem esz bR:Nat) (k:LK) (sz:Nat) (es ys:List AV):Option (Bool × St × Bool × St):=
 match k with
 |.nil=>some (ys.isEmpty,s.put dst (.v (.list .nil sz es)),decide ((es.length+ys.length) * bR≤140737488355328),
   (s.cP (s.G++[.tok (es.length+ys.length) esz elem])).put dst (.v (.list (.own s.G.length) esz (es++ys))))
 |.full=>if aao sz esz then some (ys.isEmpty,s.put dst (.v (.list .full sz es)),decide ((es.length+ys.length) * bR≤140737488355328),
   (s.cP (s.G++[.tok (es.length+ys.length) esz elem])).put dst (.v (.list (.own s.G.length) esz (es++ys)))) else none
 |.own id=>match nth s.G id with
  |some (.tok f bT e')=>if aao bT esz&&aao e' elem&&aao sz esz then
    some (false,s,decide (f=es.length)&&decide ((es.length+ys.length) * bR≤140737488355328),
     (s.cP (MF s.G id ys.length f esz elem)).put dst (.v (.list (.own id) esz (es++ys)))) else none
  |_=>none
 |.bF id j=>match nth s.G id with
  |some (.bF fs bT e')=>if aao bT esz&&aao e' elem&&aao sz esz then
    some (ys.isEmpty,s.put dst (.v (.list (.bF id j) sz es)),RN fs j es.length&&decide ((es.length+ys.length) * bR≤140737488355328),
     (s.cP (aG s.G id (.bF (KS fs j (es.length+ys.length)) esz elem))).put dst (.v (.list (.bF id j) esz (es++ys)))) else none
  |_=>none
 |.lM=>none
def D7 (s:St) (dst:Option Tmp) (elem esz bR id f off sz len:Nat) (ys:List AV):Option (Bool × St × Bool × St):=match nth s.G id with
 |some (.dv es bT e')=>if aao bT esz&&aao e' elem&&aao sz esz then
   some (false,s,decide (f=es.length)&&decide (off=0)&&decide (len=f)&&decide ((es.length+ys.length) * bR≤140737488355328),
    (s.cP (aG s.G id (.dv (es++ys) esz elem))).put dst (.v (.dM id (es.length+ys.length) 0 esz (es.length+ys.length)))) else none
 |_=>none
def D8 (E:Env) (s:St) (dst:Option Tmp) (l:List AV) (tys:List TypeId):Option (Bool × St × Bool × St):=match l,tys with
 |[.list k sz es,.list _ bT ys],[t,u]=>match E.ti t with
  |some i=>match i.k with
   |.sl elem esz _ bR (some z)=>
    if aao bT esz&&aao t u&&aaB 1 esz&&aaB 1 bR&&aao z.cells.length esz&&z.ba then
     yz s dst elem esz bR k sz es ys
    else none
   |_=>none
  |none=>none
 |[.dM id f off sz len,.list _ bT ys],[t,u]=>match E.ti t with
  |some i=>match i.k with
   |.sl elem esz _ bR (some z)=>
    if aao bT esz&&aao t u&&aaB 1 esz&&aaB 1 bR&&aao z.cells.length esz&&z.ba then D7 s dst elem esz bR id f off sz len ys else none
   |_=>none
  |none=>none
 |[.list k sz es,.str bs],[t,u]=>match E.ti t,E.ti u with
  |some i,some j=>match i.k,j.k with
   |.sl elem esz _ bR (some z),.str=>
    if aao esz 1&&aaB 1 bR&&aao z.cells.length esz&&z.ba then yz s dst elem esz bR k sz es (bs.map tM) else none
   |_,_=>none
  |_,_=>none
 |_,_=>none
theorem uA {s s1 s2:St} {dst:Option Tmp} {elem esz bR:Nat} {k:LK} {sz:Nat} {es ys:List AV} {b c:Bool} (h:yz s dst elem esz bR k sz es ys=some (b,s1,c,s2)) (hc:b=false→c=true) :
  ∃ v G',ik s.G elem esz bR (.list k sz es) ys=some (true,v,G')∧(s.cP G').put dst (.v v)=bif b then s1 else s2:=by
 unfold yz at h;cases k with
 |nil=>
  cases h;cases ys with
  |nil=>exact ⟨_,_,rfl,rfl⟩
  |cons y ys=>
   have hc:=hc rfl;exact ⟨_,_,by simp only [ik,hc],rfl⟩
 |full=>
  simp only at h;cases hs:aao sz esz with
  |false=>rw [hs] at h; cases h
  |true=>
   rw [hs] at h;cases h;cases ys with
   |nil=>exact ⟨_,_,rfl,rfl⟩
   |cons y ys=>
    have hc:=hc rfl;exact ⟨_,_,by simp only [ik,hs,if_true,hc],rfl⟩
 |own id=>
  simp only at h;split at h
  ·rename_i f bT e' hg;split at h
   ·rename_i c8;cases h;have hc:=hc rfl;cases ys with
    |nil=>
     simp only [aad] at c8;have e1:=aau c8.1.1;have e2:=aau c8.1.2;have e3:=aau c8.2;subst e1; subst e2; subst e3;refine ⟨_,_,rfl,?_⟩;simp only [cond_false,MF,List.length_nil,Nat.add_zero,kA hg,List.append_nil]
    |cons y ys=>exact ⟨_,_,by simp only [ik,hg,c8,if_true,hc],rfl⟩
   ·cases h
  ·cases h
 |bF id j=>
  simp only at h;split at h
  ·rename_i fs bT e' hg;split at h
   ·rename_i c8;cases h;cases ys with
    |nil=>exact ⟨_,_,rfl,rfl⟩
    |cons y ys=>
     have hc:=hc rfl;exact ⟨_,_,by simp only [ik,hg,c8,if_true,hc],rfl⟩
   ·cases h
  ·cases h
 |lM=>cases h
theorem D9 {s s1 s2:St} {dst:Option Tmp} {elem esz bR id f off sz len:Nat} {ys:List AV} {b c:Bool} (h:D7 s dst elem esz bR id f off sz len ys=some (b,s1,c,s2)) (hc:b=false→c=true) :
  ∃ v G',ik s.G elem esz bR (.dM id f off sz len) ys=some (true,v,G')∧(s.cP G').put dst (.v v)=bif b then s1 else s2:=by
 unfold D7 at h;split at h
 ·rename_i es bT e' hg;split at h
  ·rename_i c8;cases h;have hc:=hc rfl;cases ys with
   |nil=>
    simp only [aad,decide_eq_true_eq] at hc c8;have e1:=aau c8.1.1;have e2:=aau c8.1.2;have e3:=aau c8.2;obtain ⟨⟨⟨h1,h2⟩,h3⟩,_⟩:=hc;subst e1; subst e2; subst e3; subst h1; subst h2; subst h3;refine ⟨_,_,rfl,?_⟩;simp only [cond_false,List.length_nil,Nat.add_zero,kA hg,List.append_nil]
   |cons y ys=>exact ⟨_,_,by simp only [ik,hg,c8,if_true,hc],rfl⟩
  ·cases h
 ·cases h
theorem Ea {E:Env} {s s1 s2:St} {dst:Option Tmp} {l:List AV} {tys:List TypeId} {b c:Bool} (h:D8 E s dst l tys=some (b,s1,c,s2)) (Mw:b=false→c=true):bU E s dst .append l tys=some (true,bif b then s1 else s2):=by
 unfold D8 at h;split at h
 ·rename_i k sz es k' bT ys t u;split at h
  ·rename_i i hi;split at h
   ·rename_i elem esz a1 bR z hk;split at h
    ·rename_i hc;have yl:((aao bT esz || ys.isEmpty)&&aao t u&&aaB 1 esz&&aaB 1 bR&&aao z.cells.length esz&&z.ba)=true:=by
      simp only [aad] at hc ⊢;obtain ⟨⟨⟨⟨⟨c1,c2⟩,c3⟩,c4⟩,c5⟩,c6⟩:=hc;exact ⟨⟨⟨⟨⟨by rw [c1]; rfl,c2⟩,c3⟩,c4⟩,c5⟩,c6⟩
     obtain ⟨v,G',h1,h2⟩:=uA h Mw;simp only [bU,hi,hk,yl,if_true,h1,h2]
    ·cases h
   ·cases h
  ·cases h
 ·rename_i id f off sz len k' bT ys t u;split at h
  ·rename_i i hi;split at h
   ·rename_i elem esz a1 bR z hk;split at h
    ·rename_i hc;have yl:((aao bT esz || ys.isEmpty)&&aao t u&&aaB 1 esz&&aaB 1 bR&&aao z.cells.length esz&&z.ba)=true:=by
      simp only [aad] at hc ⊢;obtain ⟨⟨⟨⟨⟨c1,c2⟩,c3⟩,c4⟩,c5⟩,c6⟩:=hc;exact ⟨⟨⟨⟨⟨by rw [c1]; rfl,c2⟩,c3⟩,c4⟩,c5⟩,c6⟩
     obtain ⟨v,G',h1,h2⟩:=D9 h Mw;simp only [bU,hi,hk,yl,if_true,h1,h2]
    ·cases h
   ·cases h
  ·cases h
 ·rename_i k sz es bs t u;split at h
  ·rename_i i j hi hj;split at h
   ·rename_i elem esz a1 bR z hk hjk;split at h
    ·rename_i hc;obtain ⟨v,G',h1,h2⟩:=uA h Mw;simp only [bU,hi,hj,hk,hjk,hc,if_true,h1,h2]
    ·cases h
   ·cases h
  ·cases h
 ·cases h
end Go.Am
namespace Go.Am
open Go
def YC (E:Env) (cut wk:Bool) (t:TypeId) (r:AV) (G:List GO):Option (Bool × AV × List GO):=match r with
 |.dM id f 0 sz len=>match nth G id,E.ti t with
  |some (.dv es bT _),some i=>match i.k with
   |.sl _ esz _ _ _=>if aao esz sz&&aao bT sz then
     bif cut then some (decide (f=es.length)&&decide (len≤es.length)&&bg (Cf wk es),.list .lM sz (Cf wk (es.take len)),aG G id .dead)
     else some (decide (f=es.length)&&decide (len=es.length)&&bg (Cf wk es),.list .lM sz (Cf wk es),aG G id .dead)
    else none
   |_=>none
  |_,_=>none
 |.lz id 0 sz len _=>match nth G id,E.ti t,E.RM t with
  |some (.row cs _),some i,some p=>match i.k with
   |.sl _ esz agg _ _=>if aao esz sz&&aaB 1 sz&&(agg || aao sz 1)&&p.under 0 then
     some (aao cs.length (len * sz)&&allFit (fun e=>p.fits e&&e.ba&&(agg || e.one)) (jd agg sz len cs),.list .lM sz ((jd agg sz len cs).map fun e=>p.enc (p.bC e)),aG G id .dead)
    else none
   |_=>none
  |_,_,_=>none
 |.agg cs=>match n5 wk cs G with
  |(c,cs',G')=>some (c,.agg cs',G')
 |.ptr id 0=>match nth G id with
  |some (.row cs _)=>some (bg cs,.ep cs,aG G id .dead)
  |_=>none
 |_=>none
def Ak (E:Env) (cut wk:Bool):List TypeId→List AV→List GO→Bool × List AV × List GO
 |t :: ts,r :: rs,G=>match YC E cut wk t r G with
  |some (c,r',G')=>match Ak E cut wk ts rs G' with
   |(c',NK,CO)=>(c&&c',r' :: NK,CO)
  |none=>match Ak E cut wk ts rs G with
   |(c',NK,CO)=>(c',r :: NK,CO)
 |_,rs,G=>(true,rs,G)
def YD {X:Type} (E:Env) (cut wk:Bool) (ts:List TypeId) (K:AV→List GO→Option X) (r:AV) (G:List GO):Option X:=match r with
 |.bu rs=>match Ak E cut wk ts rs G with
  |(c,NK,G')=>bif c then K (.bu NK) G' else none
 |r=>match Ak E cut wk ts [r] G with
  |(c,[r'],G')=>bif c then K r' G' else none
  |_=>none
section
variable {E:Env} {R:ak} {w:World}
theorem Al {R:ak} {b:Nat} (hI:∀ o,R.I b o):∀ {cs:List AV} {vs:List Value} {o:Nat},aP R w cs vs→(∀ v∈vs,v.oneCell'=true)→(∀ (j:Nat) (v:Value),vs[j]?=some v→w.cell? ⟨b,o+j,none⟩=some v)→fk R w b o cs
 |[],_,o,_,_,_=>.nil
 |a :: cs,_,o,.cons h t,h1,hc=>.cons (hc 0 _ rfl) (h1 _ (by simp)) (hI o) h (Al hI t (fun v hv=>h1 v (by simp [hv])) fun j v hj=>by
   have:=hc (j+1) v (by simpa using hj);rwa [show o+(j+1)=o+1+j by omega] at this)
theorem An {R:ak} {b:Nat} {p:aO} {agg:Bool} {sz:Nat} (hI:∀ o,R.I b o) (hp:p.under 0=true) (gi:(agg || aao sz 1)=true) (ag6:1≤sz):∀ (n:Nat) {cs:List AV} {vs:List Value} {o:Nat},aP R w cs vs→(∀ v∈vs,v.oneCell'=true)→cs.length=n * sz →
  (∀ (j:Nat) (v:Value),vs[j]?=some v→w.cell? ⟨b,o+j,none⟩=some v)→allFit (fun e=>p.fits e&&e.ba&&(agg || e.one)) (jd agg sz n cs)=true→iu R w b o sz ((jd agg sz n cs).map fun e=>p.enc (p.bC e))
 |0,_,_,_,_,_,_,_,_=>.nil
 |n+1,cs,vs,o,h,h1,hl,hc,hf=>by
  simp only [jd,allFit,aad] at hf;obtain ⟨⟨⟨MV,hf2⟩,hf4⟩,hf3⟩:=hf;have hlen:=h.length;have hle:sz≤cs.length:=by rw [hl,Nat.succ_mul]; omega
  have dk:=p.dL MV;have nG:(mkD agg (cs.take sz)).cells=cs.take sz:=by
   cases agg with
   |true=>rfl
   |false=>
    have WE:sz=1:=by simpa using gi
    subst WE
    match cs,hle with
    |a :: cs,_=>
     show AV.cells a=[a];have ho:a.one=true:=by simpa [mkD,fH] using hf4
     cases a <;> first | rfl | simp [AV.one] at ho
  have hw:=dk.cells hf2;rw [nG] at hw;have hA:fk R w b o (cs.take sz):=Al hI (h.take sz) (fun v hv=>h1 v (List.mem_of_mem_take hv)) fun j v hj=>hc j v (by
   rw [List.getElem?_take] at hj;split at hj
   ·exact hj
   ·cases hj)
  refine .cons (by rw [← hw.length,List.length_take,Nat.min_eq_left hle]) (by rw [dk.bu]; exact hf2) (nJ (p.eK _ hp)) (hw.ML hA) ?_;exact An hI hp gi ag6 n (h.drop sz) (fun v hv=>h1 v (List.mem_of_mem_drop hv)) (by rw [List.length_drop,hl,Nat.succ_mul]; omega) (fun j v hj=>by
   rw [List.getElem?_drop] at hj;have:=hc _ _ hj;rwa [show o+(sz+j)=o+sz+j by omega] at this) hf3
theorem Sr {cut wk:Bool} {t:TypeId} {r r':AV} {G G':List GO} {c:Value} (hg:eI E R w G) (hr:Rel R w r c) (h:YC E cut wk t r G=some (true,r',G')) :
  ∃ R',eI E R' w G'∧Rel R' w r' c∧Ext R w R' w∧R'.obj=R.obj∧∀ b o,R'.I b o→R.I b o∨Live R b:=by
 unfold YC at h;split at h
 ·rename_i id f sz len;obtain ⟨ro,ca⟩:∃ ro,nth R.obj id=some ro:=by
   cases hr with
   |jX q _=>exact ⟨_,q⟩
   |dM q _ _=>exact ⟨_,q⟩
  split at h
  ·rename_i es bT el i hid hi;split at h
   ·split at h
    ·rename_i hc;rw [aad] at hc;have q1:=aau hc.2;subst q1;cases cut with
     |true=>
      simp only [cond_true] at h;injection h with h; injection h with h1 h; injection h with h2 h3;subst h2 h3;rw [aad,aad,decide_eq_true_eq,decide_eq_true_eq] at h1;obtain ⟨h1,jN⟩:=h1;obtain ⟨R',r1,r2,r3,r4,r5⟩:=pj (wk:=wk) hg hid h1.1 h1.2 jN ca;exact ⟨R',r1,r5 c hr,r2,r3,fun b o hi=>(r4 b o hi).imp_right fun hb=>⟨id,ro,ca,hb⟩⟩
     |false=>
      simp only [cond_false] at h;injection h with h; injection h with h1 h; injection h with h2 h3;subst h2 h3;rw [aad,aad,decide_eq_true_eq,decide_eq_true_eq] at h1;obtain ⟨h1,jN⟩:=h1;obtain ⟨R',r1,r2,r3,r4,r5⟩:=pj (wk:=wk) hg hid h1.1 (Nat.le_of_eq h1.2) jN ca;have r6:=r5 c hr;rw [h1.2,List.take_length] at r6;exact ⟨R',r1,r6,r2,r3,fun b o hi=>(r4 b o hi).imp_right fun hb=>⟨id,ro,ca,hb⟩⟩
    ·cases h
   ·cases h
  ·cases h
 ·rename_i id sz len cap;split at h
  ·rename_i cs i p hid hi hp;split at h
   ·rename_i el esz agg eb z hk;split at h
    ·rename_i hc;simp only [aad] at hc;injection h with h;injection h with h1 h;injection h with h2 h3;subst h2 h3;rw [aad] at h1;cases hr with
     | @lz _ _ _ _ _ b hb jK=>
     obtain ⟨vs,k1,k2,k3,k4⟩:=hg.obj id _ _ hid hb;have Fc:Live R b:=⟨id,_,hb,rfl⟩;have e:=rL R w b;have bY:=bo k1;refine ⟨R.all b,⟨by show R.obj.length=_; rw [jr]; exact hg.len,fun kV go ro q1 q2=>?_,hg.inj,fun b' o ho=>?_,fun g cs sU=>(hg.cw g cs sU).mono e,hg.lo⟩,?_,e,rfl,fun b' o ho=>?_⟩
     ·rcases dW q1 with ⟨rfl,rfl,_⟩|⟨cK,q1⟩
      ·have:ro=.ck b:=abq (q2.symm.trans hb);subst this;exact bY
      ·refine (hg.obj kV go ro q1 q2).mono e (fun _ _=>rfl) (fun b' o ka ho=>?_);rcases ho with ho|ho
       ·exact ho
       ·subst ho;exact absurd (hg.inj id kV _ _ b' hb q2 rfl ka) cK
     ·rcases ho with ho|ho
      ·exact hg.wf b' o ho
      ·subst ho; exact bY
     ·refine Rel.list (An (R:=R.all b) (fun o=>Or.inr rfl) hc.2 hc.1.2 (Nat.le_of_ble_eq_true hc.1.1.2) len (k2.mono e) k3 (aau h1.1) (fun j v hj=>?_) h1.2) ?_ jK trivial
      ·simp only [World.cell?,k1];simpa using hj
      ·rw [List.length_map];have:∀ (n:Nat) (l:List AV),(jd agg sz n l).length=n:=by
        intro n
        induction n with
        |zero=>intro l; rfl
        |succ n ih=>intro l; simp [jd,ih]
       rw [this]
     ·rcases ho with ho|ho
      ·exact .inl ho
      ·subst ho; exact .inr Fc
    ·cases h
   ·cases h
  ·cases h
 ·rename_i cs;cases h2:n5 wk cs G with
  |mk c' q=>
  obtain ⟨cs',G2⟩:=q;rw [h2] at h;injection h with h; injection h with h1 h; injection h with h3 h4;subst h1 h3 h4;cases hr with
  |agg hr xJ=>
  obtain ⟨R',r1,r2,r3,r4,r5⟩:=uj hg hr h2;exact ⟨R',r1,.agg r2 xJ,r3,r4,r5⟩
 ·-- an object's cells never change again
  rename_i id;split at h
  ·rename_i cs el hid;injection h with h; injection h with h1 h; injection h with h2 h3;subst h2 h3;cases hr with
   | @ptr _ _ b ca=>
   obtain ⟨vs,b1,b2,b3,b4⟩:=hg.obj id _ _ hid ca;have r2:=rL R w b;have r1:=hg.freeze ca rfl (show iP (R.all b) w .dead (.ck b) from bo b1);refine ⟨R.all b,r1,Rel.ep (fk.make (b2.mono r2) b3 (fun j v hv=>?_) (fun j _=>.inr rfl)),r2,rfl,fun b' o hi=>?_⟩
   ·rw [kC b1,Nat.zero_add];exact hv
   ·rcases hi with hi|rfl
    ·exact .inl hi
    ·exact .inr ⟨id,_,ca,rfl⟩
  ·cases h
 ·cases h
theorem yA {cut wk:Bool}:∀ {ts:List TypeId} {rs NK:List AV} {G G':List GO} {cs:List Value} {R:ak},eI E R w G→aP R w rs cs→Ak E cut wk ts rs G=(true,NK,G') →
  ∃ R',eI E R' w G'∧aP R' w NK cs∧Ext R w R' w∧R'.obj=R.obj∧∀ b o,R'.I b o→R.I b o∨Live R b
 |[],rs,NK,G,G',cs,R,hg,hr,h=>by
  cases rs <;> (simp only [Ak] at h; cases h; exact ⟨R,hg,hr,Ext.refl R w,rfl,fun _ _ h=>.inl h⟩)
 |_ :: _,[],NK,G,G',cs,R,hg,hr,h=>by
  simp only [Ak] at h; cases h; exact ⟨R,hg,hr,Ext.refl R w,rfl,fun _ _ h=>.inl h⟩
 |t :: ts,r :: rs,NK,G,G',cs,R,hg,hr,h=>by
  cases hr with
  |cons h0 hr=>
  unfold Ak at h;split at h
  ·rename_i c r' G1 h1;cases h2:Ak E cut wk ts rs G1 with
   |mk c' q=>
   obtain ⟨rs2,G2⟩:=q;rw [h2] at h;simp only [abt,aad] at h;obtain ⟨⟨rfl,rfl⟩,rfl,rfl⟩:=h;obtain ⟨R1,a1,a2,a3,a4,a5⟩:=Sr hg h0 h1;obtain ⟨R2,b1,b2,b3,b4,b5⟩:=yA a1 (hr.mono a3) h2;refine ⟨R2,b1,.cons (a2.mono b3) b2,a3.trans b3,b4.trans a4,fun b o ho=>?_⟩;rcases b5 b o ho with ho|ho
   ·exact a5 b o ho
   ·obtain ⟨id,ro,q1,q2⟩:=ho;rw [a4] at q1;exact .inr ⟨id,ro,q1,q2⟩
  ·cases h2:Ak E cut wk ts rs G with
   |mk c' q=>
   obtain ⟨rs2,G2⟩:=q;rw [h2] at h;simp only [abt] at h;obtain ⟨rfl,rfl,rfl⟩:=h;obtain ⟨R2,b1,b2,b3,b4,b5⟩:=yA hg hr h2;exact ⟨R2,b1,.cons (h0.mono b3) b2,b3,b4,b5⟩
theorem cO.frz {g:FuncId} {args:List AV} {G:List GO} {X:Type} {cut wk:Bool} {ts:List TypeId} {K:AV→List GO→Option X} {x:X} (h:cO E g args G (fun r G'=>YD E cut wk ts K r G'=some x)):cO E g args G (fun r G'=>K r G'=some x):=
 ⟨h.1,fun R w cs hg hl=>(h.2 R w cs hg hl).mono fun e w' he=>by
  cases e with
  |panicked c=>exact he.elim
  |outgrown=>exact he.elim
  |returned c=>
   obtain ⟨r,G',R1,hq,fF,Sq,st⟩:=he;have fin:∀ (r':AV) (G2:List GO) (R2:ak),K r' G2=some x→eI E R2 w' G2→Rel R2 w' r' c→Ext R1 w' R2 w'→R2.obj=R1.obj→(∀ b o,R2.I b o→R1.I b o∨Live R1 b)→JG E R w (fun r G'=>K r G'=some x) (.returned c) w':=by
    intro r' G2 R2 k1 k2 k3 k4 k5 k6;have live:∀ b,Live R2 b→Live R1 b:=fun b ⟨id,ro,q1,q2⟩=>⟨id,ro,by rw [← k5]; exact q1,q2⟩
    refine ⟨r',G2,R2,k1,k3,k2,⟨st.ext.trans k4,st.os,st.tape,st.output,st.size,st.bJ,fun b hb ho=>?_,fun b o hi hb hn=>?_⟩⟩
    ·rcases ho with ho|⟨k,cs,hk,rfl⟩
     ·exact st.own b hb (.inl (live b ho))
     ·simp [gy,eF] at hk
    ·rcases k6 b o hi with hi|hi
     ·exact st.im b o hi hb hn
     ·exact absurd (st.own b hb (.inl hi)) hn
   unfold YD at hq;split at hq
   ·rename_i rs;cases fF with
    |bu fF=>
    cases h2:Ak E cut wk ts rs G' with
    |mk c' q=>
    obtain ⟨rs2,G2⟩:=q;rw [h2] at hq;cases c' with
    |false=>cases hq
    |true=>
     obtain ⟨R2,b1,b2,b3,b4,b5⟩:=yA Sq fF h2;exact fin (.bu rs2) G2 R2 hq b1 (.bu b2) b3 b4 b5
   ·split at hq
    ·rename_i c' r' G2 h2;cases c' with
     |false=>cases hq
     |true=>
      obtain ⟨R2,b1,b2,b3,b4,b5⟩:=yA Sq (.cons fF .nil) h2;cases b2 with
      |cons b2 _=>exact fin r' G2 R2 hq b1 b2 b3 b4 b5
    ·cases hq⟩
end
end Go.Am
namespace Go.Am
open Go
inductive RP
 |W1 (p:aO)
 |map (pe:aO)
 |ep (ps:aQ)
def RP.T:RP→Type
 |.W1 p=>p.T
 |.map pe=>List pe.T
 |.ep ps=>ps.T
def RP.enc (n:Nat):(p:RP)→p.T→AV
 |.W1 p,x=>p.enc x
 |.map _,_=>.map n
 |.ep ps,x=>.ep (ps.enc x)
def RP.IC:(p:RP)→p.T→List GO
 |.W1 _,_=>[]
 |.map pe,(x:List pe.T)=>[.map (ar (x.map pe.enc))]
 |.ep _,_=>[]
def RP.no:RP→Nat
 |.map _=>1
 |_=>0
def vI:List RP→Type
 |[]=>Unit
 |[p]=>p.T
 |p :: q :: l=>p.T × vI (q :: l)
def qT:(n:Nat)→(l:List RP)→vI l→List AV
 |_,[],_=>[]
 |n,[p],x=>[p.enc n x]
 |n,p :: q :: l,x=>p.enc n x.1 :: qT (n+p.no) (q :: l) x.2
def iZ:(l:List RP)→vI l→List GO
 |[],_=>[]
 |[p],x=>p.IC x
 |p :: q :: l,x=>p.IC x.1++iZ (q :: l) x.2
structure RF where
 bu:Bool
 l:List RP
def RF.val (f:RF) (n:Nat) (x:vI f.l):AV:=bif f.bu then .bu (qT n f.l x) else fH (qT n f.l x)
def RP.is:RP→AV→Bool
 |.W1 p,v=>match p with
  |.dO u=>fa v u
  |_=>true
 |.map _,v=>match v with
  |.map _=>true
  |_=>false
 |.ep _,v=>match v with
  |.ep _=>true
  |_=>false
def NL:List RP→List AV→Bool
 |[],[]=>true
 |p :: l,v :: vs=>p.is v&&NL l vs
 |_,_=>false
def RF.args (f:RF) (r:AV):List AV:=bif f.bu then r.XG else [r]
def RF.CP (f:RF):AV→Bool
 |.bu _=>f.bu
 |_=>!f.bu
def Eb (G:List GO) (used:List Nat) (pe:aO) (v:AV):Option (List pe.T):=match v with
 |.map id=>match nth G id with
  |some (.map es)=>bif Ru used id then none else (bif allFit pe.fits (ah es) then some ((ah es).map pe.bC) else none)
  |_=>none
 |_=>none
def JV (ps:aQ) (v:AV):Option ps.T:=match v with
 |.ep cs=>ps.dec cs
 |_=>none
def RP.dec (G:List GO) (used:List Nat):(p:RP)→AV→Option p.T
 |.W1 p,v=>p.dec v
 |.map pe,v=>Eb G used pe v
 |.ep ps,v=>JV ps v
def vJ (used:List Nat):AV→List Nat
 |.map id=>id :: used
 |_=>used
def vK (G:List GO):(used:List Nat)→(l:List RP)→List AV→Option (vI l)
 |_,[],vs=>match vs with
  |[]=>some ()
  |_=>none
 |u,[p],vs=>match vs with
  |[v]=>p.dec G u v
  |_=>none
 |u,p :: q :: l,vs=>match vs with
  |v :: vs=>(p.dec G u v).bind fun x=>(vK G (vJ u v) (q :: l) vs).bind fun y=>some (x,y)
  |[]=>none
def RF.dec (f:RF) (G:List GO) (r:AV):Option (vI f.l):=bif f.CP r then vK G [] f.l (f.args r) else none
def RP.under:RP→Bool
 |.W1 p=>p.under 0
 |.map pe=>pe.under 0
 |.ep ps=>ps.under 0
def RF.under (f:RF):Bool:=f.l.all RP.under&&(f.bu || aao f.l.length 1)
def XT:List RF→Type
 |[]=>Empty
 |[f]=>vI f.l
 |f :: g :: l=>vI f.l ⊕ XT (g :: l)
def NM (G:List GO) (r:AV):(l:List RF)→Option (XT l)
 |[]=>none
 |[f]=>f.dec G r
 |f :: g :: l=>bif f.CP r&&NL f.l (f.args r) then (f.dec G r).bind fun x=>some (.inl x) else (NM G r (g :: l)).bind fun x=>some (.inr x)
def goX {α:Type} (G:List GO) (K:AV→List GO→α):(l:List RF)→XT l→α
 |[],o=>Empty.rec (fun _=>α) o
 |[f],o=>K (f.val G.length o) (G++iZ f.l o)
 |f :: g :: l,o=>Sum.elim (fun v=>K (f.val G.length v) (G++iZ f.l v)) (fun o=>goX G K (g :: l) o) o
theorem FW {α:Type} {G:List GO} {K:AV→List GO→α} {r:AV} {G':List GO}:∀ (l:List RF) (o:XT l),goX G (fun r0 G0=>r=r0∧G'=G0) l o→K r G'=goX G K l o
 |[],o,_=>nomatch o
 |[f],o,h=>by
  have h:r=f.val G.length o∧G'=G++iZ f.l o:=h;rw [h.1,h.2]; rfl
 |f :: g :: l,.inl v,h=>by
  have h:r=f.val G.length v∧G'=G++iZ f.l v:=h;rw [h.1,h.2]; rfl
 |f :: g :: l,.inr o,h=>FW (g :: l) o h
def Ao (E:Env) (g:FuncId) (args:List AV) (outs:List RF) (Q:XT outs→Prop):Prop:=
 ∀ G,cO E g args G (fun r G'=>∃ y,Q y∧goX G (fun r0 G0=>r=r0∧G'=G0) outs y)
section
variable {E:Env} {R R1 R2:ak} {w:World}
theorem eH.W2 (m:Mv R R2 0):∀ {es:List (AV × AV)} {l:List AV} {ax:List MapEntry},ln (ah es) l→aI 0 l=true→eH R w es ax→eH R2 w (ar l) ax
 |[],[],[],_,_,_=>trivial
 |[],[],_ :: _,_,_,h=>h.elim
 |[],_ :: _,_,h,_,_=>h.elim
 |(_,_) :: _,[],_,h,_,_=>h.elim
 |(_,_) :: _,_ :: _,[],_,_,h=>h.elim
 |(k,v) :: es,a :: l,en :: ax,hd,hu,h=>by
  obtain ⟨d1,d2⟩:=hd;simp only [aI,aad] at hu;have hc:=d1.cells rfl;have hl:[k,v].length=a.cells.length:=hc.length;cases a with
  |agg cs=>
   match cs,hc,hl with
   |[k',v'],hc,_=>
    have Yy:aI 0 [k',v']=true:=hu.1;simp only [aI,Bool.and_true,aad] at Yy;exact ⟨(hc.1 _ _ _ h.1).move m Yy.1,(hc.2.1 _ _ _ h.2.1).move m Yy.2,eH.W2 m d2 hu.2 h.2.2⟩
   |[],_,hl=>simp [AV.cells] at hl
   |[_],_,hl=>simp [AV.cells] at hl
   |_ :: _ :: _ :: _,_,hl=>simp [AV.cells] at hl
  |_=>simp [AV.cells] at hl
theorem aO.Ap {p:aO} (h:p.under 0=true):∀ l:List p.T,aI 0 (l.map p.enc)=true
 |[]=>rfl
 |x :: l=>by
  show ((p.enc x).under 0&&aI 0 (l.map p.enc))=true;rw [p.eK x h,aO.Ap h l];rfl
def Aq (R:ak) (n:Nat) (bs:List Nat):Prop:=∀ k b,nth bs k=some b→nth R.obj (n+k)=some (.ck b)
def JW (R:ak) (w:World) (gs:List GO) (bs:List Nat):Prop:=∀ k go b,nth gs k=some go→nth bs k=some b→iP R w go (.ck b)
theorem RP.W3 (p:RP) (x:p.T):(p.IC x).length=p.no:=by cases p <;> rfl
theorem NN {ps:aQ} {v:AV} {y:ps.T} (h:JV ps v=some y):∃ cs,v=.ep cs∧ps.dec cs=some y:=by
 unfold JV at h;split at h
 ·exact ⟨_,rfl,h⟩
 ·cases h
theorem Lz {G:List GO} {used:List Nat} {pe:aO} {v:AV} {y:List pe.T} (h:Eb G used pe v=some y):∃ id es,v=.map id∧nth G id=some (.map es)∧id∉used∧ln (ah es) (y.map pe.enc):=by
 unfold Eb at h;split at h
 ·rename_i id;split at h
  ·rename_i es Mt;cases hu:Ru used id with
   |true=>rw [hu] at h; cases h
   |false=>
    rw [hu,cond_false] at h;cases hf:allFit pe.fits (ah es) with
    |false=>rw [hf] at h; cases h
    |true=>
     rw [hf,cond_true] at h;have hy:=abq h;refine ⟨id,es,rfl,Mt,fun hm=>?_,?_⟩
     ·rw [D3.2 hm] at hu; cases hu
     ·rw [← hy]; exact ln.of (fun v hv=>pe.dL hv) hf
  ·cases h
 ·cases h
theorem ID {used:List Nat} {v:AV} {id:Nat} (h:id∈used):id∈vJ used v:=by
 unfold vJ;split
 ·exact abn _ h
 ·exact h
def Ec (R1:ak) (w:World) (used:List Nat) (v:AV) (c:Value) (p:RP) (y:p.T):Prop:=
 ∃ bs:List Nat,bs.length=p.no∧(∀ b∈bs,∃ id,id∉used∧id∈vJ used v∧nth R1.obj id=some (.ck b)) ∧
   ∀ (R2:ak) (n:Nat),(∀ b o,R1.I b o→R2.I b o)→Aq R2 n bs→Rel R2 w (p.enc n y) c∧JW R2 w (p.IC y) bs
theorem mvI {R1 R2:ak} (hI:∀ b o,R1.I b o→R2.I b o):Mv R1 R2 0:=⟨hI,fun _ _ h=>absurd h (Nat.not_lt_zero _)⟩
theorem RP.YE {used:List Nat} {p:aO} {v:AV} {c:Value} {y:p.T} (hp:p.under 0=true) (hv:Rel R1 w v c) (hd:p.dec v=some y):Ec R1 w used v c (.W1 p) y:=
 ⟨[],rfl,(fun b hb=>by cases hb),fun R2 n hI _=>⟨Rel.move (mvI hI) (p.eK y hp) ((p.sT hd).jc _ _ _ hv),fun k go b h=>by cases k <;> cases h⟩⟩
theorem RP.adh {used:List Nat} {ps:aQ} {v:AV} {c:Value} {y:ps.T} (hp:ps.under 0=true) (hv:Rel R1 w v c) (hd:JV ps v=some y):Ec R1 w used v c (.ep ps) y:=by
 obtain ⟨cs,rfl,hd⟩:=NN hd;cases hv with
 |ep hc=>
 exact ⟨[],rfl,(fun b hb=>by cases hb),fun R2 n hI _=>⟨.ep (fk.move (mvI hI) ((ps.sT hd).1.ML hc) (ps.eK y hp)),fun k go b h=>by cases k <;> cases h⟩⟩
theorem RP.YF {G1:List GO} (hg:eI E R1 w G1) {used:List Nat} {pe:aO} {v:AV} {c:Value} {y:List pe.T} (hp:pe.under 0=true) (hv:Rel R1 w v c) (hd:Eb G1 used pe v=some y):Ec R1 w used v c (.map pe) y:=by
 obtain ⟨id,es,rfl,Mt,hu,hdl⟩:=Lz hd;cases hv with
 |map hb=>
 rename_i b;refine ⟨[b],rfl,fun b' ka=>?_,fun R2 n hI p0=>⟨.map (by have:=p0 0 b rfl; simpa using this),fun k go b' h1 h2=>?_⟩⟩
 ·rw [List.mem_singleton] at ka;subst ka;exact ⟨id,hu,abo,hb⟩
 ·cases k with
  |succ k=>cases h2
  |zero=>
   cases h1; cases h2;obtain ⟨ax,clock,e1,e2,e3⟩:=hg.obj id _ _ Mt hb;exact ⟨ax,clock,e1,eH.W2 (mvI hI) hdl (aO.Ap hp y) e2,e3⟩
theorem RP.ok {G1:List GO} (hg:eI E R1 w G1) {used:List Nat} {p:RP} {v:AV} {c:Value} {y:p.T} (hp:p.under=true) (hv:Rel R1 w v c) (hd:p.dec G1 used v=some y):Ec R1 w used v c p y:=by
 cases p with
 |W1 p=>exact RP.YE hp hv hd
 |ep ps=>exact RP.adh hp hv hd
 |map pe=>exact RP.YF hg hp hv hd
theorem iz {α:Type} {l r:List α} {i:Nat} (h:i < l.length):nth (l++r) i=nth l i:=by
 rw [bj,bj,List.getElem?_append_left h]
theorem gH {α:Type} {l r:List α} (i:Nat):nth (l++r) (l.length+i)=nth r i:=by
 rw [bj,bj,List.getElem?_append_right (Nat.le_add_right _ _),Nat.add_sub_cancel_left]
theorem rV {α:Type} {l:List α} {i:Nat} {x:α} (h:nth l i=some x):i < l.length:=by
 rw [bj] at h;exact (List.getElem?_eq_some_iff.1 h).1
theorem RPs.ok {G1:List GO} (hg:eI E R1 w G1):∀ {l:List RP} {used:List Nat} {vs:List AV} {cs:List Value} {y:vI l},l.all RP.under=true→aP R1 w vs cs→vK G1 used l vs=some y →
  ∃ bs:List Nat,bs.length=(iZ l y).length∧bs.Nodup∧(∀ b∈bs,∃ id,id∉used∧nth R1.obj id=some (.ck b)) ∧
   ∀ (R2:ak) (n:Nat),(∀ b o,R1.I b o→R2.I b o)→Aq R2 n bs→aP R2 w (qT n l y) cs∧JW R2 w (iZ l y) bs
 |[],used,vs,cs,y,_,hv,hd=>by
  cases vs with
  |cons _ _=>cases hd
  |nil=>
  cases hv;exact ⟨[],rfl,abr,(fun b hb=>by cases hb),fun R2 n _ _=>⟨.nil,fun k go b h=>by simp [iZ,nth] at h⟩⟩
 |[p],used,vs,cs,y,hu,hv,hd=>by
  match vs,hv,hd with
  |[],_,hd=>cases hd
  |_ :: _ :: _,_,hd=>cases hd
  |[v],.cons hv .nil,hd=>
  have hu:p.under=true:=by simpa using hu
  obtain ⟨bs,h1,h2,h4⟩:=RP.ok hg hu hv hd;refine ⟨bs,h1.trans (p.W3 y).symm,?_,fun b hb=>let ⟨id,q1,_,q2⟩:=h2 b hb; ⟨id,q1,q2⟩,fun R2 n hI p0=>?_⟩
  ·have:bs.length≤1:=by rw [h1]; cases p <;> simp [RP.no]
   match bs,this with
   |[],_=>exact abr
   |[b],_=>simp
   |_ :: _ :: _,h=>simp at h
  ·obtain ⟨k1,k2⟩:=h4 R2 n hI p0;exact ⟨.cons k1 .nil,k2⟩
 |p :: q :: l,used,vs,cs,y,hu,hv,hd=>by
  match vs,hv,hd with
  |[],_,hd=>cases hd
  |v :: vs,.cons (c:=c) (cs:=cs) hv Yz,hd=>
  simp only [List.all_cons,aad] at hu;obtain ⟨hu1,hu2⟩:=hu;have hu2:(q :: l).all RP.under=true:=by simpa using hu2
  have hd:((p.dec G1 used v).bind fun x=>(vK G1 (vJ used v) (q :: l) vs).bind fun y=>some (x,y))=some y:=hd;cases hx:p.dec G1 used v with
  |none=>rw [hx] at hd; cases hd
  |some x=>
  rw [hx] at hd;simp only [Option.bind_some] at hd;cases hz:vK G1 (vJ used v) (q :: l) vs with
  |none=>rw [hz] at hd; cases hd
  |some z=>
  rw [hz] at hd;simp only [Option.bind_some] at hd;cases hd;obtain ⟨bs,h1,h2,h4⟩:=RP.ok hg hu1 hv hx;obtain ⟨bs',k1,k0,k2,k4⟩:=RPs.ok hg hu2 Yz hz;have M4:bs.length=(p.IC x).length:=h1.trans (p.W3 x).symm;refine ⟨bs++bs',?_,?_,fun b hb=>?_,fun R2 n hI p0=>?_⟩
  ·show _=(p.IC x++iZ (q :: l) z).length;rw [abi,abi,M4,k1]
  ·have Jq:bs.Nodup:=by
    have:bs.length≤1:=by rw [h1]; cases p <;> simp [RP.no]
    match bs,this with
    |[],_=>exact abr
    |[b],_=>simp
    |_ :: _ :: _,h=>simp at h
   rw [List.nodup_append];refine ⟨Jq,k0,fun a ha b hb e=>?_⟩;subst e;obtain ⟨id,_,q2,q3⟩:=h2 a ha;obtain ⟨kV,r1,r2⟩:=k2 a hb;have:id=kV:=hg.inj id kV _ _ a q3 r2 rfl rfl;subst this;exact r1 q2
  ·rcases List.mem_append.1 hb with hb|hb
   ·obtain ⟨id,q1,_,q2⟩:=h2 b hb;exact ⟨id,q1,q2⟩
   ·obtain ⟨id,q1,q2⟩:=k2 b hb;exact ⟨id,fun hm=>q1 (ID hm),q2⟩
  ·have at1:Aq R2 n bs:=fun k b hk=>p0 k b (by rw [iz (rV hk)]; exact hk)
   have at2:Aq R2 (n+p.no) bs':=fun k b hk=>by
    have:=p0 (bs.length+k) b (by rw [gH]; exact hk);rw [h1] at this;rw [Nat.add_assoc]; exact this
   obtain ⟨a1,a2⟩:=h4 R2 n hI at1;obtain ⟨b1,b2⟩:=k4 R2 (n+p.no) hI at2;refine ⟨.cons a1 b1,fun k go b jH hb=>?_⟩;change nth (p.IC x++iZ (q :: l) z) k=some go at jH;rcases abu k bs.length with hk|hk
   ·rw [iz (by rw [← M4]; exact hk)] at jH;rw [iz hk] at hb;exact a2 k go b jH hb
   ·obtain ⟨j,rfl⟩:∃ j,k=bs.length+j:=⟨k - bs.length,by omega⟩;rw [gH] at hb;rw [M4,gH] at jH;exact b2 j go b jH hb
theorem Ar:∀ (l:List RP) (n:Nat) (y:vI l),(qT n l y).length=l.length
 |[],_,_=>rfl
 |[_],_,_=>rfl
 |p :: q :: l,n,y=>by
  show (qT (n+p.no) (q :: l) y.2).length+1=(q :: l).length+1;rw [Ar (q :: l)]
theorem Ao.of1 {R0:ak} {w0:World} {f:RF} {G G1:List GO} {r:AV} {c:Value} {y:vI f.l} (hf:f.under=true) (hG:eI E R0 w0 G) (st:Step ⟨R0.I,[]⟩ w0 (fun _=>0) gy R1 w (fun _=>0) gy) (hg:eI E R1 w G1) (fF:Rel R1 w r c) (hd:f.dec G1 r=some y) :
  ∃ R2,Rel R2 w (f.val G.length y) c∧eI E R2 w (G++iZ f.l y)∧Step R0 w0 (fun _=>0) gy R2 w (fun _=>0) gy:=by
 unfold RF.under at hf;rw [aad] at hf;unfold RF.dec at hd;obtain ⟨ht,hd⟩:f.CP r=true∧vK G1 [] f.l (f.args r)=some y:=by
  cases ht:f.CP r with
  |true=>rw [ht] at hd; exact ⟨rfl,hd⟩
  |false=>rw [ht] at hd; cases hd
 obtain ⟨cs,rJ,adi⟩:∃ cs,aP R1 w (f.args r) cs∧∀ R2 (x:vI f.l) n,aP R2 w (qT n f.l x) cs→Rel R2 w (f.val n x) c:=by
  unfold RF.args RF.val;cases ag9:f.bu with
  |true=>
   have:∃ vs,r=.bu vs:=by
    cases r <;> first | exact ⟨_,rfl⟩ | (simp [RF.CP,ag9] at ht)
   obtain ⟨vs,rfl⟩:=this;cases fF with
   |bu h=>exact ⟨_,h,fun R2 x n h=>.bu h⟩
  |false=>
   refine ⟨[c],.cons fF .nil,fun R2 x n h=>?_⟩;simp only [cond_false];have hlen:=Ar f.l n x;revert h hlen;generalize qT n f.l x=l;intro h hlen;cases h with
   |cons h _=>exact h
 obtain ⟨bs,h1,h2,h3,h4⟩:=RPs.ok hg hf.1 rJ hd;have kD:∀ b,¬ Own (⟨R0.I,[]⟩:ak) (fun _=>0) gy b:=fun b ho=>by
  obtain ⟨id,ro,q1,_⟩:=fZ ho;simp [nth] at q1
 have qw:∀ b∈bs,w0.heap.size≤b:=fun b hb=>by
  obtain ⟨id,_,hid⟩:=h3 b hb;rcases abu b w0.heap.size with bY|oP
  ·exact absurd (st.own b bY (.inl ⟨id,_,hid,rfl⟩)) (kD b)
  ·exact oP
 let R2:ak:=⟨R1.I,R0.obj++bs.map RO.ck⟩
 have e:Ext R0 w0 R2 w:=⟨st.ext.I,st.ext.cell,fun id ro h=>⟨ro,by rw [iz (rV h)]; exact h,cV.refl ro⟩,st.ext.lp⟩;have bJ:∀ b,b < w0.heap.size→w.heap[b]?=w0.heap[b]?:=fun b hb=>st.bJ b hb (kD b)
 have im:∀ b o,b < w0.heap.size→R1.I b o→R0.I b o:=fun b o hb hi=>st.im b o hi hb (kD b)
 have aha:∀ {k ro},nth (bs.map RO.ck) k=some ro→∃ b,nth bs k=some b∧ro=.ck b:=fun {k ro} h=>by
  rw [bj,List.getElem?_map] at h;cases hb:bs[k]? with
  |none=>rw [hb] at h; cases h
  |some b=>rw [hb] at h; exact ⟨b,by rw [bj]; exact hb,(abq h).symm⟩
 have p0:Aq R2 R0.obj.length bs:=fun k b hk=>by
  show nth (R0.obj++bs.map RO.ck) (R0.obj.length+k)=_;rw [gH,bj,List.getElem?_map];rw [bj] at hk;rw [hk]; rfl
 obtain ⟨k1,k2⟩:=h4 R2 R0.obj.length (fun _ _ h=>h) p0;rw [hG.len] at k1;have hold:∀ id ro,nth R2.obj id=some ro→nth R0.obj id=some ro∨∃ k b,id=R0.obj.length+k∧nth bs k=some b∧ro=.ck b:=fun id ro h=>by
  rcases abu id R0.obj.length with bY|oP
  ·exact .inl (by rw [← iz (r:=bs.map RO.ck) bY]; exact h)
  ·obtain ⟨k,rfl⟩:∃ k,id=R0.obj.length+k:=⟨id - R0.obj.length,by omega⟩;have h:nth (R0.obj++bs.map RO.ck) (R0.obj.length+k)=some ro:=h;rw [gH] at h;obtain ⟨b,q1,q2⟩:=aha h;exact .inr ⟨k,b,rfl,q1,q2⟩
 have W4:∀ id ro b,nth R0.obj id=some ro→ro.has b→b < w0.heap.size:=fun id ro b h hb=>by
  have hl:=rV h;rw [hG.len] at hl;have jH:nth G id=some G[id]:=by rw [bj]; exact List.getElem?_eq_getElem hl
  exact (hG.obj id _ _ jH h).lt hb
 have YG:∀ {k b},nth bs k=some b→b∈bs:=fun {k b} h=>by
  rw [bj] at h;exact List.mem_of_getElem? h
 refine ⟨R2,adi R2 y _ k1,⟨?_,fun id go ro q1 q2=>?_,fun i j ri rj b q1 q2 b1 b2=>?_,hg.wf,fun g cs sU=>(hG.cw g cs sU).mono e,hg.lo⟩,⟨e,st.os,st.tape,st.output,st.size,fun b hb _=>bJ b hb,fun b hb ho=>?_,fun b o hi hb _=>im b o hb hi⟩⟩
 ·show (R0.obj++bs.map RO.ck).length=_;rw [abi,List.length_map,abi,hG.len,h1]
 ·rcases hold id ro q2 with q2|⟨k,b,rfl,q3,rfl⟩
  ·have hl:=rV q2;rw [hG.len] at hl;rw [iz hl] at q1;refine (hG.obj id go ro q1 q2).mono e (fun b hb=>bJ b ?_) (fun b o hb hi=>im b o ?_ hi)
   ·exact (hG.obj id go ro q1 q2).lt hb
   ·exact (hG.obj id go ro q1 q2).lt hb
  ·rw [hG.len,gH] at q1;exact k2 k go b q1 q3
 ·rcases hold i ri q1 with q1|⟨k,a,rfl,q3,rfl⟩
  ·rcases hold j rj q2 with q2|⟨k',a',rfl,q4,rfl⟩
   ·exact hG.inj i j ri rj b q1 q2 b1 b2
   ·have:b=a':=b2;subst this;have:=qw _ (YG q4);have:=W4 i ri b q1 b1;omega
  ·have hba:b=a:=b1;subst hba;rcases hold j rj q2 with q2|⟨k',a',rfl,q4,rfl⟩
   ·have:=qw _ (YG q3);have:=W4 j rj b q2 b2;omega
   ·have:b=a':=b2;subst this;have l1:=rV q3;have l2:=rV q4;rw [bj] at q3 q4;have:=(List.getElem?_inj l1 h2).1 (q3.trans q4.symm);omega
 ·rcases fZ ho with ⟨id,ro,q1,q2⟩;rcases hold id ro q1 with q1|⟨k,a,rfl,q3,rfl⟩
  ·exact .inl ⟨id,ro,q1,q2⟩
  ·have:b=a:=q2;subst this;have:=qw _ (YG q3);omega
theorem JX {G1:List GO} {r:AV}:∀ {outs:List RF} {y:XT outs},NM G1 r outs=some y→(∀ f∈outs,f.under=true) →
  ∃ (f:RF) (z:vI f.l),f.under=true∧f.dec G1 r=some z∧∀ {α:Type} (G:List GO) (K:AV→List GO→α),goX G K outs y=K (f.val G.length z) (G++iZ f.l z)
 |[],_,h,_=>by cases h
 |[f],y,h,hu=>⟨f,y,hu f (by simp),h,fun _ _=>rfl⟩
 |f :: g :: l,y,h,hu=>by
  simp only [NM] at h;cases hb:(f.CP r&&NL f.l (f.args r)) with
  |true=>
   rw [hb] at h;simp only [cond_true] at h;cases hx:f.dec G1 r with
   |none=>rw [hx] at h; cases h
   |some x=>
    rw [hx] at h;cases h;exact ⟨f,x,hu f (by simp),hx,fun _ _=>rfl⟩
  |false=>
   rw [hb] at h;simp only [cond_false] at h;cases hx:NM G1 r (g :: l) with
   |none=>rw [hx] at h; cases h
   |some x=>
    rw [hx] at h;cases h;obtain ⟨f',z,k0,k1,k2⟩:=JX hx (fun f hf=>hu f (abn _ hf));exact ⟨f',z,k0,k1,fun G K=>k2 G K⟩
theorem Ao.of {g:FuncId} {args:List AV} {outs:List RF} {Q:XT outs→Prop} (hc:aI 0 args=true) (hp:∀ f∈outs,f.under=true)
  (h:cO E g args [] (fun r G'=>∃ y,NM G' r outs=some y∧Q y)):Ao E g args outs Q:=fun G=>by
 refine ⟨h.1,fun R w cs hg hl=>?_⟩
 let R0:ak:=⟨R.I,[]⟩
 have m0:Mv R R0 0:=⟨fun _ _ h=>h,fun _ _ h=>absurd h (Nat.not_lt_zero _)⟩;have Ro:eI E R0 w []:=⟨rfl,fun id go ro h1 _=>by simp [nth] at h1,fun i j ri rj b h1=>by simp [R0,nth] at h1,hg.wf,fun g cs sU=>(hg.cw g cs sU).move m0 (cN _ (E.qh g cs sU)),hg.lo⟩;have zl:aP R0 w args cs:=hl.move m0 hc;refine (h.2 R0 w cs Ro zl).mono fun e w' he=>?_
 cases e with
 |panicked c=>exact he.elim
 |outgrown=>exact he.elim
 |returned c=>
  obtain ⟨r,G',R1,⟨y,hy,hQ⟩,fF,Sq,st⟩:=he;obtain ⟨f,z,hf,hz,jH⟩:=JX hy hp;obtain ⟨R2,k1,k2,k3⟩:=Ao.of1 hf hg st Sq fF hz;refine ⟨_,_,R2,⟨y,hQ,?_⟩,k1,k2,k3⟩;rw [jH];exact ⟨rfl,rfl⟩
end
end Go.Am
namespace Go.Am
open Go
structure aR where
 ps:aQ
 p:aO
 T:ps.T→Option p.T
def aj (E:Env) (g:FuncId) (e:aR):Prop:=∀ x y,e.T x=some y→a6 E g (e.ps.enc x) (fun r=>r=e.p.enc y)
inductive XK
 |norm
 |ret
 |ex (id:Nat)
def XK.is:XK→Exit→Bool
 |.norm,.normal=>true
 |.ret,.ret=>true
 |.ex i,.exit j=>aao i j
 |_,_=>false
def XK.exit:XK→Exit
 |.norm=>.normal
 |.ret=>.ret
 |.ex i=>.exit i
theorem XK.JP {k:XK} {e:Exit} (h:k.is e=true):e=k.exit:=by
 cases k <;> cases e <;> simp_all [XK.is,XK.exit]
def JT:List (XK × da)→Type
 |[]=>Empty
 |[x]=>x.2.ps.T
 |x :: y :: l=>x.2.ps.T ⊕ JT (y :: l)
def mR (s:St):(outs:List (XK × da))→Exit→St→Option (JT outs)
 |[],_,_=>none
 |[x],e,s'=>bif x.1.is e then x.2.dec s s' else none
 |x :: y :: l,e,s'=>bif x.1.is e then (x.2.dec s s').bind fun v=>some (.inl v) else (mR s (y :: l) e s').bind fun o=>some (.inr o)
def Rv {α:Type} (s:St):(outs:List (XK × da))→JT outs→(Exit→St→α)→α
 |[],o,_=>Empty.rec (fun _=>α) o
 |[x],o,K=>K x.1.exit (x.2.st s o)
 |x :: y :: l,o,K=>Sum.elim (fun v=>K x.1.exit (x.2.st s v)) (fun o=>Rv s (y :: l) o K) o
inductive cW
 |loop (gh:List (Loc × Nat × TypeId)) (head:da) (outs:List (XK × da))
 |join (outs:List (XK × da))
 |rot (k:List Bool) (gh:List (Loc × Nat × TypeId)) (head:da) (outs:List (XK × da))
 |W5 (n:Nat) (a b:cW)
 |oA (gh:List (Loc × Nat × TypeId)) (head:da) (outs:List (XK × da))
def NO (n:Nat):cW→cW
 |.W5 m a b=>bif aao n m then NO n a else NO n b
 |c=>c
def az {V X:Type} (rd:V→Option (V ⊕ X)):Nat→V→Option X
 |0,_=>none
 |n+1,v=>(rd v).bind fun o=>Sum.elim (fun v'=>az rd n v') (fun x=>some x) o
def oA {V X:Type} (rd:(V→Option X)→V→Option X):Nat→V→Option X
 |0,_=>none
 |n+1,v=>rd (oA rd n) v
structure nK (E:Env) (g:FuncId) where
 f:List AV→List GO→Option (Bool × AV × List GO)
 ok:∀ args G r G',f args G=some (true,r,G')→cO E g args G (fun r' CO=>r'=r∧CO=G')
structure YH (E:Env) (g:FuncId) where
 ps:aQ
 outs:List RF
 T:ps.T→Option (XT outs)
 ok:∀ x y,T x=some y→Ao E g (ps.enc x) outs (fun z=>z=y)
structure fU where
 D:Lt
 Bx:FuncId→Option aR
 qU:FuncId→Nat→Option cW
 fz:Bool
 N:Nat
 gt:(g:FuncId)→Option (nK D.toEnv g):=fun _=>none
 xt:(g:FuncId)→Option (YH D.toEnv g):=fun _=>none
def td {α:Type} (fz:Bool) (s:St) (K:St→α):α:=match fz with
 |true=>Is s K
 |false=>match s with
  |⟨sl,bx,G,m,ro,n⟩=>K ⟨sl,bx,G,m,ro,n⟩
theorem dK {α:Type} (fz:Bool) (s:St) (K:St→α):td fz s K=K s:=by
 cases fz
 ·rfl
 ·exact Lu s K
abbrev qV (X:Type):=FuncId→List AV→List GO→(AV→List GO→Option X)→Option X
abbrev nL (X:Type):=Nat→List AV→List GO→(Bool→List GO→Option X)→Option X
section ev
variable {X:Type}
def Ed (E:Env) (s:St) (o:Oper):Option (Int × Nat × (Nat→Oper)):=match o.op with
 |.index t x (.tmp y)=>match bQ E s.ab (.tmp y),E.ti t with
  |.v (.int k n),some i=>match i.k with
   |.arr len _ _=>some (n,len,fun j=>{ o with op:=.index t x (.const (.int k j)) })
   |_=>none
  |_,_=>none
 |.indexAddr t x (.tmp y)=>match bQ E s.ab (.tmp y),E.ti t with
  |.v (.int k n),some i=>match i.k with
   |.arr len _ _=>match bQ E s.ab x with
    |.v (.ep _)=>match E.RM t with
     |some _=>none
     |none=>some (n,len,fun j=>{ o with op:=.indexAddr t x (.const (.int k j)) })
    |_=>some (n,len,fun j=>{ o with op:=.indexAddr t x (.const (.int k j)) })
   |_=>none
  |_,_=>none
 |_=>none
def yB (E:Env) (fz:Bool) (f:FuncId) (g:Nat→Oper) (n:Int) (K:St→Option X) (s:St):Nat→Nat→Option X
 |0,_=>none
 |m+1,j=>bif decide (n=(j:Int)) then (match an E f s (g j) with
   |some (c,s')=>bif c then td fz s' K else none
   |_=>none) else yB E fz f g n K s m (j+1)
def YI (E:Env) (fz:Bool) (call:qV X) (nt:nL X) (f:FuncId) (o:Oper) (K:St→Option X) (s:St):Option X:=
 match o.op with
 |.call { callee:=.value x,args,.. }=>match bQ E s.ab x,oR E s.ab args.toList with
  |.v (.fn g first cap),some l=>call g (first++l++cap) s.G (fun r G'=>td fz ((s.cP G').put o.dst (.v r)) K)
  |.v (.yield id),some l=>nt id l s.G (fun b G'=>td fz ((s.cP G').put o.dst (.v (.bool b))) K)
  |_,_=>none
 |.defer _=>none
 |.next x true=>match NH s o.dst (bQ E s.ab x) with
  |some (b,s1,s2)=>bif b then td fz s1 K else td fz s2 K
  |none=>none
 |.lookup t m k ok=>match yx E s t (bQ E s.ab m) (bQ E s.ab k) with
  |some (c,v,b)=>bif c then td fz (s.put o.dst (.v (if ok then .bu [v,.bool b] else v))) K else none
  |none=>match an E f s o with
   |some (c,s')=>bif c then td fz s' K else none
   |_=>none
 |.mapUpdate t m k x=>match o.dst,yy E s t (bQ E s.ab m) (bQ E s.ab k) (bQ E s.ab x) with
  |none,some (c,s')=>bif c then td fz s' K else none
  |_,_=>none
 |.insert t m k x=>match o.dst,yy E s t (bQ E s.ab m) (bQ E s.ab k) (bQ E s.ab x) with
  |none,some (c,s')=>bif c then td fz s' K else none
  |_,_=>none
 |.call { callee:=.builtin .append,args,argTypes }=>match jq E f s o with
  |some (c,s')=>bif c then td fz s' K else none
  |none=>match oR E s.ab args.toList with
   |some l=>match D8 E s o.dst l argTypes.toList with
    |some (b,s1,c,s2)=>bif b then td fz s1 K else bif c then td fz s2 K else none
    |none=>match an E f s o with
     |some (c,s')=>bif c then td fz s' K else none
     |_=>none
   |none=>none
 |.call { callee:=.builtin .copy,args,argTypes }=>match oR E s.ab args.toList with
  |some l=>match NJ E s o.dst l argTypes.toList with
   |some (c,s')=>bif c then td fz s' K else none
   |none=>match an E f s o with
    |some (c,s')=>bif c then td fz s' K else none
    |_=>none
  |none=>none
 |_=>match Ed E s o with
  |some (n,len,g)=>yB E fz f g n K s len 0
  |none=>match an E f s o with
   |some (c,s')=>bif c then td fz s' K else none
   |_=>none
def qW (E:Env) (fz:Bool) (call:qV X) (nt:nL X) (f:FuncId) (ops:List Oper) (o:Oper) (K:St→Option X) (s:St):Option X:=
 match o.guard with
 |none=>YI E fz call nt f o K s
 |some (j,want)=>match qG ops j with
  |none=>none
  |some d=>match lk s.ab d with
   |.v (.bool b)=>match want with
    |true=>bif b then td fz (s.put (some d) (.v (.bool true))) (YI E fz call nt f o K) else td fz ((s.put (some d) (.v (.bool false))).put o.dst (.v gW)) K
    |false=>bif b then td fz ((s.put (some d) (.v (.bool true))).put o.dst (.v gW)) K else td fz (s.put (some d) (.v (.bool false))) (YI E fz call nt f o K)
   |.v (.bu [])=>td fz (s.put o.dst (.v gW)) K
   |_=>none
def Ee (E:Env) (fz:Bool) (call:qV X) (nt:nL X) (f:FuncId) (ops:List Oper) (o:Oper) (K:St→Option X) (s:St):Option X:=
 match o.guard,ky E f s o with
 |none,some s'=>td fz s' K
 |_,_=>qW E fz call nt f ops o K s
noncomputable def Ss {X:Type} (l:List Nat) (F:Nat→Option X):Option X:=match l with
 |[]=>none
 |i :: r=>@ite _ (∀ j∈r,F j=F i) (aaO _) (F i) none
theorem LA {X:Type} {l:List Nat} {F:Nat→Option X} {x:X} (h:Ss l F=some x):∀ i∈l,F i=some x:=by
 cases l with
 |nil=>cases h
 |cons i r=>
  have h:@ite _ (∀ j∈r,F j=F i) (aaO _) (F i) none=some x:=h;by_cases hr:∀ j∈r,F j=F i
  ·rw [if_pos hr] at h;intro j hj;rcases List.mem_cons.1 hj with rfl|hj
   ·exact h
   ·rw [hr j hj]; exact h
  ·rw [if_neg hr] at h;cases h
theorem Su {X:Type} {l:List Nat} {F:Nat→Option X} {x:X} (hl:l≠[]) (h:∀ i∈l,F i=some x):Ss l F=some x:=by
 cases l with
 |nil=>exact absurd rfl hl
 |cons i r=>
  show @ite _ (∀ j∈r,F j=F i) (aaO _) (F i) none=some x;have hr:∀ j∈r,F j=F i:=fun j hj=>by rw [h j (abn _ hj),h i abo]
  rw [if_pos hr];exact h i abo
noncomputable def yC (E:Env) (fz:Bool) (call:qV X) (nt:nL X) (f:FuncId) (ops:List Oper) (o:Oper) (K:St→Option X) (s:St):Option X:=
 match o.guard,wJ E f s o,vn E s o with
 |none,some (c,s'),_=>bif c then td fz s' K else none
 |none,none,some (c,s0,left,g)=>bif c then (bif left.isEmpty then td fz s0 K else Ss left fun i=>bif (g i).1 then td fz (g i).2 K else none) else none
 |_,_,_=>Ee E fz call nt f ops o K s
noncomputable def Ef (E:Env) (fz:Bool) (call:qV X) (nt:nL X) (f:FuncId) (ops:List Oper) (o:Oper) (K:St→Option X) (s:St):Option X:=
 match KU E f s o with
 |some (c,s')=>bif c then yC E fz call nt f ops o K s' else none
 |none=>yC E fz call nt f ops o K s
noncomputable def Sv (E:Env) (fz:Bool) (call:qV X) (nt:nL X) (f:FuncId) (ops:List Oper):List Oper→(St→Option X)→St→Option X
 |[],K,s=>K s
 |o :: rest,K,s=>Ef E fz call nt f ops o (fun s'=>match CB E f o s' with
  |some s2=>Sv E fz call nt f ops rest K s2
  |none=>none) s
def YJ (E:Env) (f:FuncId) (ops:List Oper) (o:Oper) (s:St):Bool:=match o.op,o.dst with
 |.lookup t m k ok,some d=>match ES ops s o,yx E s t (bQ E s.ab m) (bQ E s.ab k) with
  |some true,some (c,v,b)=>c&&DY (.v (if ok then .bu [v,.bool b] else v)) (lk s.ab d)
  |_,_=>bRe E f ops o s
 |_,_=>bRe E f ops o s
def rW (E:Env) (f:FuncId) (ops:List Oper):List Nat→St→Bool
 |[],_=>true
 |k :: l,s=>(match nth ops k with
  |some ok=>YJ E f ops ok s
  |none=>true)&&rW E f ops l s
def oT (E:Env) (fz:Bool) (call:qV X) (nt:nL X) (gv:Option X→Option X→Option X) (f:FuncId) (ops:List Oper):DT→(St→Option X)→St→Option X
 |.done,K,s=>K s
 |.take j _ t,K,s=>match nth ops j with
  |some oj=>qW E fz call nt f ops oj (oT E fz call nt gv f ops t K) s
  |none=>none
 |.br i re _ t .stop,K,s=>match nth ops i with
  |some oi=>qW E fz call nt f ops oi (fun s'=>bif rW E f ops re s' then oT E fz call nt gv f ops t K s' else none) s
  |none=>none
 |.br i re _ t more,K,s=>gv (match nth ops i with
  |some oi=>qW E fz call nt f ops oi (fun s'=>bif rW E f ops re s' then oT E fz call nt gv f ops t K s' else none) s
  |none=>none) (oT E fz call nt gv f ops more K s)
 |.stop,_,_=>none
 |.al j W t,K,s=>match nth ops j with
  |some oj=>bif Yr E f oj W s then qW E fz call nt f ops oj (oT E fz call nt gv f ops t K) s else none
  |none=>none
end ev
def CQ {X:Type} (N:St→Option X) (Q:Exit→St→Option X):Exit→St→Option X
 |.normal,s=>N s
 |e,s=>Q e s
def NP {X:Type} (id:Nat) (Q:Exit→St→Option X):Exit→St→Option X
 |.exit kV,s=>bif aao kV id then Q .normal s else Q (.exit kV) s
 |e,s=>Q e s
def YK {X:Type} (Q:Exit→St→Option X):Exit→St→Option X
 |.goto _,_=>none
 |e,s=>Q e s
def NQ {X:Type} (E:Env) (fn:Func) (K:AV→List GO→Option X):Exit→St→Option X
 |.normal,s | .ret,s=>match qI s.marks s.G with
  |some G=>match Nj E (s.cP G) fn with
   |some r=>K r G
   |none=>none
  |none=>none
 |_,_=>none
def xj (s:St) (head:da) (outs:List (XK × da)):Exit→St→Option (head.ps.T ⊕ JT outs)
 |.normal,s'=>(head.dec s s').bind fun v=>some (.inl v)
 |e,s'=>(mR s outs e s').bind fun o=>some (.inr o)
noncomputable def ET {X:Type} (a b:Option X):Option X:=@ite _ (a=b) (aaO _) a none
def xl {X:Type} (gv:Option X→Option X→Option X):Prop:=∀ a b x,gv a b=some x→a=some x∧b=some x
def IE {X:Type} (id:Nat) (K:Bool→List GO→Option X):Exit→St→Option X:=fun e s=>match nth s.G id with
 |some (.loop _ _ fn sl n ps uk bd d _)=>match e with
  |.normal=>K true (aG s.G id (.loop false none fn sl n ps uk bd d false))
  |.ret=>K false (aG s.G id (.loop false (some .ret) fn sl n ps uk bd d true))
  |.exit i=>K false (aG s.G id (.loop false (some (.exit i)) fn sl n ps uk bd d true))
  |_=>none
 |_=>none
def fpF (fp:Nat):Nat:=fp % 4096
def fpP (fp:Nat):Nat:=fp / 4096
abbrev EvT:=FuncId→Nat→Code→(X:Type)→(Option X→Option X→Option X)→(Exit→St→Option X)→St→Option X
section
variable (C:fU) (ih:EvT)
def FX {X:Type} (gv:Option X→Option X→Option X):qV X:=fun g args G K=>
 bif C.D.okF g then match C.D.P.funcs[g]? with
   |some fn=>match fn.body with
    | some b => bif !(fn.name == "runtime.NumGoroutine") then ih g 1 b X gv (NQ C.D.toEnv fn (bif C.D.Dt g 131072 then YD C.D.toEnv (C.D.Dt g 131073) (C.D.Dt g 131074) fn.resultTypes.toList K else K)) (St.init fn.ntmps args G) else none
    |none=>none
   |none=>none
  else none
def FY {X:Type} (gv:Option X→Option X→Option X):qV X:=fun g args G K=>
 match C.Bx g with
 |some e=>(e.ps.dec args).bind fun x=>(e.T x).bind fun y=>K (e.p.enc y) G
 |none=>match C.gt g with
  |some e=>match e.f args G with
   |some (c,r,G')=>bif c then K r G' else none
   |none=>none
  |none=>match C.xt g with
   |some e=>(e.ps.dec args).bind fun x=>(e.T x).bind fun o=>goX G K e.outs o
   |none=>FX C ih gv g args G K
def Sw (n:Nat):List Tmp→Bool
 |[]=>true
 |t :: l=>Nat.blt t n&&Sw n l
def Sx {X:Type} (gv:Option X→Option X→Option X):nL X:=fun id args G K=>match nth G id with
 |some (.loop false _ fp sl n ps uk bd _ false)=>
  bif aao args.length ps.length&&Sw n ps&&bL (C.D.dt (fpF fp)) uk&&bL (C.D.dt (fpF fp)) bd then
   ih (fpF fp) (2 * fpP fp) uk X gv (fun e s1=>match e with
    |.normal=>match nth s1.G id with
     |some (.loop false p fn sl n ps uk bd' d false)=>ih (fpF fp) (2 * fpP fp+1) bd X gv (IE id K) (s1.cP (aG s1.G id (.loop true p fn sl n ps uk bd' d false)))
     |_=>none
    |_=>none) (St.round id (Ai ps args sl) n G)
  else none
 |_=>none
noncomputable def As (f:FuncId) (p:Nat) (c:Code) (X:Type) (gv:Option X→Option X→Option X) (K:Exit→St→Option X) (s:St):Option X:=
 match c with
 |.skip=>K .normal s
 |.label _=>K .normal s
 |.seq x y=>ih f (2 * p) x X gv (CQ (ih f (2 * p+1) y X gv K) K) s
 |.cond c x y=>match bQ C.D.toEnv s.ab c with
  |.v (.bool b)=>bif b then ih f (2 * p) x X gv K s else ih f (2 * p+1) y X gv K s
  |_=>none
 |.block id c=>ih f (2 * p) c X gv (NP id K) s
 |.exit id=>K (.exit id) s
 |.ret=>K .ret s
 |.region _ ops false=>Sv C.D.toEnv C.fz (FY C ih gv) (Sx C ih gv) f ops.toList ops.toList (K .normal) s
 |.region id ops true=>match C.D.dt f id with
  |some pl=>oT C.D.toEnv C.fz (FY C ih gv) (Sx C ih gv) gv f ops.toList pl.T (K .normal) s
  |none=>none
 |.scope c=>ih f (2 * p) c X gv (YK K) s
 |.loop c=>ih f (2 * p) c X gv (CQ (ih f p (.loop c) X gv K) K) s
 |.rangeFunc g ps uk bd=>match s.ro with
  |none=>match bQ C.D.toEnv s.ab g with
   |.v (.fn h first cap)=>FY C ih gv h (first++[.yield (s.G.length+1)]++cap) (s.G++[.defers true]++[.loop false none (4096 * p+f) (jj s.ab) s.n ps.toList uk bd s.G.length false])
    (fun _ G'=>match nth G' (s.G.length+1) with
     |some (.loop busy pending _ _ _ _ _ _ _ done)=>bif !busy || done then
       match pending with
       |none=>td C.fz ⟨s.ab,s.boxes,aG G' (s.G.length+1) .dead,s.G.length :: s.marks,s.ro,s.n⟩ (K .normal)
       |some .ret=>td C.fz ⟨s.ab,s.boxes,aG G' (s.G.length+1) .dead,s.G.length :: s.marks,s.ro,s.n⟩ (K .ret)
       |some (.exit i)=>td C.fz ⟨s.ab,s.boxes,aG G' (s.G.length+1) .dead,s.G.length :: s.marks,s.ro,s.n⟩ (K (.exit i))
       |_=>none
      else none
     |_=>none)
   |_=>none
  |some _=>none
 |_=>none
def IF:List Oper→List Tmp
 |[]=>[]
 |o :: l=>match o.dst with
  |some d=>d :: IF l
  |none=>IF l
def mu:Code→List Tmp→List Tmp
 |.region _ ops _,r=>IF ops.toList++r
 |.seq x y,r=>mu x (mu y r)
 |.cond _ x y,r=>mu x (mu y r)
 |.block _ c,r=>mu c r
 |.scope c,r=>mu c r
 |.loop c,r=>mu c r
 |.rangeFunc _ ps a b,r=>ps.toList++mu a (mu b r)
 |_,r=>r
def Au (W:List Tmp) (t:da):da:=⟨t.ps,t.sl,W,t.bx,t.g,t.lps⟩
def uB (W:List Tmp):List (XK × da)→List (XK × da)
 |[]=>[]
 |(k,t) :: l=>(k,Au W t) :: uB W l
def NR:Code→Bool
 |.loop _=>true
 |_=>false
noncomputable def adj {X:Type} (f:FuncId) (p:Nat) (c:Code) (outs:List (XK × da)) (K:Exit→St→Option X) (s:St):Option X:=
 (As C ih f p c (JT outs) ET (mR s outs) s).bind fun o=>Rv s outs o K
noncomputable def W6 {X:Type} (f:FuncId) (p:Nat) (b:Code) (s1:St) (head:da) (outs:List (XK × da)) (K:Exit→St→Option X):Option X:=
 (head.dec s1 s1).bind fun v0=>(az (fun v=>ih f (2 * p) b (head.ps.T ⊕ JT outs) ET (xj s1 head outs) (head.st s1 v)) C.N v0).bind fun o=>Rv s1 outs o K
def NS (s:St) (head:da) (outs:List (XK × da)) (k:head.ps.T→Option (JT outs)):Exit→St→Option (JT outs)
 |.normal,s'=>(head.dec s s').bind k
 |e,s'=>mR s outs e s'
noncomputable def NT {X:Type} (f:FuncId) (p:Nat) (b:Code) (s1:St) (head:da) (outs:List (XK × da)) (K:Exit→St→Option X):Option X:=
 (head.dec s1 s1).bind fun v0=>(oA (fun k v=>ih f (2 * p) b (JT outs) ET (NS s1 head outs k) (head.st s1 v)) C.N v0).bind fun o=>Rv s1 outs o K
def NU {X:Type} (gv:Option X→Option X→Option X) (f:FuncId) (K:Exit→St→Option X):List Bool→Nat→Code→St→Option X
 |[],_,_,s=>K .normal s
 |true :: k,q,.seq x y,s=>ih f (2 * q) x X gv (CQ (NU gv f K k (2 * q+1) y) K) s
 |false :: k,q,.seq x _,s=>NU gv f K k (2 * q) x s
 |_ :: _,_,_,_=>none
def Sy {X:Type} (gv:Option X→Option X→Option X) (f:FuncId):List Bool→Nat→Code→(Exit→St→Option X)→St→Option X
 |[],q,c,K,s=>ih f q c X gv K s
 |true :: k,q,.seq _ y,K,s=>Sy gv f k (2 * q+1) y K s
 |false :: k,q,.seq x y,K,s=>Sy gv f k (2 * q) x (CQ (ih f (2 * q+1) y X gv K) K) s
 |_ :: _,_,_,_,_=>none
noncomputable def adk {X:Type} (f:FuncId) (p:Nat) (b:Code) (k:List Bool) (s1:St) (head:da) (outs:List (XK × da)) (K:Exit→St→Option X):Option X:=
 ((NU ih ET f (xj s1 head outs) k (2 * p) b s1).bind fun r0=>
  Sum.elim (fun v0=>az (fun v=>Sy ih ET f k (2 * p) b (CQ (NU ih ET f (xj s1 head outs) k (2 * p) b) (xj s1 head outs)) (head.st s1 v)) C.N v0) (fun x=>some x) r0).bind fun o=>Rv s1 outs o K
noncomputable def Av (f:FuncId) (p:Nat) (c:Code) (X:Type) (gv:Option X→Option X→Option X) (K:Exit→St→Option X) (s:St):Option X:=
 match C.qU f p with
 |none=>As C ih f p c X gv K s
 |some ct=>match NO s.G.length ct with
  |.join outs=>bif NR c then none else adj C ih f p c (uB (mu c []) outs) K s
  |.loop gh head outs=>match c with
   |.loop b=>match ji gh s with
    |some s1=>W6 C ih f p b s1 (Au (mu b []) head) (uB (mu b []) outs) K
    |none=>none
   |_=>none
  |.rot k gh head outs=>match c with
   |.loop b=>match ji gh s with
    |some s1=>adk C ih f p b k s1 (Au (mu b []) head) (uB (mu b []) outs) K
    |none=>none
   |_=>none
  |.oA gh head outs=>match c with
   |.loop b=>match ji gh s with
    |some s1=>NT C ih f p b s1 (Au (mu b []) head) (uB (mu b []) outs) K
    |none=>none
   |_=>none
  |.W5 _ _ _=>none
end
noncomputable def ev (C:fU):Nat→EvT:=Nat.rec (fun _ _ _ _ _ _ _=>none) (fun _ ih=>Av C ih)
end Go.Am
namespace Go.Am
open Go
section ext
variable {E:Env} {f:FuncId} {s s':St} {o:Oper}
theorem aZ.put (s:St) (d:Option Tmp) (x:SV):aZ s (s.put d x):=by
 cases d with
 |none=>exact aZ.refl s
 |some d=>
  simp only [St.put];split
  ·exact ⟨⟨[_],rfl⟩,⟨[],rfl⟩,rfl⟩
  ·exact aZ.refl s
theorem aZ.cP (s:St) (G:List GO):aZ s (s.cP G):=⟨⟨[],rfl⟩,⟨[],rfl⟩,rfl⟩
theorem aZ.fj (s:St) (o:GO):aZ s (s.fj o):=⟨⟨[],rfl⟩,⟨[],rfl⟩,rfl⟩
theorem aZ.xI (s:St) (d:Nat) (cs:List AV):aZ s (s.xI d cs):=⟨⟨[],rfl⟩,⟨[_],rfl⟩,rfl⟩
theorem aZ.kill (s:St) (d:Nat):aZ s (s.kill d):=⟨⟨[_],rfl⟩,⟨[],rfl⟩,rfl⟩
theorem LB {c:Bool} {s':St} (h:jq E f s o=some (c,s')):aZ s s':=by
 unfold jq at h;cases h
theorem IG {c:Bool} (h:an E f s o=some (c,s')):aZ s s':=by
 have alloc:∀ {el:TypeId} {cs:List AV} {c:Bool} {s':St},gq E f s o.dst el cs=some (c,s')→aZ s s':=by
  intro el cs c s' h;unfold gq at h
  repeat' (split at h)
  all_goals (first|(cases h; done) | skip)
  ·injection h with h; injection h with _ h; subst h; exact (aZ.fj _ _).trans (aZ.put _ _ _)
  ·injection h with h; injection h with _ h; subst h; exact ((aZ.kill _ _).trans (aZ.xI _ _ _)).trans (aZ.put _ _ _)
 have store:∀ {t:TypeId} {p x:SV} {s':St},kY E s t p x=some s'→aZ s s':=by
  intro t p x s' h;unfold kY at h
  repeat' (split at h)
  all_goals (first|(cases h; done) | skip)
  all_goals (injection h with h; subst h)
  ·exact aZ.xI _ _ _
  ·exact aZ.cP _ _
 have H3:∀ {t:TypeId} {p x:SV} {c:Bool} {s':St},kZ E s t p x=some (c,s')→aZ s s':=by
  intro t p x c s' h;unfold kZ at h
  repeat' (split at h)
  all_goals (first|(cases h; done) | skip)
  all_goals (injection h with h; injection h with _ h; subst h)
  all_goals (first|exact aZ.cP _ _ | exact store (by assumption))
 have blt:∀ {b:Builtin} {l:List AV} {tys:List TypeId} {c:Bool} {s':St},bU E s o.dst b l tys=some (c,s')→aZ s s':=by
  intro b l tys c s' h;unfold bU at h
  repeat' (split at h)
  all_goals (first|(cases h; done) | skip)
  all_goals (injection h with h; injection h with _ h; subst h)
  all_goals (first|exact aZ.put _ _ _ | exact (aZ.cP _ _).trans (aZ.put _ _ _) | exact aZ.cP _ _)
 have update:∀ {t:TypeId} {m k x:SV} {s':St},gr E s t m k x=some s'→aZ s s':=by
  intro t m k x s' h;unfold gr at h
  repeat' (split at h)
  all_goals (first|(cases h; done) | skip)
  all_goals (injection h with h; subst h; exact aZ.cP _ _)
 have next:∀ {x:SV} {s':St},nf s o.dst x=some s'→aZ s s':=by
  intro x s' h;unfold nf at h;split at h
  ·split at h
   ·rename_i l pos hg;cases hb:Nat.blt pos l.length <;> rw [hb] at h <;> simp only [cond_true,cond_false] at h <;> cases h
    ·exact aZ.put _ _ _
    ·exact (aZ.cP _ _).trans (aZ.put _ _ _)
   ·cases h
  ·cases h
 have H4:∀ {t:TypeId} {m k:SV} {c:Bool} {v:AV} {s':St},iq E s t m k=some (c,v,s')→aZ s s':=by
  intro t m k c v s' h;unfold iq at h
  repeat' (split at h)
  all_goals (first|(cases h; done) | skip)
  all_goals (injection h with h; injection h with _ h; injection h with _ h; subst h; exact aZ.cP _ _)
 have H5:∀ {m st x:SV} {c:Bool} {s':St},fK s m st x=some (c,s')→aZ s s':=by
  intro m st x c s' h;unfold fK at h
  repeat' (split at h)
  all_goals (first|(cases h; done) | skip)
  all_goals (injection h with h; injection h with _ h; subst h; exact aZ.cP _ _)
 unfold an at h
 repeat' (split at h)
 all_goals (first|(cases h; done) | exact alloc h | exact blt h | (rename_i hf; cases h; exact LB hf) | skip)
 all_goals (injection h with h; injection h with _ h; subst h)
 all_goals (first|exact aZ.put _ _ _ | exact (aZ.fj _ _).trans (aZ.put _ _ _) | skip)
 all_goals (first|exact H3 (by assumption) | exact update (by assumption) | exact (H4 (by assumption)).trans (aZ.put _ _ _) | exact H5 (by assumption) | exact next (by assumption))
theorem cO.jc {g:FuncId} {args W7:List AV} {G:List GO} {Q:AV→List GO→Prop} (hw:de args W7) (h:cO E g W7 G Q):cO E g args G Q:=
 ⟨h.1,fun R w cs hg hl=>h.2 R w cs hg (hw.rel hl)⟩
theorem FZ {K:St→Prop} (h:lF E f o K s):lF E f o (fun s'=>K s'∧aZ s s') s:=by
 unfold lF at *;split
 ·rename_i x args tys ho;rw [ho] at h;simp only at h;split at h
  ·exact h.mono fun r G' hk=>⟨hk,(aZ.cP _ _).trans (aZ.put _ _ _)⟩
  ·exact h.mono fun r G' hk=>⟨hk,(aZ.cP _ _).trans (aZ.put _ _ _)⟩
  ·exact h
 ·rename_i ho;rw [ho] at h;exact h
 ·rename_i nc nd;split at h
  ·rename_i ho;exact absurd ho (nc _ _ _)
  ·exact h.elim
  ·split at h
   ·rename_i c s' hs;obtain ⟨hc,hk⟩:=h.out;exact eJ.mk hc ⟨hk,IG hs⟩
   ·exact h.elim
theorem nu {K:St→Prop} {ops:List Oper} (h:cA E f ops o K s):cA E f ops o (fun s'=>K s'∧aZ s s') s:=by
 unfold cA at *;split
 ·rename_i hg;rw [hg] at h;exact FZ h
 ·rename_i j want hg;rw [hg] at h;simp only at h;split
  ·rename_i hd;rw [hd] at h;exact h
  ·rename_i d hd;rw [hd] at h;simp only at h;split
   ·rename_i b hb;rw [hb] at h;simp only at h;refine ⟨fun e=>?_,fun e=>⟨h.2 e,(aZ.put _ _ _).trans (aZ.put _ _ _)⟩⟩;exact vE (FZ (h.1 e)) fun s' hh=>⟨hh.1,(aZ.put _ _ _).trans hh.2⟩
   ·rename_i hb;rw [hb] at h;exact ⟨h,aZ.put _ _ _⟩
   ·rename_i hb ka;split at h
    ·rename_i b Hf;exact absurd Hf (hb b)
    ·rename_i Hf;exact absurd Hf ka
    ·exact h
theorem BV {K K':St→Prop} {ops:List Oper} (h:hY E f ops o K s) (hK:∀ s,K s→K' s):hY E f ops o K' s:=by
 unfold hY at *;split
 ·rename_i s' h1 h2;rw [h1,h2] at h;exact hK _ h
 ·rename_i hn;split at h
  ·rename_i s' h1 h2;exact absurd h2 (hn s' h1)
  ·exact cB h hK
theorem xX {s':St} (h:ky E f s o=some s'):aZ s s':=by
 unfold ky at h
 repeat' (split at h)
 all_goals (first|(cases h; done) | skip)
 all_goals (injection h with h; subst h; exact (aZ.fj _ _).trans (aZ.put _ _ _))
theorem Eg {K:St→Prop} {ops:List Oper} (h:hY E f ops o K s):hY E f ops o (fun s'=>K s'∧aZ s s') s:=by
 unfold hY at *;split
 ·rename_i s' h1 h2;rw [h1,h2] at h;exact ⟨h,xX h2⟩
 ·rename_i hn;split at h
  ·rename_i s' h1 h2;exact absurd h2 (hn s' h1)
  ·exact nu h
theorem nN {K K':St→Prop} {ops:List Oper} (h:gz E f ops o K s) (hK:∀ s,K s→K' s):gz E f ops o K' s:=by
 unfold gz at *;split at h
 ·obtain ⟨h1,h2⟩:=h.out;exact eJ.mk h1 (hK _ h2)
 ·obtain ⟨h1,h2,h3⟩:=h.out;exact eJ.mk h1 ⟨fun e=>hK _ (h2 e),fun i hi=>let ⟨k1,k2⟩:=(h3 i hi).out; eJ.mk k1 (hK _ k2)⟩
 ·exact BV h hK
theorem LC {c:Bool} {s':St} (h:wJ E f s o=some (c,s')):aZ s s':=by
 unfold wJ at h;cases h
theorem IH {c:Bool} {s0:St} {left:List Nat} {g:Nat→Bool × St} (h:vn E s o=some (c,s0,left,g)):aZ s s0∧∀ i,aZ s (g i).2:=by
 unfold vn at h;split at h
 ·unfold Ce at h;split at h
  ·split at h
   ·split at h
    ·cases h;exact ⟨aZ.put _ _ _,fun i=>(aZ.cP _ _).trans (aZ.put _ _ _)⟩
    ·cases h
   ·cases h
  ·cases h
 ·cases h
theorem uC {K:St→Prop} {ops:List Oper} (h:gz E f ops o K s):gz E f ops o (fun s'=>K s'∧aZ s s') s:=by
 unfold gz at *;split at h
 ·rename_i hb;obtain ⟨h1,h2⟩:=h.out;exact eJ.mk h1 ⟨h2,LC hb⟩
 ·rename_i hb;obtain ⟨h1,h2,h3⟩:=h.out;obtain ⟨k1,k2⟩:=IH hb;exact eJ.mk h1 ⟨fun e=>⟨h2 e,k1⟩,fun i hi=>let ⟨q1,q2⟩:=(h3 i hi).out; eJ.mk q1 ⟨q2,k2 i⟩⟩
 ·exact Eg h
theorem nO {K K':St→Prop} {ops:List Oper} (h:gA E f ops o K s) (hK:∀ s,K s→K' s):gA E f ops o K' s:=by
 unfold gA at *;split at h
 ·exact ⟨h.1,nN h.2 hK⟩
 ·exact nN h hK
theorem jy {cut wk:Bool}:∀ {l:List Operand} {s s':St} {c:Bool},iU cut wk l s=(c,s')→aZ s s'
 |[],s,s',c,h=>by
  simp only [iU] at h;cases h;exact aZ.refl _
 |.tmp t :: l,s,s',c,h=>by
  unfold iU at h;split at h
  ·rename_i c1 s1 h1;cases h2:iU cut wk l s1 with
   |mk c2 s2=>
   rw [h2] at h;simp only [abt] at h;obtain ⟨_,rfl⟩:=h;exact (qE h1).trans (jy h2)
  ·exact jy h
 |.const _ :: l,s,s',c,h=>jy (l:=l) h
 |.global _ :: l,s,s',c,h=>jy (l:=l) h
 |.func _ :: l,s,s',c,h=>jy (l:=l) h
theorem NV {s s':St} {o:Oper} {c:Bool} (h:KU E f s o=some (c,s')):aZ s s':=by
 unfold KU at h;split at h
 ·split at h
  ·injection h with h;exact jy h
  ·cases h
 ·cases h
theorem Eh {K:St→Prop} {ops:List Oper} (h:gA E f ops o K s):gA E f ops o (fun s'=>K s'∧aZ s s') s:=by
 unfold gA at *;split at h
 ·rename_i c s' hz;exact ⟨h.1,nN (uC h.2) fun s2 h2=>⟨h2.1,(NV hz).trans h2.2⟩⟩
 ·exact uC h
theorem Aw {s s':St} {l:Loc} {sz:Nat} {e:TypeId} (h:qC s l sz e=some s'):aZ s s':=by
 unfold qC at h;cases HY:aaB 196608 sz with
 |true=>rw [HY] at h; cases h; exact aZ.fj _ _
 |false=>
 rw [HY] at h;cases l with
 |slot t=>
  simp only at h;split at h
  ·cases h; exact ⟨⟨[_],rfl⟩,⟨[],rfl⟩,rfl⟩
  ·cases h
 |box k i=>
  simp only at h;split at h
  ·split at h
   ·cases h; exact ⟨⟨[],rfl⟩,⟨[_],rfl⟩,rfl⟩
   ·cases h
  ·cases h
 |row id i=>
  simp only at h;split at h
  ·split at h
   ·cases h; exact ⟨⟨[],rfl⟩,⟨[],rfl⟩,rfl⟩
   ·cases h
  ·cases h
theorem pF:∀ {l:List (Loc × Nat × TypeId)} {s s':St},ji l s=some s'→aZ s s'
 |[],s,s',h=>by
  simp only [ji] at h;cases h;exact aZ.refl _
 |(l,sz,e) :: r,s,s',h=>by
  unfold ji at h;split at h
  ·rename_i s1 h1;exact (Aw h1).trans (pF h)
  ·cases h
theorem qX:∀ {l:List (Loc × Nat × TypeId)} {s:St},aZ s (ku l s)
 |[],s=>aZ.refl _
 |(l,sz,e) :: r,s=>by
  unfold ku;split
  ·rename_i s1 h1;exact (Aw h1).trans qX
  ·exact qX
theorem LD {s s':St} {o:Oper} (h:CB E f o s=some s'):aZ s s':=by
 unfold CB at h;split at h
 ·cases h; exact aZ.refl _
 ·split at h
  ·split at h
   ·rename_i hz;cases h;exact qE hz
   ·cases h
  ·split at h
   ·cases h; exact aZ.refl _
   ·split at h
    ·cases h; exact qX
    ·cases h
theorem Ax {K K':St→Prop} {ops:List Oper} (hK:∀ s,K s→K' s):∀ {l:List Oper} {s:St},qH E f ops l K s→qH E f ops l K' s
 |[],s,h=>hK s h
 |_ :: _,_,h=>nO h fun s' h'=>by
  unfold CD at *;split at h'
  ·exact Ax hK h'
  ·exact h'.elim
theorem Ay {K K':St→Prop} {ops:List Oper} (hK:∀ s,K s→K' s) {T:DT} {s:St} (h:vi E f ops T K s):vi E f ops T K' s:=
 gF (ops:=⟨ops⟩) hK T s h
theorem CR {K:St→Prop} {ops:List Oper}:∀ {l:List Oper} {s:St},qH E f ops l K s→qH E f ops l (fun s'=>K s'∧aZ s s') s
 |[],s,h=>⟨h,aZ.refl s⟩
 |o :: l,s,h=>by
  simp only [qH] at *;refine nO (Eh h) fun s' hh=>?_
  obtain ⟨h1,h2⟩:=hh;unfold CD at *;split at h1
  ·rename_i s2 hp;exact Ax (fun s3 h3=>⟨h3.1,(h2.trans (LD hp)).trans h3.2⟩) (CR h1)
  ·exact h1.elim
theorem uD {K:St→Prop} {ops:List Oper}:∀ {T:DT} {s:St},vi E f ops T K s→vi E f ops T (fun s'=>K s'∧aZ s s') s
 |.done,s,h=>⟨h,aZ.refl s⟩
 |.stop,_,_=>trivial
 |.take j C T,s,h=>by
  unfold vi at h ⊢;split
  ·rename_i oj hj;rw [hj] at h;exact cB (nu h) fun s' hh=>Ay (fun s2 h2=>⟨h2.1,hh.2.trans h2.2⟩) (uD hh.1)
  ·rename_i hj;rw [hj] at h;exact h
 |.al j W T,s,h=>by
  unfold vi at h ⊢;split
  ·rename_i oj hj;rw [hj] at h;exact ⟨h.1,cB (nu h.2) fun s' hh=>Ay (fun s2 h2=>⟨h2.1,hh.2.trans h2.2⟩) (uD hh.1)⟩
  ·rename_i hj;rw [hj] at h;exact h
 |.br i re C T more,s,h=>by
  unfold vi at h ⊢;refine ⟨?_,uD h.2⟩;have h:=h.1;split
  ·rename_i oj hj;rw [hj] at h;exact cB (nu h) fun s' hh=>⟨hh.1.1,Ay (fun s2 h2=>⟨h2.1,hh.2.trans h2.2⟩) (uD hh.1.2)⟩
  ·rename_i hj;rw [hj] at h;exact h
end ext
def nP (E:Env) (c:Code) (Q:Exit→St→Prop) (s:St):Prop:=hU E c (fun e s'=>Q e s'∧aZ s s') s
section sound
variable {E:Env} {f:FuncId} {s:St} {X:Type} {fz:Bool} {call:qV X} {nt:nL X} {gv:Option X→Option X→Option X} {x:X}
def pG (E:Env) (call:qV X):Prop:=∀ g args G K x,call g args G K=some x→cO E g args G (fun r G'=>K r G'=some x)
def xm (E:Env) (nt:nL X):Prop:=∀ id args G K x,nt id args G K=some x→mh E id args G (fun b G'=>K b G'=some x)
theorem bt {α:Type} {c:Bool} {a:Option α} {x:α} (h:(bif c then a else none)=some x):c=true∧a=some x:=by
 cases c
 ·cases h
 ·exact ⟨rfl,h⟩
theorem bind_some {α β:Type} {a:Option α} {k:α→Option β} {x:β} (h:a.bind k=some x):∃ y,a=some y∧k y=some x:=by
 cases a with
 |none=>cases h
 |some y=>exact ⟨y,rfl,h⟩
theorem LF {o:Oper} {n:Int} {len:Nat} {g:Nat→Oper} (h:Ed E s o=some (n,len,g)) {j:Nat} (hj:n=(j:Int)):an E f s (g j)=an E f s o:=by
 subst hj;unfold Ed at h;have Hb:∀ k:IntKind,bQ E s.ab (.const (.int k (j:Int)))=.v (.int k j):=fun k=>rfl
 split at h
 ·rename_i t x y ho;split at h
  ·rename_i k n i h1 h2;split at h
   ·injection h with h; injection h with e1 h; injection h with e2 h;subst h; subst e1;simp only [an,ho,Hb,h1]
   ·cases h
  ·cases h
 ·rename_i t x y ho;split at h
  ·rename_i k n i h1 h2;split at h
   ·split at h
    ·split at h
     ·cases h
     ·injection h with h; injection h with e1 h; injection h with e2 h;subst h; subst e1;simp only [an,ho,Hb,h1]
    ·injection h with h; injection h with e1 h; injection h with e2 h;subst h; subst e1;simp only [an,ho,Hb,h1]
   ·cases h
  ·cases h
 ·cases h
theorem sH {o:Oper} {n:Int} {len:Nat} {g:Nat→Oper} (hi:Ed E s o=some (n,len,g)) {K:St→Option X}:∀ (m j:Nat),yB E fz f g n K s m j=some x→∃ c s',an E f s o=some (c,s')∧c=true∧K s'=some x
 |0,_,h=>by cases h
 |m+1,j,h=>by
  unfold yB at h;by_cases hn:n=(j:Int)
  ·rw [decide_eq_true hn,cond_true,LF hi hn] at h;split at h
   ·rename_i c s' hs;obtain ⟨h1,h2⟩:=bt h;rw [dK] at h2;exact ⟨c,s',hs,h1,h2⟩
   ·cases h
  ·rw [decide_eq_false hn,cond_false] at h;exact sH hi m (j+1) h
theorem Az {ops:List Oper} {o:Oper} (h:YJ E f ops o s=true):Ig E f ops o s:=by
 unfold YJ at h;split at h
 ·rename_i t m k ok d ho hd;split at h
  ·rename_i c v b hg hs;rw [aad] at h;obtain ⟨rfl,h⟩:=h;have hn:=uy hs;unfold Ig;rw [hg];simp only;have e:an E f s o=some (true,s.put o.dst (.v (if ok then .bu [v,.bool b] else v))):=by simp only [an,ho,hn]
   rw [hd] at e;rw [hd,e];refine ⟨rfl,?_⟩;unfold St.put;simp only;split
   ·rw [aC];exact CL h
   ·rfl
  ·exact CM h
 ·exact CM h
theorem sI {ops:List Oper}:∀ {l:List Nat} {s:St},rW E f ops l s=true→CI E f ops l s
 |[],_,_=>trivial
 |k :: l,s,h=>by
  unfold rW at h;unfold CI;rw [aad] at h;refine ⟨?_,sI h.2⟩;have h:=h.1;split at h
  ·rename_i hk
   first
    |exact Az h
    |rw [hk]; exact Az h
  ·rename_i hk
   first
    |trivial
    |rw [hk]; trivial
theorem vL (hc:pG E call) (hr:xm E nt) {o:Oper} {K:St→Option X} (h:YI E fz call nt f o K s=some x):lF E f o (fun s=>K s=some x) s:=by
 unfold lF;split
 ·rename_i y args tys ho;unfold YI at h;rw [ho] at h;simp only at h;split at h
  ·rename_i h1 h2;rw [h1,h2];refine (hc _ _ _ _ _ h).mono fun r G' hk=>?_
   rw [dK] at hk;exact hk
  ·rename_i h1 h2;rw [h1,h2];refine (hr _ _ _ _ _ h).mono fun r G' hk=>?_
   rw [dK] at hk;exact hk
  ·cases h
 ·rename_i ho;unfold YI at h;rw [ho] at h;cases h
 ·rename_i nc nd;unfold YI at h;split at h
  ·rename_i ho;exact absurd ho (nc _ _ _)
  ·cases h
  ·rename_i y ho;split at h
   ·rename_i b s1 s2 hs;have hn:=IA hs;have e:an E f s o=some (true,bif b then s1 else s2):=by simp only [an,ho,hn]
    rw [e];refine eJ.mk rfl ?_;rw [dK,dK] at h;cases b <;> exact h
   ·cases h
  ·rename_i t m k ok ho;split at h
   ·rename_i c v b hs;obtain ⟨h1,h2⟩:=bt h;subst h1;rw [dK] at h2;have hn:=uy hs;have e:an E f s o=some (true,s.put o.dst (.v (if ok then .bu [v,.bool b] else v))):=by simp only [an,ho,hn]
    rw [e];exact eJ.mk rfl h2
   ·split at h
    ·rename_i c s' hs;obtain ⟨h1,h2⟩:=bt h;rw [dK] at h2;rw [hs];exact eJ.mk h1 h2
    ·cases h
  ·rename_i t m k z ho;split at h
   ·rename_i c s' hd hs;obtain ⟨h1,h2⟩:=bt h;subst h1;rw [dK] at h2;have hn:=uz hs;have e:an E f s o=some (true,s'):=by simp only [an,ho,hd,hn]
    rw [e];exact eJ.mk rfl h2
   ·cases h
  ·rename_i t m k z ho;split at h
   ·rename_i c s' hd hs;obtain ⟨h1,h2⟩:=bt h;subst h1;rw [dK] at h2;have hn:=uz hs;have e:an E f s o=some (true,s'):=by simp only [an,ho,hd,hn]
    rw [e];exact eJ.mk rfl h2
   ·cases h
  ·rename_i args tys ho;split at h
   ·rename_i c s' hf;obtain ⟨h1,h2⟩:=bt h;rw [dK] at h2;have e:an E f s o=some (c,s'):=by simp only [an,ho,hf]
    rw [e];exact eJ.mk h1 h2
   ·rename_i hf;split at h
    ·rename_i l hl;split at h
     ·rename_i b s1 c s2 hs;have Mw:b=false→c=true:=fun e=>by subst e; exact (bt (show (bif c then td fz s2 K else none)=some x from h)).1
      have hn:=Ea hs Mw;have e:an E f s o=some (true,bif b then s1 else s2):=by simp only [an,ho,hf,hl,hn]
      rw [e];refine eJ.mk rfl ?_;cases b with
      |true=>
       show K s1=some x;rw [← dK fz s1 K];exact h
      |false=>
       obtain ⟨h1,h2⟩:=bt (show (bif c then td fz s2 K else none)=some x from h);rw [dK] at h2;exact h2
     ·split at h
      ·rename_i c s' hs;obtain ⟨h1,h2⟩:=bt h;rw [dK] at h2;rw [hs];exact eJ.mk h1 h2
      ·cases h
    ·cases h
  ·rename_i args tys ho;split at h
   ·rename_i l hl;split at h
    ·rename_i c s' hs;obtain ⟨h1,h2⟩:=bt h;subst h1;rw [dK] at h2;have hn:=IB hs;have hf:jq E f s o=none:=by
      cases hf:jq E f s o with
      |none=>rfl
      |some r=>
       obtain ⟨_,_,h2⟩:=uq hf;rw [ho] at h2;cases h2
     have e:an E f s o=some (true,s'):=by simp only [an,ho,hf,hl,hn]
     rw [e];exact eJ.mk rfl h2
    ·split at h
     ·rename_i c s' hs;obtain ⟨h1,h2⟩:=bt h;rw [dK] at h2;rw [hs];exact eJ.mk h1 h2
     ·cases h
   ·cases h
  ·split at h
   ·rename_i n len g hi;obtain ⟨c,s',hs,h1,h2⟩:=sH hi _ _ h;rw [hs];exact eJ.mk h1 h2
   ·split at h
    ·rename_i c s' hs;obtain ⟨h1,h2⟩:=bt h;rw [dK] at h2;rw [hs];exact eJ.mk h1 h2
    ·cases h
theorem lI (hc:pG E call) (hr:xm E nt) {ops:List Oper} {o:Oper} {K:St→Option X} (h:qW E fz call nt f ops o K s=some x):cA E f ops o (fun s=>K s=some x) s:=by
 unfold qW at h;unfold cA;split at h
 ·rename_i hg;rw [hg];exact vL hc hr h
 ·rename_i j want hg;rw [hg];simp only;split at h
  ·cases h
  ·rename_i d hd;rw [hd];simp only;split at h
   ·rename_i b hb;rw [hb];simp only;cases want with
    |true=>
     simp only at h;rw [dK,dK] at h;refine ⟨fun e=>?_,fun e=>?_⟩
     ·subst e;exact vL hc hr h
     ·have e:b=false:=by simpa using e
      subst e;exact h
    |false=>
     simp only at h;rw [dK,dK] at h;refine ⟨fun e=>?_,fun e=>?_⟩
     ·subst e;exact vL hc hr h
     ·have e:b=true:=by simpa using e
      subst e;exact h
   ·rename_i hb;rw [hb];rw [dK] at h;exact h
   ·cases h
theorem BW (hc:pG E call) (hr:xm E nt) {ops:List Oper} {o:Oper} {K:St→Option X} (h:Ee E fz call nt f ops o K s=some x):hY E f ops o (fun s=>K s=some x) s:=by
 unfold Ee at h;unfold hY;split at h
 ·rename_i s' h1 h2;rw [h1,h2];rw [dK] at h;exact h
 ·rename_i hn;split
  ·rename_i s' h1 h2;exact absurd h2 (hn s' h1)
  ·exact lI hc hr h
theorem sJ (hc:pG E call) (hr:xm E nt) {ops:List Oper} {o:Oper} {K:St→Option X} (h:yC E fz call nt f ops o K s=some x):gz E f ops o (fun s=>K s=some x) s:=by
 unfold yC at h;unfold gz;split at h
 ·rename_i c s' h1 h2;rw [h1,h2];obtain ⟨q1,q2⟩:=bt h;rw [dK] at q2;exact eJ.mk q1 q2
 ·rename_i c s0 left g h1 h2 h3;rw [h1,h2,h3];obtain ⟨q1,q2⟩:=bt h;refine eJ.mk q1 ?_;cases left with
  |nil=>
   simp only [List.isEmpty_nil,cond_true,dK] at q2;exact ⟨fun _=>q2,fun i hi=>by simp at hi⟩
  |cons i0 l=>
   simp only [List.isEmpty_cons,cond_false] at q2;refine ⟨fun e=>(by cases e),fun i hi=>?_⟩;obtain ⟨r1,r2⟩:=bt (LA q2 i hi);rw [dK] at r2;exact eJ.mk r1 r2
 ·rename_i Jq hn2;split
  ·rename_i c s' h1 h2
   first
    |exact absurd h2 (Jq c s' h1)
    |exact absurd h2 (hn2 c s' h1)
  ·rename_i c s0 left g h1 h2 h3
   first
    |exact absurd h3 (hn2 c s0 left g h1 h2)
    |exact absurd h3 (Jq c s0 left g h1 h2)
  ·exact BW hc hr h
theorem BX (hc:pG E call) (hr:xm E nt) {ops:List Oper} {o:Oper} {K:St→Option X} (h:Ef E fz call nt f ops o K s=some x):gA E f ops o (fun s=>K s=some x) s:=by
 unfold Ef at h;unfold gA;split at h
 ·rename_i c s' hz;rw [hz];obtain ⟨h1,h2⟩:=bt h;exact ⟨h1,sJ hc hr h2⟩
 ·rename_i hz;rw [hz];exact sJ hc hr h
theorem AA (hc:pG E call) (hr:xm E nt) {ops:List Oper}:∀ {l:List Oper} {K:St→Option X} {s:St},Sv E fz call nt f ops l K s=some x→qH E f ops l (fun s=>K s=some x) s
 |[],_,_,h=>h
 |o :: l,K,s,h=>by
  unfold Sv at h;unfold qH;refine nO (BX hc hr h) fun s' h'=>?_
  unfold CD;split at h'
  ·rename_i s2 hp;rw [hp];exact AA hc hr h'
  ·cases h'
theorem kK (hc:pG E call) (hr:xm E nt) (hm:xl gv) {ops:List Oper}:∀ {T:DT} {K:St→Option X} {s:St} {x:X},oT E fz call nt gv f ops T K s=some x→vi E f ops T (fun s=>K s=some x) s
 |.done,_,_,_,h=>h
 |.stop,_,_,_,_=>trivial
 |.take j C T,K,s,x,h=>by
  unfold oT at h;unfold vi;split at h
  ·rename_i hk;rw [hk];exact cB (lI hc hr h) fun s' h'=>kK hc hr hm h'
  ·cases h
 |.al j W T,K,s,x,h=>by
  unfold oT at h;unfold vi;split at h
  ·rename_i hk;obtain ⟨h1,h2⟩:=bt h;rw [hk];exact ⟨h1,cB (lI hc hr h2) fun s' h'=>kK hc hr hm h'⟩
  ·cases h
 |.br i re C T more,K,s,x,h=>by
  have first:∀ {x:X},(match nth ops i with
   |some oi=>qW E fz call nt f ops oi (fun s'=>bif rW E f ops re s' then oT E fz call nt gv f ops T K s' else none) s
   |none=>none)=some x→(match nth ops i with
   |some oi=>cA E f ops oi (fun s'=>CI E f ops re s'∧vi E f ops T (fun s=>K s=some x) s') s
   |none=>False):=by
   intro x h;split at h
   ·rename_i hk;refine cB (lI hc hr h) fun s' h'=>?_
    obtain ⟨h1,h2⟩:=bt h';exact ⟨sI h1,kK hc hr hm h2⟩
   ·cases h
  unfold vi;cases more with
  |stop=>exact ⟨first h,trivial⟩
  |done=>obtain ⟨h1,h2⟩:=hm _ _ _ h; exact ⟨first h1,kK (T:=.done) hc hr hm h2⟩
  |take a b c=>obtain ⟨h1,h2⟩:=hm _ _ _ h; exact ⟨first h1,kK hc hr hm h2⟩
  |br a b c d e=>obtain ⟨h1,h2⟩:=hm _ _ _ h; exact ⟨first h1,kK hc hr hm h2⟩
  |al a b c=>obtain ⟨h1,h2⟩:=hm _ _ _ h; exact ⟨first h1,kK hc hr hm h2⟩
end sound
end Go.Am
