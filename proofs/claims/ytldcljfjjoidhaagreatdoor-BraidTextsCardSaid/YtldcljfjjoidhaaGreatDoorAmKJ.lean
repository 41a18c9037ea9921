/- The abstract machine: maps and ranges over strings on values with leaves. -/
import Derived.Test.YtldcljfjjoidhaaGreatDoorAmKI
set_option linter.all false
open Bool renaming and_eq_true→aab
open Classical renaming propDecidable→aaf
open List renaming length_append→aah, mem_cons_of_mem→aao, mem_cons_self→aap, nodup_nil→aa0
open Nat renaming beq→aac, eq_of_beq_eq_true→aad, ble→aae, min→aag, ble_eq_true_of_le→aai, lt_or_ge→aa2
open Option renaming isSome_iff_exists→aaF
open Option.some renaming inj→aaZ
open Prod.mk renaming injEq→aa1
namespace Go.Am
open Go
def L6 (s:St) (dst:Option Tmp) (x:SV):Option (Bool × St × St):=match x with
 |.v (.ptr id 0)=>match nth s.G id with
  |some (.gy l pos)=>some (Nat.blt pos l.length,(s.cH (aI s.G id (.gy l (pos+(bz l pos).2)))).put dst (.v (.bq [.bool true,.int .i64 pos,.int .i32 (bz l pos).1])),s.put dst (.v (.bq [.bool false])))
  |_=>none
 |_=>none
theorem GS {s:St} {dst:Option Tmp} {x:SV} {b:Bool} {s1 s2:St} (h:L6 s dst x=some (b,s1,s2)):lL s dst x=some (bif b then s1 else s2):=by
 unfold L6 at h;split at h
 ·split at h
  ·rename_i l pos hg;cases h;simp only [lL,hg];cases Nat.blt pos l.length <;> rfl
  ·cases h
 ·cases h
theorem Im {e:EK} {k:AV}:∀ {es:List (AV × AV)},gz e k es=true→j6 e k es=some (kB e k es)
 |[],_=>rfl
 |(k',v) :: l,h=>by
  simp only [gz,aab] at h;obtain ⟨b,hb⟩:=aaF.1 h.1;simp only [j6,kB,xB,hb];cases b
  ·simp only [cond_false]; exact Im h.2
  ·rfl
theorem L7 {e:EK} {k v:AV}:∀ {es:List (AV × AV)},gz e k es=true→ui e k v es=some (gH e k v es)
 |[],_=>rfl
 |(k',v') :: l,h=>by
  simp only [gz,aab] at h;obtain ⟨b,hb⟩:=aaF.1 h.1;simp only [ui,gH,xB,hb];cases b
  ·simp only [cond_false,L7 h.2]
  ·rfl
mutual
def aP.flat:aP→Bool
 |.int _=>true
 |.bool=>true
 |.str=>true
 |.agg ps=>ps.flat
 |.bK _ _ p=>p.flat
 |_=>false
def aM.flat:aM→Bool
 |.nil=>true
 |.cons p ps=>p.flat&&ps.flat
end
theorem Ek {α:Type} {f:AV→Bool} {d:AV→α} {g:α→AV} (h:∀ a,f a=true→g (d a)=a):∀ {es:List AV},allFit f es=true→(es.map d).map g=es
 |[],_=>rfl
 |a :: l,hl=>by
  simp only [allFit,aab] at hl;rw [List.map_cons,List.map_cons,h a hl.1,Ek h hl.2]
mutual
theorem aP.jG:∀ {p:aP},p.flat=true→∀ {a:AV},p.fits a=true→p.enc (p.bJ a)=a
 |.int k,_,a,h=>by
  cases a <;> first | (cases h; done) | skip
  have hk:Vc _ _=true:=h;rw [FI hk]; rfl
 |.bool,_,a,h=>by cases a <;> first | (cases h; done) | rfl
 |.str,_,a,h=>by cases a <;> first | (cases h; done) | rfl
 |.agg ps,hp,a,h=>by
  cases a <;> first | (cases h; done) | skip
  exact congrArg AV.agg (aM.jG (ps:=ps) hp h)
 |.bq _,hp,_,_=>by cases hp
 |.list _ _,hp,_,_=>by cases hp
 |.own _ _ _,hp,_,_=>by cases hp
 |.bK id sz p,hp,a,h=>by
  cases a <;> first | (cases h; done) | skip
  rename_i k bV es;cases k <;> first | (cases h; done) | skip
  rename_i jP j;simp only [aP.fits,aab] at h;have e1:=aad h.1.1;have e2:=aad h.1.2;subst e1 e2;have hp:p.flat=true:=hp;show AV.list (.bK id j) sz ((es.map p.bJ).map p.enc)=_;rw [Ek (fun a ha=>aP.jG hp ha) h.2]
 |.bT _,hp,_,_=>by cases hp
 |.two _ _,hp,_,_=>by cases hp
theorem aM.jG:∀ {ps:aM},ps.flat=true→∀ {l:List AV},ps.fits l=true→ps.enc (ps.bJ l)=l
 |.nil,_,l,h=>by
  cases l with
  |nil=>rfl
  |cons _ _=>cases h
 |.cons p .nil,hp,l,h=>by
  simp only [aM.flat,aab] at hp;cases l with
  |nil=>cases h
  |cons a l=>
   simp only [aM.fits,aab] at h;cases l with
   |nil=>exact congrArg (fun x=>[x]) (aP.jG hp.1 h.1)
   |cons _ _=>cases h.2
 |.cons p (.cons q ps),hp,l,h=>by
  rw [aM.flat,aab] at hp;cases l with
  |nil=>cases h
  |cons a l=>
   rw [aM.fits,aab] at h;have h1:=aP.jG hp.1 h.1;have h2:=aM.jG (ps:=.cons q ps) hp.2 h.2;show p.enc (p.bJ a) :: (aM.cons q ps).enc ((aM.cons q ps).bJ l)=a :: l;rw [h1,h2]
end
def wX (E:Env) (s:St) (t:TypeId) (m k:SV):Option (Bool × AV × Bool):=match Ug E s.G t,E.ti t,mapOf s m,k with
 |some p,some i,some es,.v k=>match i.k with
  |.map kt _ (some z)=>match E.ti kt with
   |some j=>if j.ek.plain&&jn j.ek k&&p.flat then
     some (gz j.ek k es&&p.fits (eP j.ek k (Dp E s.G t z) es),p.enc (p.bJ (eP j.ek k (Dp E s.G t z) es)),(kB j.ek k es).isSome)
    else none
   |none=>none
  |_=>none
 |_,_,_,_=>none
theorem tC {E:Env} {s:St} {t:TypeId} {m k:SV} {v:AV} {b:Bool} (h:wX E s t m k=some (true,v,b)):lK E s t m k=some (v,b):=by
 unfold wX at h;split at h
 ·rename_i p i es k h1 h2 h3;split at h
  ·rename_i kt et z hk;split at h
   ·rename_i j hj;split at h
    ·rename_i hc;simp only [aab] at hc;injection h with h;injection h with h4 h;injection h with h5 h6;rw [aab] at h4;rw [aP.jG hc.2 h4.2] at h5;have e:j6 j.ek k es=some (kB j.ek k es):=Im h4.1;have A0:(j.ek.plain&&jn j.ek k)=true:=by rw [hc.1.1,hc.1.2]; rfl
     have e0:mK E s t m (.v k)=some ((kB j.ek k es).getD z,(kB j.ek k es).isSome):=by
      simp only [mK,h2,h3,hk,hj,A0,if_true,e];cases kB j.ek k es <;> rfl
     unfold lK;rw [e0];unfold eP at h5;cases hg:kB j.ek k es with
     |none=>
      rw [hg] at h5 h6;subst h5 h6;rfl
     |some v'=>
      rw [hg] at h5 h6;subst h5 h6;rfl
    ·cases h
   ·cases h
  ·cases h
 ·cases h
def wY (E:Env) (s:St) (t:TypeId) (m k x:SV):Option (Bool × St):=match E.ti t,m,k,x with
 |some i,.v (.map id),.v k,.v x=>match i.k,nth s.G id with
  |.map kt _ _,some (.map es)=>match E.ti kt with
   |some j=>if j.ek.plain&&jn j.ek k then some (gz j.ek k es,s.cH (aI s.G id (.map (gH j.ek k x es)))) else none
   |none=>none
  |_,_=>none
 |_,_,_,_=>none
theorem tD {E:Env} {s s':St} {t:TypeId} {m k x:SV} (h:wY E s t m k x=some (true,s')):fc E s t m k x=some s':=by
 unfold wY at h;split at h
 ·rename_i i id k x h1;split at h
  ·rename_i kt _ _ es hk hg;split at h
   ·rename_i j hj;split at h
    ·rename_i hc;injection h with h;injection h with h4 h5;simp only [fc,h1,hk,hg,hj,hc,if_true,L7 h4,h5]
    ·cases h
   ·cases h
  ·cases h
 ·cases h
def L8 (E:Env) (s:St) (dst:Option Tmp) (l:List AV) (tys:List TypeId):Option (Bool × St):=match l,tys with
 |[.j7 id off sz len _,.str bs],t :: _=>match E.ti t,nth s.G id with
  |some i,some (.row cs el)=>match i.k with
   |.sl _ esz _ _ _=>if aac sz esz&&aac esz 1 then
     some (aae (off+(bs.take (aag bs.length len)).length) cs.length,
      (s.cH (aI s.G id (.row (bh cs off ((bs.take (aag bs.length len)).map jt)) el))).put dst (.v (.int .i64 (aag bs.length len))))
    else none
   |_=>none
  |_,_=>none
 |[.j7 id off sz len _,.list _ bV es],t :: _=>match E.ti t,nth s.G id with
  |some i,some (.row cs el)=>match i.k with
   |.sl _ esz _ _ _=>if aac sz esz&&aac bV esz then
     some (aae (off+(aq (es.take (aag es.length len))).length) cs.length,
      (s.cH (aI s.G id (.row (bh cs off (aq (es.take (aag es.length len)))) el))).put dst (.v (.int .i64 (aag es.length len))))
    else none
   |_=>none
  |_,_=>none
 |[.eF id f off sz len,.list _ bV xs],t :: _=>match E.ti t,nth s.G id with
  |some i,some (.dZ es szo el)=>match i.k with
   |.sl _ esz _ _ _=>if aac sz esz&&aac szo sz&&aac bV esz then
     some (decide (f=es.length)&&decide (off+aag xs.length len≤es.length),
      (s.cH (aI s.G id (.dZ (bh es off (xs.take (aag xs.length len))) szo el))).put dst (.v (.int .i64 (aag xs.length len))))
    else none
   |_=>none
  |_,_=>none
 |_,_=>none
theorem GU {E:Env} {s s':St} {dst:Option Tmp} {l:List AV} {tys:List TypeId} (h:L8 E s dst l tys=some (true,s')):bW E s dst .copy l tys=some (true,s'):=by
 unfold L8 at h;split at h
 ·rename_i id off sz len cap bs t ts;split at h
  ·rename_i i cs el hi hid;split at h
   ·rename_i a1 esz a2 a3 a4 hk;split at h
    ·rename_i hc;rw [aab] at hc;injection h with h;injection h with h1 h2;have xG:(aac esz 1&&aae (off+(bs.take (aag bs.length len)).length) cs.length)=true:=by rw [hc.2,h1]; rfl
     simp only [bW,hi,hk,sQ,hid,hc.1,if_true,xG,h2]
    ·cases h
   ·cases h
  ·cases h
 ·rename_i id off sz len cap k bV es t ts;split at h
  ·rename_i i cs el hi hid;split at h
   ·rename_i a1 esz a2 a3 a4 hk;split at h
    ·rename_i hc;rw [aab] at hc;injection h with h;injection h with h1 h2;have e2:(aac bV esz || es.isEmpty)=true:=by rw [hc.2]; rfl
     simp only [bW,hi,hk,sQ,hid,hc.1,if_true,e2,h1,h2]
    ·cases h
   ·cases h
  ·cases h
 ·rename_i id f off sz len k bV xs t ts;split at h
  ·rename_i i es szo el hi hid;split at h
   ·rename_i a1 esz a2 a3 a4 hk;split at h
    ·rename_i hc;rw [aab] at hc;injection h with h;injection h with h1 h2;rw [aab,decide_eq_true_eq,decide_eq_true_eq] at h1;obtain ⟨rfl,h1⟩:=h1;have e2:(aac sz esz&&aac szo sz&&(aac bV esz || xs.isEmpty)&&aae es.length es.length&&aae es.length es.length&&aae (off+aag xs.length len) es.length)=true:=by
      rw [hc.1,hc.2];simp only [Bool.true_or,Bool.true_and,aab];exact ⟨⟨aai (Nat.le_refl _),aai (Nat.le_refl _)⟩,aai h1⟩
     simp only [bW,hi,hk,sQ,hid,e2,if_true,h2]
    ·cases h
   ·cases h
  ·cases h
 ·cases h
def wZ (s:St) (dst:Option Tmp) (elem esz bR:Nat) (k:LK) (sz:Nat) (es ys:List AV):Option (Bool × St × Bool × St):=
 match k with
 |.nil=>some (ys.isEmpty,s.put dst (.v (.list .nil sz es)),decide ((es.length+ys.length) * bR≤140737488355328),
   (s.cH (s.G++[.tok (es.length+ys.length) esz elem])).put dst (.v (.list (.own s.G.length) esz (es++ys))))
 |.full=>if aac sz esz then some (ys.isEmpty,s.put dst (.v (.list .full sz es)),decide ((es.length+ys.length) * bR≤140737488355328),
   (s.cH (s.G++[.tok (es.length+ys.length) esz elem])).put dst (.v (.list (.own s.G.length) esz (es++ys)))) else none
 |.own id=>match nth s.G id with
  |some (.tok f bV e')=>if aac bV esz&&aac e' elem&&aac sz esz then
    some (false,s,decide (f=es.length)&&decide ((es.length+ys.length) * bR≤140737488355328),
     (s.cH (KX s.G id ys.length f esz elem)).put dst (.v (.list (.own id) esz (es++ys)))) else none
  |_=>none
 |.bK id j=>match nth s.G id with
  |some (.bK fs bV e')=>if aac bV esz&&aac e' elem&&aac sz esz then
    some (ys.isEmpty,s.put dst (.v (.list (.bK id j) sz es)),Pw fs j es.length&&decide ((es.length+ys.length) * bR≤140737488355328),
     (s.cH (aI s.G id (.bK (Ja fs j (es.length+ys.length)) esz elem))).put dst (.v (.list (.bK id j) esz (es++ys)))) else none
  |_=>none
 |.ly=>none
def CA (s:St) (dst:Option Tmp) (elem esz bR id f off sz len:Nat) (ys:List AV):Option (Bool × St × Bool × St):=match nth s.G id with
 |some (.dZ es bV e')=>if aac bV esz&&aac e' elem&&aac sz esz then
   some (false,s,decide (f=es.length)&&decide (off=0)&&decide (len=f)&&decide ((es.length+ys.length) * bR≤140737488355328),
    (s.cH (aI s.G id (.dZ (es++ys) esz elem))).put dst (.v (.eF id (es.length+ys.length) 0 esz (es.length+ys.length)))) else none
 |_=>none
def CB (E:Env) (s:St) (dst:Option Tmp) (l:List AV) (tys:List TypeId):Option (Bool × St × Bool × St):=match l,tys with
 |[.list k sz es,.list _ bV ys],[t,u]=>match E.ti t with
  |some i=>match i.k with
   |.sl elem esz _ bR (some z)=>
    if aac bV esz&&aac t u&&aae 1 esz&&aae 1 bR&&aac z.cells.length esz&&z.a8 then
     wZ s dst elem esz bR k sz es ys
    else none
   |_=>none
  |none=>none
 |[.eF id f off sz len,.list _ bV ys],[t,u]=>match E.ti t with
  |some i=>match i.k with
   |.sl elem esz _ bR (some z)=>
    if aac bV esz&&aac t u&&aae 1 esz&&aae 1 bR&&aac z.cells.length esz&&z.a8 then CA s dst elem esz bR id f off sz len ys else none
   |_=>none
  |none=>none
 |[.list k sz es,.str bs],[t,u]=>match E.ti t,E.ti u with
  |some i,some j=>match i.k,j.k with
   |.sl elem esz _ bR (some z),.str=>
    if aac esz 1&&aae 1 bR&&aac z.cells.length esz&&z.a8 then wZ s dst elem esz bR k sz es (bs.map jt) else none
   |_,_=>none
  |_,_=>none
 |_,_=>none
theorem tE {s s1 s2:St} {dst:Option Tmp} {elem esz bR:Nat} {k:LK} {sz:Nat} {es ys:List AV} {b c:Bool} (h:wZ s dst elem esz bR k sz es ys=some (b,s1,c,s2)) (hc:b=false→c=true) :
  ∃ v G',gd s.G elem esz bR (.list k sz es) ys=some (true,v,G')∧(s.cH G').put dst (.v v)=bif b then s1 else s2:=by
 unfold wZ at h;cases k with
 |nil=>
  cases h;cases ys with
  |nil=>exact ⟨_,_,rfl,rfl⟩
  |cons y ys=>
   have hc:=hc rfl;exact ⟨_,_,by simp only [gd,hc],rfl⟩
 |full=>
  simp only at h;cases hs:aac sz esz with
  |false=>rw [hs] at h; cases h
  |true=>
   rw [hs] at h;cases h;cases ys with
   |nil=>exact ⟨_,_,rfl,rfl⟩
   |cons y ys=>
    have hc:=hc rfl;exact ⟨_,_,by simp only [gd,hs,if_true,hc],rfl⟩
 |own id=>
  simp only at h;split at h
  ·rename_i f bV e' hg;split at h
   ·rename_i cT;cases h;have hc:=hc rfl;cases ys with
    |nil=>
     simp only [aab] at cT;have e1:=aad cT.1.1;have e2:=aad cT.1.2;have e3:=aad cT.2;subst e1; subst e2; subst e3;refine ⟨_,_,rfl,?_⟩;simp only [cond_false,KX,List.length_nil,Nat.add_zero,jw hg,List.append_nil]
    |cons y ys=>exact ⟨_,_,by simp only [gd,hg,cT,if_true,hc],rfl⟩
   ·cases h
  ·cases h
 |bK id j=>
  simp only at h;split at h
  ·rename_i fs bV e' hg;split at h
   ·rename_i cT;cases h;cases ys with
    |nil=>exact ⟨_,_,rfl,rfl⟩
    |cons y ys=>
     have hc:=hc rfl;exact ⟨_,_,by simp only [gd,hg,cT,if_true,hc],rfl⟩
   ·cases h
  ·cases h
 |ly=>cases h
theorem CC {s s1 s2:St} {dst:Option Tmp} {elem esz bR id f off sz len:Nat} {ys:List AV} {b c:Bool} (h:CA s dst elem esz bR id f off sz len ys=some (b,s1,c,s2)) (hc:b=false→c=true) :
  ∃ v G',gd s.G elem esz bR (.eF id f off sz len) ys=some (true,v,G')∧(s.cH G').put dst (.v v)=bif b then s1 else s2:=by
 unfold CA at h;split at h
 ·rename_i es bV e' hg;split at h
  ·rename_i cT;cases h;have hc:=hc rfl;cases ys with
   |nil=>
    simp only [aab,decide_eq_true_eq] at hc cT;have e1:=aad cT.1.1;have e2:=aad cT.1.2;have e3:=aad cT.2;obtain ⟨⟨⟨h1,h2⟩,h3⟩,_⟩:=hc;subst e1; subst e2; subst e3; subst h1; subst h2; subst h3;refine ⟨_,_,rfl,?_⟩;simp only [cond_false,List.length_nil,Nat.add_zero,jw hg,List.append_nil]
   |cons y ys=>exact ⟨_,_,by simp only [gd,hg,cT,if_true,hc],rfl⟩
  ·cases h
 ·cases h
theorem CD {E:Env} {s s1 s2:St} {dst:Option Tmp} {l:List AV} {tys:List TypeId} {b c:Bool} (h:CB E s dst l tys=some (b,s1,c,s2)) (HY:b=false→c=true):bW E s dst .append l tys=some (true,bif b then s1 else s2):=by
 unfold CB at h;split at h
 ·rename_i k sz es k' bV ys t u;split at h
  ·rename_i i hi;split at h
   ·rename_i elem esz a1 bR z hk;split at h
    ·rename_i hc;have A0:((aac bV esz || ys.isEmpty)&&aac t u&&aae 1 esz&&aae 1 bR&&aac z.cells.length esz&&z.a8)=true:=by
      simp only [aab] at hc ⊢;obtain ⟨⟨⟨⟨⟨c1,c2⟩,c3⟩,c4⟩,c5⟩,c6⟩:=hc;exact ⟨⟨⟨⟨⟨by rw [c1]; rfl,c2⟩,c3⟩,c4⟩,c5⟩,c6⟩
     obtain ⟨v,G',h1,h2⟩:=tE h HY;simp only [bW,hi,hk,A0,if_true,h1,h2]
    ·cases h
   ·cases h
  ·cases h
 ·rename_i id f off sz len k' bV ys t u;split at h
  ·rename_i i hi;split at h
   ·rename_i elem esz a1 bR z hk;split at h
    ·rename_i hc;have A0:((aac bV esz || ys.isEmpty)&&aac t u&&aae 1 esz&&aae 1 bR&&aac z.cells.length esz&&z.a8)=true:=by
      simp only [aab] at hc ⊢;obtain ⟨⟨⟨⟨⟨c1,c2⟩,c3⟩,c4⟩,c5⟩,c6⟩:=hc;exact ⟨⟨⟨⟨⟨by rw [c1]; rfl,c2⟩,c3⟩,c4⟩,c5⟩,c6⟩
     obtain ⟨v,G',h1,h2⟩:=CC h HY;simp only [bW,hi,hk,A0,if_true,h1,h2]
    ·cases h
   ·cases h
  ·cases h
 ·rename_i k sz es bs t u;split at h
  ·rename_i i j hi hj;split at h
   ·rename_i elem esz a1 bR z hk ZX;split at h
    ·rename_i hc;obtain ⟨v,G',h1,h2⟩:=tE h HY;simp only [bW,hi,hj,hk,ZX,hc,if_true,h1,h2]
    ·cases h
   ·cases h
  ·cases h
 ·cases h
end Go.Am
namespace Go.Am
open Go
def Wb (E:Env) (cut wk:Bool) (t:TypeId) (r:AV) (G:List GO):Option (Bool × AV × List GO):=match r with
 |.eF id f 0 sz len=>match nth G id,E.ti t with
  |some (.dZ es bV _),some i=>match i.k with
   |.sl _ esz _ _ _=>if aac esz sz&&aac bV sz then
     bif cut then some (decide (f=es.length)&&decide (len≤es.length)&&aF (AY wk es),.list .ly sz (AY wk (es.take len)),aI G id .dead)
     else some (decide (f=es.length)&&decide (len=es.length)&&aF (AY wk es),.list .ly sz (AY wk es),aI G id .dead)
    else none
   |_=>none
  |_,_=>none
 |.j7 id 0 sz len _=>match nth G id,E.ti t,E.Pv t with
  |some (.row cs _),some i,some p=>match i.k with
   |.sl _ esz agg _ _=>if aac esz sz&&aae 1 sz&&(agg || aac sz 1)&&p.under 0 then
     some (aac cs.length (len * sz)&&allFit (fun e=>p.fits e&&e.a8&&(agg || e.one)) (hZ agg sz len cs),.list .ly sz ((hZ agg sz len cs).map fun e=>p.enc (p.bJ e)),aI G id .dead)
    else none
   |_=>none
  |_,_,_=>none
 |.agg cs=>match mL wk cs G with
  |(c,cs',G')=>some (c,.agg cs',G')
 |.ptr id 0=>match nth G id with
  |some (.row cs _)=>some (aF cs,.ep cs,aI G id .dead)
  |_=>none
 |_=>none
def yX (E:Env) (cut wk:Bool):List TypeId→List AV→List GO→Bool × List AV × List GO
 |t :: ts,r :: rs,G=>match Wb E cut wk t r G with
  |some (c,r',G')=>match yX E cut wk ts rs G' with
   |(c',Ma,Br)=>(c&&c',r' :: Ma,Br)
  |none=>match yX E cut wk ts rs G with
   |(c',Ma,Br)=>(c',r :: Ma,Br)
 |_,rs,G=>(true,rs,G)
def Wc {X:Type} (E:Env) (cut wk:Bool) (ts:List TypeId) (K:AV→List GO→Option X) (r:AV) (G:List GO):Option X:=match r with
 |.bq rs=>match yX E cut wk ts rs G with
  |(c,Ma,G')=>bif c then K (.bq Ma) G' else none
 |r=>match yX E cut wk ts [r] G with
  |(c,[r'],G')=>bif c then K r' G' else none
  |_=>none
section
variable {E:Env} {R:ak} {w:World}
theorem yY {R:ak} {b:Nat} (hI:∀ o,R.I b o):∀ {cs:List AV} {vs:List Value} {o:Nat},aN R w cs vs→(∀ v∈vs,v.oneCell'=true)→(∀ (j:Nat) (v:Value),vs[j]?=some v→w.cell? ⟨b,o+j,none⟩=some v)→dV R w b o cs
 |[],_,o,_,_,_=>.nil
 |a :: cs,_,o,.cons h t,h1,hc=>.cons (hc 0 _ rfl) (h1 _ (by simp)) (hI o) h (yY hI t (fun v hv=>h1 v (by simp [hv])) fun j v hj=>by
   have:=hc (j+1) v (by simpa using hj);rwa [show o+(j+1)=o+1+j by omega] at this)
theorem yZ {R:ak} {b:Nat} {p:aP} {agg:Bool} {sz:Nat} (hI:∀ o,R.I b o) (hp:p.under 0=true) (e7:(agg || aac sz 1)=true) (aeI:1≤sz):∀ (n:Nat) {cs:List AV} {vs:List Value} {o:Nat},aN R w cs vs→(∀ v∈vs,v.oneCell'=true)→cs.length=n * sz →
  (∀ (j:Nat) (v:Value),vs[j]?=some v→w.cell? ⟨b,o+j,none⟩=some v)→allFit (fun e=>p.fits e&&e.a8&&(agg || e.one)) (hZ agg sz n cs)=true→gj R w b o sz ((hZ agg sz n cs).map fun e=>p.enc (p.bJ e))
 |0,_,_,_,_,_,_,_,_=>.nil
 |n+1,cs,vs,o,h,h1,hl,hc,hf=>by
  simp only [hZ,allFit,aab] at hf;obtain ⟨⟨⟨Lh,hf2⟩,hf4⟩,hf3⟩:=hf;have hlen:=h.length;have hle:sz≤cs.length:=by rw [hl,Nat.succ_mul]; omega
  have dk:=p.dh Lh;have mu:(Zv agg (cs.take sz)).cells=cs.take sz:=by
   cases agg with
   |true=>rfl
   |false=>
    have Fu:sz=1:=by simpa using e7
    subst Fu
    match cs,hle with
    |a :: cs,_=>
     show AV.cells a=[a];have ho:a.one=true:=by simpa [Zv,eH] using hf4
     cases a <;> first | rfl | simp [AV.one] at ho
  have hw:=dk.cells hf2;rw [mu] at hw;have hA:dV R w b o (cs.take sz):=yY hI (h.take sz) (fun v hv=>h1 v (List.mem_of_mem_take hv)) fun j v hj=>hc j v (by
   rw [List.getElem?_take] at hj;split at hj
   ·exact hj
   ·cases hj)
  refine .cons (by rw [← hw.length,List.length_take,Nat.min_eq_left hle]) (by rw [dk.bq]; exact hf2) (my (p.dH _ hp)) (hw.K6 hA) ?_;exact yZ hI hp e7 aeI n (h.drop sz) (fun v hv=>h1 v (List.mem_of_mem_drop hv)) (by rw [List.length_drop,hl,Nat.succ_mul]; omega) (fun j v hj=>by
   rw [List.getElem?_drop] at hj;have:=hc _ _ hj;rwa [show o+(sz+j)=o+sz+j by omega] at this) hf3
theorem P0 {cut wk:Bool} {t:TypeId} {r r':AV} {G G':List GO} {c:Value} (hg:dC E R w G) (hr:Rel R w r c) (h:Wb E cut wk t r G=some (true,r',G')) :
  ∃ R',dC E R' w G'∧Rel R' w r' c∧Ext R w R' w∧R'.obj=R.obj∧∀ b o,R'.I b o→R.I b o∨Live R b:=by
 unfold Wb at h;split at h
 ·rename_i id f sz len;obtain ⟨ro,b9⟩:∃ ro,nth R.obj id=some ro:=by
   cases hr with
   |iY q _=>exact ⟨_,q⟩
   |eF q _ _=>exact ⟨_,q⟩
  split at h
  ·rename_i es bV el i hid hi;split at h
   ·split at h
    ·rename_i hc;rw [aab] at hc;have q1:=aad hc.2;subst q1;cases cut with
     |true=>
      simp only [cond_true] at h;injection h with h; injection h with h1 h; injection h with h2 h3;subst h2 h3;rw [aab,aab,decide_eq_true_eq,decide_eq_true_eq] at h1;obtain ⟨h1,jo⟩:=h1;obtain ⟨R',r1,r2,r3,r4,r5⟩:=nZ (wk:=wk) hg hid h1.1 h1.2 jo b9;exact ⟨R',r1,r5 c hr,r2,r3,fun b o hi=>(r4 b o hi).imp_right fun hb=>⟨id,ro,b9,hb⟩⟩
     |false=>
      simp only [cond_false] at h;injection h with h; injection h with h1 h; injection h with h2 h3;subst h2 h3;rw [aab,aab,decide_eq_true_eq,decide_eq_true_eq] at h1;obtain ⟨h1,jo⟩:=h1;obtain ⟨R',r1,r2,r3,r4,r5⟩:=nZ (wk:=wk) hg hid h1.1 (Nat.le_of_eq h1.2) jo b9;have r6:=r5 c hr;rw [h1.2,List.take_length] at r6;exact ⟨R',r1,r6,r2,r3,fun b o hi=>(r4 b o hi).imp_right fun hb=>⟨id,ro,b9,hb⟩⟩
    ·cases h
   ·cases h
  ·cases h
 ·rename_i id sz len cap;split at h
  ·rename_i cs i p hid hi hp;split at h
   ·rename_i el esz agg eb z hk;split at h
    ·rename_i hc;simp only [aab] at hc;injection h with h;injection h with h1 h;injection h with h2 h3;subst h2 h3;rw [aab] at h1;cases hr with
     | @j7 _ _ _ _ _ b hb ib=>
     obtain ⟨vs,k1,k2,k3,k4⟩:=hg.obj id _ _ hid hb;have DC:Live R b:=⟨id,_,hb,rfl⟩;have e:=qH R w b;have cm:=bl k1;refine ⟨R.all b,⟨by show R.obj.length=_; rw [iw]; exact hg.len,fun jP go ro q1 q2=>?_,hg.inj,fun b' o ho=>?_,fun g cs rW=>(hg.cr g cs rW).mono e,hg.lo⟩,?_,e,rfl,fun b' o ho=>?_⟩
     ·rcases du q1 with ⟨rfl,rfl,_⟩|⟨cS,q1⟩
      ·have:ro=.ck b:=aaZ (q2.symm.trans hb);subst this;exact cm
      ·refine (hg.obj jP go ro q1 q2).mono e (fun _ _=>rfl) (fun b' o gJ ho=>?_);rcases ho with ho|ho
       ·exact ho
       ·subst ho;exact absurd (hg.inj id jP _ _ b' hb q2 rfl gJ) cS
     ·rcases ho with ho|ho
      ·exact hg.wf b' o ho
      ·subst ho; exact cm
     ·refine Rel.list (yZ (R:=R.all b) (fun o=>Or.inr rfl) hc.2 hc.1.2 (Nat.le_of_ble_eq_true hc.1.1.2) len (k2.mono e) k3 (aad h1.1) (fun j v hj=>?_) h1.2) ?_ ib trivial
      ·simp only [World.cell?,k1];simpa using hj
      ·rw [List.length_map];have:∀ (n:Nat) (l:List AV),(hZ agg sz n l).length=n:=by
        intro n
        induction n with
        |zero=>intro l; rfl
        |succ n ih=>intro l; simp [hZ,ih]
       rw [this]
     ·rcases ho with ho|ho
      ·exact .inl ho
      ·subst ho; exact .inr DC
    ·cases h
   ·cases h
  ·cases h
 ·rename_i cs;cases h2:mL wk cs G with
  |mk c' q=>
  obtain ⟨cs',G2⟩:=q;rw [h2] at h;injection h with h; injection h with h1 h; injection h with h3 h4;subst h1 h3 h4;cases hr with
  |agg hr xG=>
  obtain ⟨R',r1,r2,r3,r4,r5⟩:=th hg hr h2;exact ⟨R',r1,.agg r2 xG,r3,r4,r5⟩
 ·-- an object's cells never change again
  rename_i id;split at h
  ·rename_i cs el hid;injection h with h; injection h with h1 h; injection h with h2 h3;subst h2 h3;cases hr with
   | @ptr _ _ b b9=>
   obtain ⟨vs,b1,b2,b3,b4⟩:=hg.obj id _ _ hid b9;have r2:=qH R w b;have r1:=hg.freeze b9 rfl (show gI (R.all b) w .dead (.ck b) from bl b1);refine ⟨R.all b,r1,Rel.ep (dV.make (b2.mono r2) b3 (fun j v hv=>?_) (fun j _=>.inr rfl)),r2,rfl,fun b' o hi=>?_⟩
   ·rw [jy b1,Nat.zero_add];exact hv
   ·rcases hi with hi|rfl
    ·exact .inl hi
    ·exact .inr ⟨id,_,b9,rfl⟩
  ·cases h
 ·cases h
theorem xd {cut wk:Bool}:∀ {ts:List TypeId} {rs Ma:List AV} {G G':List GO} {cs:List Value} {R:ak},dC E R w G→aN R w rs cs→yX E cut wk ts rs G=(true,Ma,G') →
  ∃ R',dC E R' w G'∧aN R' w Ma cs∧Ext R w R' w∧R'.obj=R.obj∧∀ b o,R'.I b o→R.I b o∨Live R b
 |[],rs,Ma,G,G',cs,R,hg,hr,h=>by
  cases rs <;> (simp only [yX] at h; cases h; exact ⟨R,hg,hr,Ext.refl R w,rfl,fun _ _ h=>.inl h⟩)
 |_ :: _,[],Ma,G,G',cs,R,hg,hr,h=>by
  simp only [yX] at h; cases h; exact ⟨R,hg,hr,Ext.refl R w,rfl,fun _ _ h=>.inl h⟩
 |t :: ts,r :: rs,Ma,G,G',cs,R,hg,hr,h=>by
  cases hr with
  |cons h0 hr=>
  unfold yX at h;split at h
  ·rename_i c r' G1 h1;cases h2:yX E cut wk ts rs G1 with
   |mk c' q=>
   obtain ⟨Z7,G2⟩:=q;rw [h2] at h;simp only [aa1,aab] at h;obtain ⟨⟨rfl,rfl⟩,rfl,rfl⟩:=h;obtain ⟨R1,a1,a2,a3,a4,a5⟩:=P0 hg h0 h1;obtain ⟨R2,b1,b2,b3,b4,b5⟩:=xd a1 (hr.mono a3) h2;refine ⟨R2,b1,.cons (a2.mono b3) b2,a3.trans b3,b4.trans a4,fun b o ho=>?_⟩;rcases b5 b o ho with ho|ho
   ·exact a5 b o ho
   ·obtain ⟨id,ro,q1,q2⟩:=ho;rw [a4] at q1;exact .inr ⟨id,ro,q1,q2⟩
  ·cases h2:yX E cut wk ts rs G with
   |mk c' q=>
   obtain ⟨Z7,G2⟩:=q;rw [h2] at h;simp only [aa1] at h;obtain ⟨rfl,rfl,rfl⟩:=h;obtain ⟨R2,b1,b2,b3,b4,b5⟩:=xd hg hr h2;exact ⟨R2,b1,.cons (h0.mono b3) b2,b3,b4,b5⟩
theorem cG.frz {g:FuncId} {args:List AV} {G:List GO} {X:Type} {cut wk:Bool} {ts:List TypeId} {K:AV→List GO→Option X} {x:X} (h:cG E g args G (fun r G'=>Wc E cut wk ts K r G'=some x)):cG E g args G (fun r G'=>K r G'=some x):=
 ⟨h.1,fun R w cs hg hl=>(h.2 R w cs hg hl).mono fun e w' he=>by
  cases e with
  |panicked c=>exact he.elim
  |outgrown=>exact he.elim
  |returned c=>
   obtain ⟨r,G',R1,hq,eD,PZ,st⟩:=he;have fin:∀ (r':AV) (G2:List GO) (R2:ak),K r' G2=some x→dC E R2 w' G2→Rel R2 w' r' c→Ext R1 w' R2 w'→R2.obj=R1.obj→(∀ b o,R2.I b o→R1.I b o∨Live R1 b)→H8 E R w (fun r G'=>K r G'=some x) (.returned c) w':=by
    intro r' G2 R2 k1 k2 k3 k4 k5 k6;have live:∀ b,Live R2 b→Live R1 b:=fun b ⟨id,ro,q1,q2⟩=>⟨id,ro,by rw [← k5]; exact q1,q2⟩
    refine ⟨r',G2,R2,k1,k3,k2,⟨st.ext.trans k4,st.os,st.tape,st.output,st.size,st.aY,fun b hb ho=>?_,fun b o hi hb hn=>?_⟩⟩
    ·rcases ho with ho|⟨k,cs,hk,rfl⟩
     ·exact st.own b hb (.inl (live b ho))
     ·simp [fk,dA] at hk
    ·rcases k6 b o hi with hi|hi
     ·exact st.im b o hi hb hn
     ·exact absurd (st.own b hb (.inl hi)) hn
   unfold Wc at hq;split at hq
   ·rename_i rs;cases eD with
    |bq eD=>
    cases h2:yX E cut wk ts rs G' with
    |mk c' q=>
    obtain ⟨Z7,G2⟩:=q;rw [h2] at hq;cases c' with
    |false=>cases hq
    |true=>
     obtain ⟨R2,b1,b2,b3,b4,b5⟩:=xd PZ eD h2;exact fin (.bq Z7) G2 R2 hq b1 (.bq b2) b3 b4 b5
   ·split at hq
    ·rename_i c' r' G2 h2;cases c' with
     |false=>cases hq
     |true=>
      obtain ⟨R2,b1,b2,b3,b4,b5⟩:=xd PZ (.cons eD .nil) h2;cases b2 with
      |cons b2 _=>exact fin r' G2 R2 hq b1 b2 b3 b4 b5
    ·cases hq⟩
end
end Go.Am
namespace Go.Am
open Go
inductive RP
 |UC (p:aP)
 |map (pe:aP)
 |ep (ps:aM)
def RP.T:RP→Type
 |.UC p=>p.T
 |.map pe=>List pe.T
 |.ep ps=>ps.T
def RP.enc (n:Nat):(p:RP)→p.T→AV
 |.UC p,x=>p.enc x
 |.map _,_=>.map n
 |.ep ps,x=>.ep (ps.enc x)
def RP.GV:(p:RP)→p.T→List GO
 |.UC _,_=>[]
 |.map pe,(x:List pe.T)=>[.map (aK (x.map pe.enc))]
 |.ep _,_=>[]
def RP.no:RP→Nat
 |.map _=>1
 |_=>0
def uJ:List RP→Type
 |[]=>Unit
 |[p]=>p.T
 |p :: q :: l=>p.T × uJ (q :: l)
def pV:(n:Nat)→(l:List RP)→uJ l→List AV
 |_,[],_=>[]
 |n,[p],x=>[p.enc n x]
 |n,p :: q :: l,x=>p.enc n x.1 :: pV (n+p.no) (q :: l) x.2
def gY:(l:List RP)→uJ l→List GO
 |[],_=>[]
 |[p],x=>p.GV x
 |p :: q :: l,x=>p.GV x.1++gY (q :: l) x.2
structure RF where
 bq:Bool
 l:List RP
def RF.val (f:RF) (n:Nat) (x:uJ f.l):AV:=bif f.bq then .bq (pV n f.l x) else eH (pV n f.l x)
def RP.is:RP→AV→Bool
 |.UC p,v=>match p with
  |.bT u=>dE v u
  |_=>true
 |.map _,v=>match v with
  |.map _=>true
  |_=>false
 |.ep _,v=>match v with
  |.ep _=>true
  |_=>false
def Mb:List RP→List AV→Bool
 |[],[]=>true
 |p :: l,v :: vs=>p.is v&&Mb l vs
 |_,_=>false
def RF.args (f:RF) (r:AV):List AV:=bif f.bq then r.Vd else [r]
def RF.Bs (f:RF):AV→Bool
 |.bq _=>f.bq
 |_=>!f.bq
def CE (G:List GO) (used:List Nat) (pe:aP) (v:AV):Option (List pe.T):=match v with
 |.map id=>match nth G id with
  |some (.map es)=>bif Po used id then none else (bif allFit pe.fits (ab es) then some ((ab es).map pe.bJ) else none)
  |_=>none
 |_=>none
def Io (ps:aM) (v:AV):Option ps.T:=match v with
 |.ep cs=>ps.dec cs
 |_=>none
def RP.dec (G:List GO) (used:List Nat):(p:RP)→AV→Option p.T
 |.UC p,v=>p.dec v
 |.map pe,v=>CE G used pe v
 |.ep ps,v=>Io ps v
def uK (used:List Nat):AV→List Nat
 |.map id=>id :: used
 |_=>used
def uL (G:List GO):(used:List Nat)→(l:List RP)→List AV→Option (uJ l)
 |_,[],vs=>match vs with
  |[]=>some ()
  |_=>none
 |u,[p],vs=>match vs with
  |[v]=>p.dec G u v
  |_=>none
 |u,p :: q :: l,vs=>match vs with
  |v :: vs=>(p.dec G u v).bind fun x=>(uL G (uK u v) (q :: l) vs).bind fun y=>some (x,y)
  |[]=>none
def RF.dec (f:RF) (G:List GO) (r:AV):Option (uJ f.l):=bif f.Bs r then uL G [] f.l (f.args r) else none
def RP.under:RP→Bool
 |.UC p=>p.under 0
 |.map pe=>pe.under 0
 |.ep ps=>ps.under 0
def RF.under (f:RF):Bool:=f.l.all RP.under&&(f.bq || aac f.l.length 1)
def XT:List RF→Type
 |[]=>Empty
 |[f]=>uJ f.l
 |f :: g :: l=>uJ f.l ⊕ XT (g :: l)
def Mc (G:List GO) (r:AV):(l:List RF)→Option (XT l)
 |[]=>none
 |[f]=>f.dec G r
 |f :: g :: l=>bif f.Bs r&&Mb f.l (f.args r) then (f.dec G r).bind fun x=>some (.inl x) else (Mc G r (g :: l)).bind fun x=>some (.inr x)
def Y6 {α:Type} (G:List GO) (K:AV→List GO→α):(l:List RF)→XT l→α
 |[],o=>Empty.rec (fun _=>α) o
 |[f],o=>K (f.val G.length o) (G++gY f.l o)
 |f :: g :: l,o=>Sum.elim (fun v=>K (f.val G.length v) (G++gY f.l v)) (fun o=>Y6 G K (g :: l) o) o
theorem El {α:Type} {G:List GO} {K:AV→List GO→α} {r:AV} {G':List GO}:∀ (l:List RF) (o:XT l),Y6 G (fun r0 G0=>r=r0∧G'=G0) l o→K r G'=Y6 G K l o
 |[],o,_=>nomatch o
 |[f],o,h=>by
  have h:r=f.val G.length o∧G'=G++gY f.l o:=h;rw [h.1,h.2]; rfl
 |f :: g :: l,.inl v,h=>by
  have h:r=f.val G.length v∧G'=G++gY f.l v:=h;rw [h.1,h.2]; rfl
 |f :: g :: l,.inr o,h=>El (g :: l) o h
def za (E:Env) (g:FuncId) (args:List AV) (outs:List RF) (Q:XT outs→Prop):Prop:=
 ∀ G,cG E g args G (fun r G'=>∃ y,Q y∧Y6 G (fun r0 G0=>r=r0∧G'=G0) outs y)
section
variable {E:Env} {R R1 R2:ak} {w:World}
theorem dB.UD (m:Mv R R2 0):∀ {es:List (AV × AV)} {l:List AV} {ax:List MapEntry},j3 (ab es) l→aG 0 l=true→dB R w es ax→dB R2 w (aK l) ax
 |[],[],[],_,_,_=>trivial
 |[],[],_ :: _,_,_,h=>h.elim
 |[],_ :: _,_,h,_,_=>h.elim
 |(_,_) :: _,[],_,h,_,_=>h.elim
 |(_,_) :: _,_ :: _,[],_,_,h=>h.elim
 |(k,v) :: es,a :: l,en :: ax,hd,hu,h=>by
  obtain ⟨d1,d2⟩:=hd;simp only [aG,aab] at hu;have hc:=d1.cells rfl;have hl:[k,v].length=a.cells.length:=hc.length;cases a with
  |agg cs=>
   match cs,hc,hl with
   |[k',v'],hc,_=>
    have V6:aG 0 [k',v']=true:=hu.1;simp only [aG,Bool.and_true,aab] at V6;exact ⟨(hc.1 _ _ _ h.1).move m V6.1,(hc.2.1 _ _ _ h.2.1).move m V6.2,dB.UD m d2 hu.2 h.2.2⟩
   |[],_,hl=>simp [AV.cells] at hl
   |[_],_,hl=>simp [AV.cells] at hl
   |_ :: _ :: _ :: _,_,hl=>simp [AV.cells] at hl
  |_=>simp [AV.cells] at hl
theorem aP.zb {p:aP} (h:p.under 0=true):∀ l:List p.T,aG 0 (l.map p.enc)=true
 |[]=>rfl
 |x :: l=>by
  show ((p.enc x).under 0&&aG 0 (l.map p.enc))=true;rw [p.dH x h,aP.zb h l];rfl
def zd (R:ak) (n:Nat) (bs:List Nat):Prop:=∀ k b,nth bs k=some b→nth R.obj (n+k)=some (.ck b)
def Ip (R:ak) (w:World) (gs:List GO) (bs:List Nat):Prop:=∀ k go b,nth gs k=some go→nth bs k=some b→gI R w go (.ck b)
theorem RP.UE (p:RP) (x:p.T):(p.GV x).length=p.no:=by cases p <;> rfl
theorem Md {ps:aM} {v:AV} {y:ps.T} (h:Io ps v=some y):∃ cs,v=.ep cs∧ps.dec cs=some y:=by
 unfold Io at h;split at h
 ·exact ⟨_,rfl,h⟩
 ·cases h
theorem JR {G:List GO} {used:List Nat} {pe:aP} {v:AV} {y:List pe.T} (h:CE G used pe v=some y):∃ id es,v=.map id∧nth G id=some (.map es)∧id∉used∧j3 (ab es) (y.map pe.enc):=by
 unfold CE at h;split at h
 ·rename_i id;split at h
  ·rename_i es KJ;cases hu:Po used id with
   |true=>rw [hu] at h; cases h
   |false=>
    rw [hu,cond_false] at h;cases hf:allFit pe.fits (ab es) with
    |false=>rw [hf] at h; cases h
    |true=>
     rw [hf,cond_true] at h;have hy:=aaZ h;refine ⟨id,es,rfl,KJ,fun hm=>?_,?_⟩
     ·rw [Cv.2 hm] at hu; cases hu
     ·rw [← hy]; exact j3.of (fun v hv=>pe.dh hv) hf
  ·cases h
 ·cases h
theorem GW {used:List Nat} {v:AV} {id:Nat} (h:id∈used):id∈uK used v:=by
 unfold uK;split
 ·exact aao _ h
 ·exact h
def CF (R1:ak) (w:World) (used:List Nat) (v:AV) (c:Value) (p:RP) (y:p.T):Prop:=
 ∃ bs:List Nat,bs.length=p.no∧(∀ b∈bs,∃ id,id∉used∧id∈uK used v∧nth R1.obj id=some (.ck b)) ∧
   ∀ (R2:ak) (n:Nat),(∀ b o,R1.I b o→R2.I b o)→zd R2 n bs→Rel R2 w (p.enc n y) c∧Ip R2 w (p.GV y) bs
theorem mvI {R1 R2:ak} (hI:∀ b o,R1.I b o→R2.I b o):Mv R1 R2 0:=⟨hI,fun _ _ h=>absurd h (Nat.not_lt_zero _)⟩
theorem RP.Wd {used:List Nat} {p:aP} {v:AV} {c:Value} {y:p.T} (hp:p.under 0=true) (hv:Rel R1 w v c) (hd:p.dec v=some y):CF R1 w used v c (.UC p) y:=
 ⟨[],rfl,(fun b hb=>by cases hb),fun R2 n hI _=>⟨Rel.move (mvI hI) (p.dH y hp) ((p.rU hd).hY _ _ _ hv),fun k go b h=>by cases k <;> cases h⟩⟩
theorem RP.aaw {used:List Nat} {ps:aM} {v:AV} {c:Value} {y:ps.T} (hp:ps.under 0=true) (hv:Rel R1 w v c) (hd:Io ps v=some y):CF R1 w used v c (.ep ps) y:=by
 obtain ⟨cs,rfl,hd⟩:=Md hd;cases hv with
 |ep hc=>
 exact ⟨[],rfl,(fun b hb=>by cases hb),fun R2 n hI _=>⟨.ep (dV.move (mvI hI) ((ps.rU hd).1.K6 hc) (ps.dH y hp)),fun k go b h=>by cases k <;> cases h⟩⟩
theorem RP.We {G1:List GO} (hg:dC E R1 w G1) {used:List Nat} {pe:aP} {v:AV} {c:Value} {y:List pe.T} (hp:pe.under 0=true) (hv:Rel R1 w v c) (hd:CE G1 used pe v=some y):CF R1 w used v c (.map pe) y:=by
 obtain ⟨id,es,rfl,KJ,hu,hdl⟩:=JR hd;cases hv with
 |map hb=>
 rename_i b;refine ⟨[b],rfl,fun b' gJ=>?_,fun R2 n hI nJ=>⟨.map (by have:=nJ 0 b rfl; simpa using this),fun k go b' h1 h2=>?_⟩⟩
 ·rw [List.mem_singleton] at gJ;subst gJ;exact ⟨id,hu,aap,hb⟩
 ·cases k with
  |succ k=>cases h2
  |zero=>
   cases h1; cases h2;obtain ⟨ax,clock,e1,e2,e3⟩:=hg.obj id _ _ KJ hb;exact ⟨ax,clock,e1,dB.UD (mvI hI) hdl (aP.zb hp y) e2,e3⟩
theorem RP.ok {G1:List GO} (hg:dC E R1 w G1) {used:List Nat} {p:RP} {v:AV} {c:Value} {y:p.T} (hp:p.under=true) (hv:Rel R1 w v c) (hd:p.dec G1 used v=some y):CF R1 w used v c p y:=by
 cases p with
 |UC p=>exact RP.Wd hp hv hd
 |ep ps=>exact RP.aaw hp hv hd
 |map pe=>exact RP.We hg hp hv hd
theorem gn {α:Type} {l r:List α} {i:Nat} (h:i < l.length):nth (l++r) i=nth l i:=by
 rw [bi,bi,List.getElem?_append_left h]
theorem fy {α:Type} {l r:List α} (i:Nat):nth (l++r) (l.length+i)=nth r i:=by
 rw [bi,bi,List.getElem?_append_right (Nat.le_add_right _ _),Nat.add_sub_cancel_left]
theorem qQ {α:Type} {l:List α} {i:Nat} {x:α} (h:nth l i=some x):i < l.length:=by
 rw [bi] at h;exact (List.getElem?_eq_some_iff.1 h).1
theorem RPs.ok {G1:List GO} (hg:dC E R1 w G1):∀ {l:List RP} {used:List Nat} {vs:List AV} {cs:List Value} {y:uJ l},l.all RP.under=true→aN R1 w vs cs→uL G1 used l vs=some y →
  ∃ bs:List Nat,bs.length=(gY l y).length∧bs.Nodup∧(∀ b∈bs,∃ id,id∉used∧nth R1.obj id=some (.ck b)) ∧
   ∀ (R2:ak) (n:Nat),(∀ b o,R1.I b o→R2.I b o)→zd R2 n bs→aN R2 w (pV n l y) cs∧Ip R2 w (gY l y) bs
 |[],used,vs,cs,y,_,hv,hd=>by
  cases vs with
  |cons _ _=>cases hd
  |nil=>
  cases hv;exact ⟨[],rfl,aa0,(fun b hb=>by cases hb),fun R2 n _ _=>⟨.nil,fun k go b h=>by simp [gY,nth] at h⟩⟩
 |[p],used,vs,cs,y,hu,hv,hd=>by
  match vs,hv,hd with
  |[],_,hd=>cases hd
  |_ :: _ :: _,_,hd=>cases hd
  |[v],.cons hv .nil,hd=>
  have hu:p.under=true:=by simpa using hu
  obtain ⟨bs,h1,h2,h4⟩:=RP.ok hg hu hv hd;refine ⟨bs,h1.trans (p.UE y).symm,?_,fun b hb=>let ⟨id,q1,_,q2⟩:=h2 b hb; ⟨id,q1,q2⟩,fun R2 n hI nJ=>?_⟩
  ·have:bs.length≤1:=by rw [h1]; cases p <;> simp [RP.no]
   match bs,this with
   |[],_=>exact aa0
   |[b],_=>simp
   |_ :: _ :: _,h=>simp at h
  ·obtain ⟨k1,k2⟩:=h4 R2 n hI nJ;exact ⟨.cons k1 .nil,k2⟩
 |p :: q :: l,used,vs,cs,y,hu,hv,hd=>by
  match vs,hv,hd with
  |[],_,hd=>cases hd
  |v :: vs,.cons (c:=c) (cs:=cs) hv V7,hd=>
  simp only [List.all_cons,aab] at hu;obtain ⟨hu1,UF⟩:=hu;have UF:(q :: l).all RP.under=true:=by simpa using UF
  have hd:((p.dec G1 used v).bind fun x=>(uL G1 (uK used v) (q :: l) vs).bind fun y=>some (x,y))=some y:=hd;cases hx:p.dec G1 used v with
  |none=>rw [hx] at hd; cases hd
  |some x=>
  rw [hx] at hd;simp only [Option.bind_some] at hd;cases hz:uL G1 (uK used v) (q :: l) vs with
  |none=>rw [hz] at hd; cases hd
  |some z=>
  rw [hz] at hd;simp only [Option.bind_some] at hd;cases hd;obtain ⟨bs,h1,h2,h4⟩:=RP.ok hg hu1 hv hx;obtain ⟨bs',k1,k0,k2,k4⟩:=RPs.ok hg UF V7 hz;have DD:bs.length=(p.GV x).length:=h1.trans (p.UE x).symm;refine ⟨bs++bs',?_,?_,fun b hb=>?_,fun R2 n hI nJ=>?_⟩
  ·show _=(p.GV x++gY (q :: l) z).length;rw [aah,aah,DD,k1]
  ·have KI:bs.Nodup:=by
    have:bs.length≤1:=by rw [h1]; cases p <;> simp [RP.no]
    match bs,this with
    |[],_=>exact aa0
    |[b],_=>simp
    |_ :: _ :: _,h=>simp at h
   rw [List.nodup_append];refine ⟨KI,k0,fun a ha b hb e=>?_⟩;subst e;obtain ⟨id,_,q2,q3⟩:=h2 a ha;obtain ⟨jP,r1,r2⟩:=k2 a hb;have:id=jP:=hg.inj id jP _ _ a q3 r2 rfl rfl;subst this;exact r1 q2
  ·rcases List.mem_append.1 hb with hb|hb
   ·obtain ⟨id,q1,_,q2⟩:=h2 b hb;exact ⟨id,q1,q2⟩
   ·obtain ⟨id,q1,q2⟩:=k2 b hb;exact ⟨id,fun hm=>q1 (GW hm),q2⟩
  ·have at1:zd R2 n bs:=fun k b hk=>nJ k b (by rw [gn (qQ hk)]; exact hk)
   have at2:zd R2 (n+p.no) bs':=fun k b hk=>by
    have:=nJ (bs.length+k) b (by rw [fy]; exact hk);rw [h1] at this;rw [Nat.add_assoc]; exact this
   obtain ⟨a1,a2⟩:=h4 R2 n hI at1;obtain ⟨b1,b2⟩:=k4 R2 (n+p.no) hI at2;refine ⟨.cons a1 b1,fun k go b iH hb=>?_⟩;change nth (p.GV x++gY (q :: l) z) k=some go at iH;rcases aa2 k bs.length with hk|hk
   ·rw [gn (by rw [← DD]; exact hk)] at iH;rw [gn hk] at hb;exact a2 k go b iH hb
   ·obtain ⟨j,rfl⟩:∃ j,k=bs.length+j:=⟨k - bs.length,by omega⟩;rw [fy] at hb;rw [DD,fy] at iH;exact b2 j go b iH hb
theorem ze:∀ (l:List RP) (n:Nat) (y:uJ l),(pV n l y).length=l.length
 |[],_,_=>rfl
 |[_],_,_=>rfl
 |p :: q :: l,n,y=>by
  show (pV (n+p.no) (q :: l) y.2).length+1=(q :: l).length+1;rw [ze (q :: l)]
theorem za.of1 {R0:ak} {w0:World} {f:RF} {G G1:List GO} {r:AV} {c:Value} {y:uJ f.l} (hf:f.under=true) (hG:dC E R0 w0 G) (st:Step ⟨R0.I,[]⟩ w0 (fun _=>0) fk R1 w (fun _=>0) fk) (hg:dC E R1 w G1) (eD:Rel R1 w r c) (hd:f.dec G1 r=some y) :
  ∃ R2,Rel R2 w (f.val G.length y) c∧dC E R2 w (G++gY f.l y)∧Step R0 w0 (fun _=>0) fk R2 w (fun _=>0) fk:=by
 unfold RF.under at hf;rw [aab] at hf;unfold RF.dec at hd;obtain ⟨ht,hd⟩:f.Bs r=true∧uL G1 [] f.l (f.args r)=some y:=by
  cases ht:f.Bs r with
  |true=>rw [ht] at hd; exact ⟨rfl,hd⟩
  |false=>rw [ht] at hd; cases hd
 obtain ⟨cs,qF,aax⟩:∃ cs,aN R1 w (f.args r) cs∧∀ R2 (x:uJ f.l) n,aN R2 w (pV n f.l x) cs→Rel R2 w (f.val n x) c:=by
  unfold RF.args RF.val;cases aeK:f.bq with
  |true=>
   have:∃ vs,r=.bq vs:=by
    cases r <;> first | exact ⟨_,rfl⟩ | (simp [RF.Bs,aeK] at ht)
   obtain ⟨vs,rfl⟩:=this;cases eD with
   |bq h=>exact ⟨_,h,fun R2 x n h=>.bq h⟩
  |false=>
   refine ⟨[c],.cons eD .nil,fun R2 x n h=>?_⟩;simp only [cond_false];have hlen:=ze f.l n x;revert h hlen;generalize pV n f.l x=l;intro h hlen;cases h with
   |cons h _=>exact h
 obtain ⟨bs,h1,h2,h3,h4⟩:=RPs.ok hg hf.1 qF hd;have jA:∀ b,¬ Own (⟨R0.I,[]⟩:ak) (fun _=>0) fk b:=fun b ho=>by
  obtain ⟨id,ro,q1,_⟩:=eU ho;simp [nth] at q1
 have mU:∀ b∈bs,w0.heap.size≤b:=fun b hb=>by
  obtain ⟨id,_,hid⟩:=h3 b hb;rcases aa2 b w0.heap.size with cm|lM
  ·exact absurd (st.own b cm (.inl ⟨id,_,hid,rfl⟩)) (jA b)
  ·exact lM
 let R2:ak:=⟨R1.I,R0.obj++bs.map RO.ck⟩
 have e:Ext R0 w0 R2 w:=⟨st.ext.I,st.ext.cell,fun id ro h=>⟨ro,by rw [gn (qQ h)]; exact h,cJ.refl ro⟩,st.ext.lp⟩;have aY:∀ b,b < w0.heap.size→w.heap[b]?=w0.heap[b]?:=fun b hb=>st.aY b hb (jA b)
 have im:∀ b o,b < w0.heap.size→R1.I b o→R0.I b o:=fun b o hb hi=>st.im b o hi hb (jA b)
 have aeL:∀ {k ro},nth (bs.map RO.ck) k=some ro→∃ b,nth bs k=some b∧ro=.ck b:=fun {k ro} h=>by
  rw [bi,List.getElem?_map] at h;cases hb:bs[k]? with
  |none=>rw [hb] at h; cases h
  |some b=>rw [hb] at h; exact ⟨b,by rw [bi]; exact hb,(aaZ h).symm⟩
 have nJ:zd R2 R0.obj.length bs:=fun k b hk=>by
  show nth (R0.obj++bs.map RO.ck) (R0.obj.length+k)=_;rw [fy,bi,List.getElem?_map];rw [bi] at hk;rw [hk]; rfl
 obtain ⟨k1,k2⟩:=h4 R2 R0.obj.length (fun _ _ h=>h) nJ;rw [hG.len] at k1;have hold:∀ id ro,nth R2.obj id=some ro→nth R0.obj id=some ro∨∃ k b,id=R0.obj.length+k∧nth bs k=some b∧ro=.ck b:=fun id ro h=>by
  rcases aa2 id R0.obj.length with cm|lM
  ·exact .inl (by rw [← gn (r:=bs.map RO.ck) cm]; exact h)
  ·obtain ⟨k,rfl⟩:∃ k,id=R0.obj.length+k:=⟨id - R0.obj.length,by omega⟩;have h:nth (R0.obj++bs.map RO.ck) (R0.obj.length+k)=some ro:=h;rw [fy] at h;obtain ⟨b,q1,q2⟩:=aeL h;exact .inr ⟨k,b,rfl,q1,q2⟩
 have UG:∀ id ro b,nth R0.obj id=some ro→ro.has b→b < w0.heap.size:=fun id ro b h hb=>by
  have hl:=qQ h;rw [hG.len] at hl;have iH:nth G id=some G[id]:=by rw [bi]; exact List.getElem?_eq_getElem hl
  exact (hG.obj id _ _ iH h).lt hb
 have Wf:∀ {k b},nth bs k=some b→b∈bs:=fun {k b} h=>by
  rw [bi] at h;exact List.mem_of_getElem? h
 refine ⟨R2,aax R2 y _ k1,⟨?_,fun id go ro q1 q2=>?_,fun i j ri rj b q1 q2 b1 b2=>?_,hg.wf,fun g cs rW=>(hG.cr g cs rW).mono e,hg.lo⟩,⟨e,st.os,st.tape,st.output,st.size,fun b hb _=>aY b hb,fun b hb ho=>?_,fun b o hi hb _=>im b o hb hi⟩⟩
 ·show (R0.obj++bs.map RO.ck).length=_;rw [aah,List.length_map,aah,hG.len,h1]
 ·rcases hold id ro q2 with q2|⟨k,b,rfl,q3,rfl⟩
  ·have hl:=qQ q2;rw [hG.len] at hl;rw [gn hl] at q1;refine (hG.obj id go ro q1 q2).mono e (fun b hb=>aY b ?_) (fun b o hb hi=>im b o ?_ hi)
   ·exact (hG.obj id go ro q1 q2).lt hb
   ·exact (hG.obj id go ro q1 q2).lt hb
  ·rw [hG.len,fy] at q1;exact k2 k go b q1 q3
 ·rcases hold i ri q1 with q1|⟨k,a,rfl,q3,rfl⟩
  ·rcases hold j rj q2 with q2|⟨k',a',rfl,q4,rfl⟩
   ·exact hG.inj i j ri rj b q1 q2 b1 b2
   ·have:b=a':=b2;subst this;have:=mU _ (Wf q4);have:=UG i ri b q1 b1;omega
  ·have hba:b=a:=b1;subst hba;rcases hold j rj q2 with q2|⟨k',a',rfl,q4,rfl⟩
   ·have:=mU _ (Wf q3);have:=UG j rj b q2 b2;omega
   ·have:b=a':=b2;subst this;have l1:=qQ q3;have l2:=qQ q4;rw [bi] at q3 q4;have:=(List.getElem?_inj l1 h2).1 (q3.trans q4.symm);omega
 ·rcases eU ho with ⟨id,ro,q1,q2⟩;rcases hold id ro q1 with q1|⟨k,a,rfl,q3,rfl⟩
  ·exact .inl ⟨id,ro,q1,q2⟩
  ·have:b=a:=q2;subst this;have:=mU _ (Wf q3);omega
theorem Iq {G1:List GO} {r:AV}:∀ {outs:List RF} {y:XT outs},Mc G1 r outs=some y→(∀ f∈outs,f.under=true) →
  ∃ (f:RF) (z:uJ f.l),f.under=true∧f.dec G1 r=some z∧∀ {α:Type} (G:List GO) (K:AV→List GO→α),Y6 G K outs y=K (f.val G.length z) (G++gY f.l z)
 |[],_,h,_=>by cases h
 |[f],y,h,hu=>⟨f,y,hu f (by simp),h,fun _ _=>rfl⟩
 |f :: g :: l,y,h,hu=>by
  simp only [Mc] at h;cases hb:(f.Bs r&&Mb f.l (f.args r)) with
  |true=>
   rw [hb] at h;simp only [cond_true] at h;cases hx:f.dec G1 r with
   |none=>rw [hx] at h; cases h
   |some x=>
    rw [hx] at h;cases h;exact ⟨f,x,hu f (by simp),hx,fun _ _=>rfl⟩
  |false=>
   rw [hb] at h;simp only [cond_false] at h;cases hx:Mc G1 r (g :: l) with
   |none=>rw [hx] at h; cases h
   |some x=>
    rw [hx] at h;cases h;obtain ⟨f',z,k0,k1,k2⟩:=Iq hx (fun f hf=>hu f (aao _ hf));exact ⟨f',z,k0,k1,fun G K=>k2 G K⟩
theorem za.of {g:FuncId} {args:List AV} {outs:List RF} {Q:XT outs→Prop} (hc:aG 0 args=true) (hp:∀ f∈outs,f.under=true)
  (h:cG E g args [] (fun r G'=>∃ y,Mc G' r outs=some y∧Q y)):za E g args outs Q:=fun G=>by
 refine ⟨h.1,fun R w cs hg hl=>?_⟩
 let R0:ak:=⟨R.I,[]⟩
 have m0:Mv R R0 0:=⟨fun _ _ h=>h,fun _ _ h=>absurd h (Nat.not_lt_zero _)⟩;have Pf:dC E R0 w []:=⟨rfl,fun id go ro h1 _=>by simp [nth] at h1,fun i j ri rj b h1=>by simp [R0,nth] at h1,hg.wf,fun g cs rW=>(hg.cr g cs rW).move m0 (cF _ (E.pg g cs rW)),hg.lo⟩;have uv:aN R0 w args cs:=hl.move m0 hc;refine (h.2 R0 w cs Pf uv).mono fun e w' he=>?_
 cases e with
 |panicked c=>exact he.elim
 |outgrown=>exact he.elim
 |returned c=>
  obtain ⟨r,G',R1,⟨y,hy,hQ⟩,eD,PZ,st⟩:=he;obtain ⟨f,z,hf,hz,iH⟩:=Iq hy hp;obtain ⟨R2,k1,k2,k3⟩:=za.of1 hf hg st PZ eD hz;refine ⟨_,_,R2,⟨y,hQ,?_⟩,k1,k2,k3⟩;rw [iH];exact ⟨rfl,rfl⟩
end
end Go.Am
namespace Go.Am
open Go
structure aD where
 ps:aM
 p:aP
 T:ps.T→Option p.T
def ai (E:Env) (g:FuncId) (e:aD):Prop:=∀ x y,e.T x=some y→aU E g (e.ps.enc x) (fun r=>r=e.p.enc y)
inductive XK
 |norm
 |ret
 |ex (id:Nat)
def XK.is:XK→Exit→Bool
 |.norm,.normal=>true
 |.ret,.ret=>true
 |.ex i,.exit j=>aac i j
 |_,_=>false
def XK.exit:XK→Exit
 |.norm=>.normal
 |.ret=>.ret
 |.ex i=>.exit i
theorem XK.Ij {k:XK} {e:Exit} (h:k.is e=true):e=k.exit:=by
 cases k <;> cases e <;> simp_all [XK.is,XK.exit]
def JT:List (XK × cU)→Type
 |[]=>Empty
 |[x]=>x.2.ps.T
 |x :: y :: l=>x.2.ps.T ⊕ JT (y :: l)
def lC (s:St):(outs:List (XK × cU))→Exit→St→Option (JT outs)
 |[],_,_=>none
 |[x],e,s'=>bif x.1.is e then x.2.dec s s' else none
 |x :: y :: l,e,s'=>bif x.1.is e then (x.2.dec s s').bind fun v=>some (.inl v) else (lC s (y :: l) e s').bind fun o=>some (.inr o)
def Pp {α:Type} (s:St):(outs:List (XK × cU))→JT outs→(Exit→St→α)→α
 |[],o,_=>Empty.rec (fun _=>α) o
 |[x],o,K=>K x.1.exit (x.2.st s o)
 |x :: y :: l,o,K=>Sum.elim (fun v=>K x.1.exit (x.2.st s v)) (fun o=>Pp s (y :: l) o K) o
inductive cA
 |loop (gh:List (Loc × Nat × TypeId)) (head:cU) (outs:List (XK × cU))
 |join (outs:List (XK × cU))
 |rot (k:List Bool) (gh:List (Loc × Nat × TypeId)) (head:cU) (outs:List (XK × cU))
 |UH (n:Nat) (a b:cA)
 |nf (gh:List (Loc × Nat × TypeId)) (head:cU) (outs:List (XK × cU))
def Me (n:Nat):cA→cA
 |.UH m a b=>bif aac n m then Me n a else Me n b
 |c=>c
def ay {V X:Type} (rd:V→Option (V ⊕ X)):Nat→V→Option X
 |0,_=>none
 |n+1,v=>(rd v).bind fun o=>Sum.elim (fun v'=>ay rd n v') (fun x=>some x) o
def nf {V X:Type} (rd:(V→Option X)→V→Option X):Nat→V→Option X
 |0,_=>none
 |n+1,v=>rd (nf rd n) v
structure kQ (E:Env) (g:FuncId) where
 f:List AV→List GO→Option (Bool × AV × List GO)
 ok:∀ args G r G',f args G=some (true,r,G')→cG E g args G (fun r' Br=>r'=r∧Br=G')
structure Wg (E:Env) (g:FuncId) where
 ps:aM
 outs:List RF
 T:ps.T→Option (XT outs)
 ok:∀ x y,T x=some y→za E g (ps.enc x) outs (fun z=>z=y)
structure eB where
 D:JL
 xe:FuncId→Option aD
 oo:FuncId→Nat→Option cA
 fz:Bool
 N:Nat
 gt:(g:FuncId)→Option (kQ D.toEnv g):=fun _=>none
 xt:(g:FuncId)→Option (Wg D.toEnv g):=fun _=>none
def sh {α:Type} (fz:Bool) (s:St) (K:St→α):α:=match fz with
 |true=>GI s K
 |false=>match s with
  |⟨sl,bx,G,m,ro,n⟩=>K ⟨sl,bx,G,m,ro,n⟩
theorem df {α:Type} (fz:Bool) (s:St) (K:St→α):sh fz s K=K s:=by
 cases fz
 ·rfl
 ·exact JM s K
abbrev pW (X:Type):=FuncId→List AV→List GO→(AV→List GO→Option X)→Option X
abbrev mz (X:Type):=Nat→List AV→List GO→(Bool→List GO→Option X)→Option X
section ev
variable {X:Type}
def CG (E:Env) (s:St) (o:Oper):Option (Int × Nat × (Nat→Oper)):=match o.op with
 |.index t x (.tmp y)=>match bP E s.ae (.tmp y),E.ti t with
  |.v (.int k n),some i=>match i.k with
   |.arr len _ _=>some (n,len,fun j=>{ o with op:=.index t x (.const (.int k j)) })
   |_=>none
  |_,_=>none
 |.indexAddr t x (.tmp y)=>match bP E s.ae (.tmp y),E.ti t with
  |.v (.int k n),some i=>match i.k with
   |.arr len _ _=>match bP E s.ae x with
    |.v (.ep _)=>match E.Pv t with
     |some _=>none
     |none=>some (n,len,fun j=>{ o with op:=.indexAddr t x (.const (.int k j)) })
    |_=>some (n,len,fun j=>{ o with op:=.indexAddr t x (.const (.int k j)) })
   |_=>none
  |_,_=>none
 |_=>none
def xf (E:Env) (fz:Bool) (f:FuncId) (g:Nat→Oper) (n:Int) (K:St→Option X) (s:St):Nat→Nat→Option X
 |0,_=>none
 |m+1,j=>bif decide (n=(j:Int)) then (match an E f s (g j) with
   |some (c,s')=>bif c then sh fz s' K else none
   |_=>none) else xf E fz f g n K s m (j+1)
def Wh (E:Env) (fz:Bool) (call:pW X) (lV:mz X) (f:FuncId) (o:Oper) (K:St→Option X) (s:St):Option X:=
 match o.op with
 |.call { callee:=.value x,args,.. }=>match bP E s.ae x,nL E s.ae args.toList with
  |.v (.fn g first cap),some l=>call g (first++l++cap) s.G (fun r G'=>sh fz ((s.cH G').put o.dst (.v r)) K)
  |.v (.yield id),some l=>lV id l s.G (fun b G'=>sh fz ((s.cH G').put o.dst (.v (.bool b))) K)
  |_,_=>none
 |.defer _=>none
 |.next x true=>match L6 s o.dst (bP E s.ae x) with
  |some (b,s1,s2)=>bif b then sh fz s1 K else sh fz s2 K
  |none=>none
 |.lookup t m k ok=>match wX E s t (bP E s.ae m) (bP E s.ae k) with
  |some (c,v,b)=>bif c then sh fz (s.put o.dst (.v (if ok then .bq [v,.bool b] else v))) K else none
  |none=>match an E f s o with
   |some (c,s')=>bif c then sh fz s' K else none
   |_=>none
 |.mapUpdate t m k x=>match o.dst,wY E s t (bP E s.ae m) (bP E s.ae k) (bP E s.ae x) with
  |none,some (c,s')=>bif c then sh fz s' K else none
  |_,_=>none
 |.insert t m k x=>match o.dst,wY E s t (bP E s.ae m) (bP E s.ae k) (bP E s.ae x) with
  |none,some (c,s')=>bif c then sh fz s' K else none
  |_,_=>none
 |.call { callee:=.builtin .append,args,argTypes }=>match iu E f s o with
  |some (c,s')=>bif c then sh fz s' K else none
  |none=>match nL E s.ae args.toList with
   |some l=>match CB E s o.dst l argTypes.toList with
    |some (b,s1,c,s2)=>bif b then sh fz s1 K else bif c then sh fz s2 K else none
    |none=>match an E f s o with
     |some (c,s')=>bif c then sh fz s' K else none
     |_=>none
   |none=>none
 |.call { callee:=.builtin .copy,args,argTypes }=>match nL E s.ae args.toList with
  |some l=>match L8 E s o.dst l argTypes.toList with
   |some (c,s')=>bif c then sh fz s' K else none
   |none=>match an E f s o with
    |some (c,s')=>bif c then sh fz s' K else none
    |_=>none
  |none=>none
 |_=>match CG E s o with
  |some (n,len,g)=>xf E fz f g n K s len 0
  |none=>match an E f s o with
   |some (c,s')=>bif c then sh fz s' K else none
   |_=>none
def pX (E:Env) (fz:Bool) (call:pW X) (lV:mz X) (f:FuncId) (ops:List Oper) (o:Oper) (K:St→Option X) (s:St):Option X:=
 match o.guard with
 |none=>Wh E fz call lV f o K s
 |some (j,want)=>match pI ops j with
  |none=>none
  |some d=>match lk s.ae d with
   |.v (.bool b)=>match want with
    |true=>bif b then sh fz (s.put (some d) (.v (.bool true))) (Wh E fz call lV f o K) else sh fz ((s.put (some d) (.v (.bool false))).put o.dst (.v fM)) K
    |false=>bif b then sh fz ((s.put (some d) (.v (.bool true))).put o.dst (.v fM)) K else sh fz (s.put (some d) (.v (.bool false))) (Wh E fz call lV f o K)
   |.v (.bq [])=>sh fz (s.put o.dst (.v fM)) K
   |_=>none
def CH (E:Env) (fz:Bool) (call:pW X) (lV:mz X) (f:FuncId) (ops:List Oper) (o:Oper) (K:St→Option X) (s:St):Option X:=
 match o.guard,ju E f s o with
 |none,some s'=>sh fz s' K
 |_,_=>pX E fz call lV f ops o K s
noncomputable def P1 {X:Type} (l:List Nat) (F:Nat→Option X):Option X:=match l with
 |[]=>none
 |i :: r=>@ite _ (∀ j∈r,F j=F i) (aaf _) (F i) none
theorem JS {X:Type} {l:List Nat} {F:Nat→Option X} {x:X} (h:P1 l F=some x):∀ i∈l,F i=some x:=by
 cases l with
 |nil=>cases h
 |cons i r=>
  have h:@ite _ (∀ j∈r,F j=F i) (aaf _) (F i) none=some x:=h;by_cases hr:∀ j∈r,F j=F i
  ·rw [if_pos hr] at h;intro j hj;rcases List.mem_cons.1 hj with rfl|hj
   ·exact h
   ·rw [hr j hj]; exact h
  ·rw [if_neg hr] at h;cases h
theorem P2 {X:Type} {l:List Nat} {F:Nat→Option X} {x:X} (hl:l≠[]) (h:∀ i∈l,F i=some x):P1 l F=some x:=by
 cases l with
 |nil=>exact absurd rfl hl
 |cons i r=>
  show @ite _ (∀ j∈r,F j=F i) (aaf _) (F i) none=some x;have hr:∀ j∈r,F j=F i:=fun j hj=>by rw [h j (aao _ hj),h i aap]
  rw [if_pos hr];exact h i aap
noncomputable def xg (E:Env) (fz:Bool) (call:pW X) (lV:mz X) (f:FuncId) (ops:List Oper) (o:Oper) (K:St→Option X) (s:St):Option X:=
 match o.guard,vr E f s o,uj E s o with
 |none,some (c,s'),_=>bif c then sh fz s' K else none
 |none,none,some (c,s0,left,g)=>bif c then (bif left.isEmpty then sh fz s0 K else P1 left fun i=>bif (g i).1 then sh fz (g i).2 K else none) else none
 |_,_,_=>CH E fz call lV f ops o K s
noncomputable def CI (E:Env) (fz:Bool) (call:pW X) (lV:mz X) (f:FuncId) (ops:List Oper) (o:Oper) (K:St→Option X) (s:St):Option X:=
 match Jc E f s o with
 |some (c,s')=>bif c then xg E fz call lV f ops o K s' else none
 |none=>xg E fz call lV f ops o K s
noncomputable def P3 (E:Env) (fz:Bool) (call:pW X) (lV:mz X) (f:FuncId) (ops:List Oper):List Oper→(St→Option X)→St→Option X
 |[],K,s=>K s
 |o :: rest,K,s=>CI E fz call lV f ops o (fun s'=>match Bf E f o s' with
  |some s2=>P3 E fz call lV f ops rest K s2
  |none=>none) s
def Wi (E:Env) (f:FuncId) (ops:List Oper) (o:Oper) (s:St):Bool:=match o.op,o.dst with
 |.lookup t m k ok,some d=>match Dg ops s o,wX E s t (bP E s.ae m) (bP E s.ae k) with
  |some true,some (c,v,b)=>c&&Cs (.v (if ok then .bq [v,.bool b] else v)) (lk s.ae d)
  |_,_=>bRe E f ops o s
 |_,_=>bRe E f ops o s
def qR (E:Env) (f:FuncId) (ops:List Oper):List Nat→St→Bool
 |[],_=>true
 |k :: l,s=>(match nth ops k with
  |some ok=>Wi E f ops ok s
  |none=>true)&&qR E f ops l s
def oT (E:Env) (fz:Bool) (call:pW X) (lV:mz X) (fg:Option X→Option X→Option X) (f:FuncId) (ops:List Oper):DT→(St→Option X)→St→Option X
 |.done,K,s=>K s
 |.take j _ t,K,s=>match nth ops j with
  |some oj=>pX E fz call lV f ops oj (oT E fz call lV fg f ops t K) s
  |none=>none
 |.br i re _ t .stop,K,s=>match nth ops i with
  |some oi=>pX E fz call lV f ops oi (fun s'=>bif qR E f ops re s' then oT E fz call lV fg f ops t K s' else none) s
  |none=>none
 |.br i re _ t more,K,s=>fg (match nth ops i with
  |some oi=>pX E fz call lV f ops oi (fun s'=>bif qR E f ops re s' then oT E fz call lV fg f ops t K s' else none) s
  |none=>none) (oT E fz call lV fg f ops more K s)
 |.stop,_,_=>none
 |.al j W t,K,s=>match nth ops j with
  |some oj=>bif VY E f oj W s then pX E fz call lV f ops oj (oT E fz call lV fg f ops t K) s else none
  |none=>none
end ev
def Bt {X:Type} (N:St→Option X) (Q:Exit→St→Option X):Exit→St→Option X
 |.normal,s=>N s
 |e,s=>Q e s
def Mf {X:Type} (id:Nat) (Q:Exit→St→Option X):Exit→St→Option X
 |.exit jP,s=>bif aac jP id then Q .normal s else Q (.exit jP) s
 |e,s=>Q e s
def Wj {X:Type} (Q:Exit→St→Option X):Exit→St→Option X
 |.goto _,_=>none
 |e,s=>Q e s
def Mg {X:Type} (E:Env) (fn:Func) (K:AV→List GO→Option X):Exit→St→Option X
 |.normal,s | .ret,s=>match pK s.marks s.G with
  |some G=>match LF E (s.cH G) fn with
   |some r=>K r G
   |none=>none
  |none=>none
 |_,_=>none
def vT (s:St) (head:cU) (outs:List (XK × cU)):Exit→St→Option (head.ps.T ⊕ JT outs)
 |.normal,s'=>(head.dec s s').bind fun v=>some (.inl v)
 |e,s'=>(lC s outs e s').bind fun o=>some (.inr o)
noncomputable def Dh {X:Type} (a b:Option X):Option X:=@ite _ (a=b) (aaf _) a none
def vU {X:Type} (fg:Option X→Option X→Option X):Prop:=∀ a b x,fg a b=some x→a=some x∧b=some x
def GX {X:Type} (id:Nat) (K:Bool→List GO→Option X):Exit→St→Option X:=fun e s=>match nth s.G id with
 |some (.loop _ _ fn sl n ps tj bd d _)=>match e with
  |.normal=>K true (aI s.G id (.loop false none fn sl n ps tj bd d false))
  |.ret=>K false (aI s.G id (.loop false (some .ret) fn sl n ps tj bd d true))
  |.exit i=>K false (aI s.G id (.loop false (some (.exit i)) fn sl n ps tj bd d true))
  |_=>none
 |_=>none
def fpF (fp:Nat):Nat:=fp % 4096
def fpP (fp:Nat):Nat:=fp / 4096
abbrev Y7:=FuncId→Nat→Code→(X:Type)→(Option X→Option X→Option X)→(Exit→St→Option X)→St→Option X
section
variable (C:eB) (ih:Y7)
def Em {X:Type} (fg:Option X→Option X→Option X):pW X:=fun g args G K=>
 bif C.D.okF g then match C.D.P.funcs[g]? with
   |some fn=>match fn.body with
    | some b => bif !(fn.name == "runtime.NumGoroutine") then ih g 1 b X fg (Mg C.D.toEnv fn (bif C.D.BZ g 131072 then Wc C.D.toEnv (C.D.BZ g 131073) (C.D.BZ g 131074) fn.resultTypes.toList K else K)) (St.init fn.ntmps args G) else none
    |none=>none
   |none=>none
  else none
def En {X:Type} (fg:Option X→Option X→Option X):pW X:=fun g args G K=>
 match C.xe g with
 |some e=>(e.ps.dec args).bind fun x=>(e.T x).bind fun y=>K (e.p.enc y) G
 |none=>match C.gt g with
  |some e=>match e.f args G with
   |some (c,r,G')=>bif c then K r G' else none
   |none=>none
  |none=>match C.xt g with
   |some e=>(e.ps.dec args).bind fun x=>(e.T x).bind fun o=>Y6 G K e.outs o
   |none=>Em C ih fg g args G K
def P4 (n:Nat):List Tmp→Bool
 |[]=>true
 |t :: l=>Nat.blt t n&&P4 n l
def P5 {X:Type} (fg:Option X→Option X→Option X):mz X:=fun id args G K=>match nth G id with
 |some (.loop false _ fp sl n ps tj bd _ false)=>
  bif aac args.length ps.length&&P4 n ps&&bN (C.D.dt (fpF fp)) tj&&bN (C.D.dt (fpF fp)) bd then
   ih (fpF fp) (2 * fpP fp) tj X fg (fun e s1=>match e with
    |.normal=>match nth s1.G id with
     |some (.loop false p fn sl n ps tj Y4 d false)=>ih (fpF fp) (2 * fpP fp+1) bd X fg (GX id K) (s1.cH (aI s1.G id (.loop true p fn sl n ps tj Y4 d false)))
     |_=>none
    |_=>none) (St.round id (yV ps args sl) n G)
  else none
 |_=>none
noncomputable def zf (f:FuncId) (p:Nat) (c:Code) (X:Type) (fg:Option X→Option X→Option X) (K:Exit→St→Option X) (s:St):Option X:=
 match c with
 |.skip=>K .normal s
 |.label _=>K .normal s
 |.seq x y=>ih f (2 * p) x X fg (Bt (ih f (2 * p+1) y X fg K) K) s
 |.cond c x y=>match bP C.D.toEnv s.ae c with
  |.v (.bool b)=>bif b then ih f (2 * p) x X fg K s else ih f (2 * p+1) y X fg K s
  |_=>none
 |.block id c=>ih f (2 * p) c X fg (Mf id K) s
 |.exit id=>K (.exit id) s
 |.ret=>K .ret s
 |.region _ ops false=>P3 C.D.toEnv C.fz (En C ih fg) (P5 C ih fg) f ops.toList ops.toList (K .normal) s
 |.region id ops true=>match C.D.dt f id with
  |some pl=>oT C.D.toEnv C.fz (En C ih fg) (P5 C ih fg) fg f ops.toList pl.T (K .normal) s
  |none=>none
 |.scope c=>ih f (2 * p) c X fg (Wj K) s
 |.loop c=>ih f (2 * p) c X fg (Bt (ih f p (.loop c) X fg K) K) s
 |.rangeFunc g ps tj bd=>match s.ro with
  |none=>match bP C.D.toEnv s.ae g with
   |.v (.fn h first cap)=>En C ih fg h (first++[.yield (s.G.length+1)]++cap) (s.G++[.defers true]++[.loop false none (4096 * p+f) (ik s.ae) s.n ps.toList tj bd s.G.length false])
    (fun _ G'=>match nth G' (s.G.length+1) with
     |some (.loop busy pending _ _ _ _ _ _ _ done)=>bif !busy || done then
       match pending with
       |none=>sh C.fz ⟨s.ae,s.boxes,aI G' (s.G.length+1) .dead,s.G.length :: s.marks,s.ro,s.n⟩ (K .normal)
       |some .ret=>sh C.fz ⟨s.ae,s.boxes,aI G' (s.G.length+1) .dead,s.G.length :: s.marks,s.ro,s.n⟩ (K .ret)
       |some (.exit i)=>sh C.fz ⟨s.ae,s.boxes,aI G' (s.G.length+1) .dead,s.G.length :: s.marks,s.ro,s.n⟩ (K (.exit i))
       |_=>none
      else none
     |_=>none)
   |_=>none
  |some _=>none
 |_=>none
def GY:List Oper→List Tmp
 |[]=>[]
 |o :: l=>match o.dst with
  |some d=>d :: GY l
  |none=>GY l
def kR:Code→List Tmp→List Tmp
 |.region _ ops _,r=>GY ops.toList++r
 |.seq x y,r=>kR x (kR y r)
 |.cond _ x y,r=>kR x (kR y r)
 |.block _ c,r=>kR c r
 |.scope c,r=>kR c r
 |.loop c,r=>kR c r
 |.rangeFunc _ ps a b,r=>ps.toList++kR a (kR b r)
 |_,r=>r
def zg (W:List Tmp) (t:cU):cU:=⟨t.ps,t.sl,W,t.bx,t.g,t.Y2⟩
def tF (W:List Tmp):List (XK × cU)→List (XK × cU)
 |[]=>[]
 |(k,t) :: l=>(k,zg W t) :: tF W l
def Mh:Code→Bool
 |.loop _=>true
 |_=>false
noncomputable def aay {X:Type} (f:FuncId) (p:Nat) (c:Code) (outs:List (XK × cU)) (K:Exit→St→Option X) (s:St):Option X:=
 (zf C ih f p c (JT outs) Dh (lC s outs) s).bind fun o=>Pp s outs o K
noncomputable def UI {X:Type} (f:FuncId) (p:Nat) (b:Code) (s1:St) (head:cU) (outs:List (XK × cU)) (K:Exit→St→Option X):Option X:=
 (head.dec s1 s1).bind fun v0=>(ay (fun v=>ih f (2 * p) b (head.ps.T ⊕ JT outs) Dh (vT s1 head outs) (head.st s1 v)) C.N v0).bind fun o=>Pp s1 outs o K
def Mi (s:St) (head:cU) (outs:List (XK × cU)) (k:head.ps.T→Option (JT outs)):Exit→St→Option (JT outs)
 |.normal,s'=>(head.dec s s').bind k
 |e,s'=>lC s outs e s'
noncomputable def Mj {X:Type} (f:FuncId) (p:Nat) (b:Code) (s1:St) (head:cU) (outs:List (XK × cU)) (K:Exit→St→Option X):Option X:=
 (head.dec s1 s1).bind fun v0=>(nf (fun k v=>ih f (2 * p) b (JT outs) Dh (Mi s1 head outs k) (head.st s1 v)) C.N v0).bind fun o=>Pp s1 outs o K
def Mk {X:Type} (fg:Option X→Option X→Option X) (f:FuncId) (K:Exit→St→Option X):List Bool→Nat→Code→St→Option X
 |[],_,_,s=>K .normal s
 |true :: k,q,.seq x y,s=>ih f (2 * q) x X fg (Bt (Mk fg f K k (2 * q+1) y) K) s
 |false :: k,q,.seq x _,s=>Mk fg f K k (2 * q) x s
 |_ :: _,_,_,_=>none
def P6 {X:Type} (fg:Option X→Option X→Option X) (f:FuncId):List Bool→Nat→Code→(Exit→St→Option X)→St→Option X
 |[],q,c,K,s=>ih f q c X fg K s
 |true :: k,q,.seq _ y,K,s=>P6 fg f k (2 * q+1) y K s
 |false :: k,q,.seq x y,K,s=>P6 fg f k (2 * q) x (Bt (ih f (2 * q+1) y X fg K) K) s
 |_ :: _,_,_,_,_=>none
noncomputable def aaz {X:Type} (f:FuncId) (p:Nat) (b:Code) (k:List Bool) (s1:St) (head:cU) (outs:List (XK × cU)) (K:Exit→St→Option X):Option X:=
 ((Mk ih Dh f (vT s1 head outs) k (2 * p) b s1).bind fun r0=>
  Sum.elim (fun v0=>ay (fun v=>P6 ih Dh f k (2 * p) b (Bt (Mk ih Dh f (vT s1 head outs) k (2 * p) b) (vT s1 head outs)) (head.st s1 v)) C.N v0) (fun x=>some x) r0).bind fun o=>Pp s1 outs o K
noncomputable def zh (f:FuncId) (p:Nat) (c:Code) (X:Type) (fg:Option X→Option X→Option X) (K:Exit→St→Option X) (s:St):Option X:=
 match C.oo f p with
 |none=>zf C ih f p c X fg K s
 |some ct=>match Me s.G.length ct with
  |.join outs=>bif Mh c then none else aay C ih f p c (tF (kR c []) outs) K s
  |.loop gh head outs=>match c with
   |.loop b=>match ij gh s with
    |some s1=>UI C ih f p b s1 (zg (kR b []) head) (tF (kR b []) outs) K
    |none=>none
   |_=>none
  |.rot k gh head outs=>match c with
   |.loop b=>match ij gh s with
    |some s1=>aaz C ih f p b k s1 (zg (kR b []) head) (tF (kR b []) outs) K
    |none=>none
   |_=>none
  |.nf gh head outs=>match c with
   |.loop b=>match ij gh s with
    |some s1=>Mj C ih f p b s1 (zg (kR b []) head) (tF (kR b []) outs) K
    |none=>none
   |_=>none
  |.UH _ _ _=>none
end
noncomputable def ev (C:eB):Nat→Y7:=Nat.rec (fun _ _ _ _ _ _ _=>none) (fun _ ih=>zh C ih)
end Go.Am
namespace Go.Am
open Go
section ext
variable {E:Env} {f:FuncId} {s s':St} {o:Oper}
theorem a7.put (s:St) (d:Option Tmp) (x:SV):a7 s (s.put d x):=by
 cases d with
 |none=>exact a7.refl s
 |some d=>
  simp only [St.put];split
  ·exact ⟨⟨[_],rfl⟩,⟨[],rfl⟩,rfl⟩
  ·exact a7.refl s
theorem a7.cH (s:St) (G:List GO):a7 s (s.cH G):=⟨⟨[],rfl⟩,⟨[],rfl⟩,rfl⟩
theorem a7.dU (s:St) (o:GO):a7 s (s.dU o):=⟨⟨[],rfl⟩,⟨[],rfl⟩,rfl⟩
theorem a7.wj (s:St) (d:Nat) (cs:List AV):a7 s (s.wj d cs):=⟨⟨[],rfl⟩,⟨[_],rfl⟩,rfl⟩
theorem a7.kill (s:St) (d:Nat):a7 s (s.kill d):=⟨⟨[_],rfl⟩,⟨[],rfl⟩,rfl⟩
theorem JU {c:Bool} {s':St} (h:iu E f s o=some (c,s')):a7 s s':=by
 unfold iu at h;cases h
theorem GZ {c:Bool} (h:an E f s o=some (c,s')):a7 s s':=by
 have alloc:∀ {el:TypeId} {cs:List AV} {c:Bool} {s':St},fb E f s o.dst el cs=some (c,s')→a7 s s':=by
  intro el cs c s' h;unfold fb at h
  repeat' (split at h)
  all_goals (first|(cases h; done) | skip)
  ·injection h with h; injection h with _ h; subst h; exact (a7.dU _ _).trans (a7.put _ _ _)
  ·injection h with h; injection h with _ h; subst h; exact ((a7.kill _ _).trans (a7.wj _ _ _)).trans (a7.put _ _ _)
 have store:∀ {t:TypeId} {p x:SV} {s':St},jR E s t p x=some s'→a7 s s':=by
  intro t p x s' h;unfold jR at h
  repeat' (split at h)
  all_goals (first|(cases h; done) | skip)
  all_goals (injection h with h; subst h)
  ·exact a7.wj _ _ _
  ·exact a7.cH _ _
 have Gl:∀ {t:TypeId} {p x:SV} {c:Bool} {s':St},jS E s t p x=some (c,s')→a7 s s':=by
  intro t p x c s' h;unfold jS at h
  repeat' (split at h)
  all_goals (first|(cases h; done) | skip)
  all_goals (injection h with h; injection h with _ h; subst h)
  all_goals (first|exact a7.cH _ _ | exact store (by assumption))
 have blt:∀ {b:Builtin} {l:List AV} {tys:List TypeId} {c:Bool} {s':St},bW E s o.dst b l tys=some (c,s')→a7 s s':=by
  intro b l tys c s' h;unfold bW at h
  repeat' (split at h)
  all_goals (first|(cases h; done) | skip)
  all_goals (injection h with h; injection h with _ h; subst h)
  all_goals (first|exact a7.put _ _ _ | exact (a7.cH _ _).trans (a7.put _ _ _) | exact a7.cH _ _)
 have update:∀ {t:TypeId} {m k x:SV} {s':St},fc E s t m k x=some s'→a7 s s':=by
  intro t m k x s' h;unfold fc at h
  repeat' (split at h)
  all_goals (first|(cases h; done) | skip)
  all_goals (injection h with h; subst h; exact a7.cH _ _)
 have next:∀ {x:SV} {s':St},lL s o.dst x=some s'→a7 s s':=by
  intro x s' h;unfold lL at h;split at h
  ·split at h
   ·rename_i l pos hg;cases hb:Nat.blt pos l.length <;> rw [hb] at h <;> simp only [cond_true,cond_false] at h <;> cases h
    ·exact a7.put _ _ _
    ·exact (a7.cH _ _).trans (a7.put _ _ _)
   ·cases h
  ·cases h
 have Gm:∀ {t:TypeId} {m k:SV} {c:Bool} {v:AV} {s':St},gi E s t m k=some (c,v,s')→a7 s s':=by
  intro t m k c v s' h;unfold gi at h
  repeat' (split at h)
  all_goals (first|(cases h; done) | skip)
  all_goals (injection h with h; injection h with _ h; injection h with _ h; subst h; exact a7.cH _ _)
 have Gn:∀ {m st x:SV} {c:Bool} {s':St},eI s m st x=some (c,s')→a7 s s':=by
  intro m st x c s' h;unfold eI at h
  repeat' (split at h)
  all_goals (first|(cases h; done) | skip)
  all_goals (injection h with h; injection h with _ h; subst h; exact a7.cH _ _)
 unfold an at h
 repeat' (split at h)
 all_goals (first|(cases h; done) | exact alloc h | exact blt h | (rename_i hf; cases h; exact JU hf) | skip)
 all_goals (injection h with h; injection h with _ h; subst h)
 all_goals (first|exact a7.put _ _ _ | exact (a7.dU _ _).trans (a7.put _ _ _) | skip)
 all_goals (first|exact Gl (by assumption) | exact update (by assumption) | exact (Gm (by assumption)).trans (a7.put _ _ _) | exact Gn (by assumption) | exact next (by assumption))
theorem cG.hY {g:FuncId} {args UJ:List AV} {G:List GO} {Q:AV→List GO→Prop} (hw:cW args UJ) (h:cG E g UJ G Q):cG E g args G Q:=
 ⟨h.1,fun R w cs hg hl=>h.2 R w cs hg (hw.rel hl)⟩
theorem Eo {K:St→Prop} (h:ke E f o K s):ke E f o (fun s'=>K s'∧a7 s s') s:=by
 unfold ke at *;split
 ·rename_i x args tys ho;rw [ho] at h;simp only at h;split at h
  ·exact h.mono fun r G' hk=>⟨hk,(a7.cH _ _).trans (a7.put _ _ _)⟩
  ·exact h.mono fun r G' hk=>⟨hk,(a7.cH _ _).trans (a7.put _ _ _)⟩
  ·exact h
 ·rename_i ho;rw [ho] at h;exact h
 ·rename_i nc nd;split at h
  ·rename_i ho;exact absurd ho (nc _ _ _)
  ·exact h.elim
  ·split at h
   ·rename_i c s' hs;obtain ⟨hc,hk⟩:=h.out;exact dG.mk hc ⟨hk,GZ hs⟩
   ·exact h.elim
theorem lW {K:St→Prop} {ops:List Oper} (h:cw E f ops o K s):cw E f ops o (fun s'=>K s'∧a7 s s') s:=by
 unfold cw at *;split
 ·rename_i hg;rw [hg] at h;exact Eo h
 ·rename_i j want hg;rw [hg] at h;simp only at h;split
  ·rename_i hd;rw [hd] at h;exact h
  ·rename_i d hd;rw [hd] at h;simp only at h;split
   ·rename_i b hb;rw [hb] at h;simp only at h;refine ⟨fun e=>?_,fun e=>⟨h.2 e,(a7.put _ _ _).trans (a7.put _ _ _)⟩⟩;exact uF (Eo (h.1 e)) fun s' hh=>⟨hh.1,(a7.put _ _ _).trans hh.2⟩
   ·rename_i hb;rw [hb] at h;exact ⟨h,a7.put _ _ _⟩
   ·rename_i hb gJ;split at h
    ·rename_i b KM;exact absurd KM (hb b)
    ·rename_i KM;exact absurd KM gJ
    ·exact h
theorem AA {K K':St→Prop} {ops:List Oper} (h:fT E f ops o K s) (hK:∀ s,K s→K' s):fT E f ops o K' s:=by
 unfold fT at *;split
 ·rename_i s' h1 h2;rw [h1,h2] at h;exact hK _ h
 ·rename_i hn;split at h
  ·rename_i s' h1 h2;exact absurd h2 (hn s' h1)
  ·exact cz h hK
theorem wH {s':St} (h:ju E f s o=some s'):a7 s s':=by
 unfold ju at h
 repeat' (split at h)
 all_goals (first|(cases h; done) | skip)
 all_goals (injection h with h; subst h; exact (a7.dU _ _).trans (a7.put _ _ _))
theorem CJ {K:St→Prop} {ops:List Oper} (h:fT E f ops o K s):fT E f ops o (fun s'=>K s'∧a7 s s') s:=by
 unfold fT at *;split
 ·rename_i s' h1 h2;rw [h1,h2] at h;exact ⟨h,wH h2⟩
 ·rename_i hn;split at h
  ·rename_i s' h1 h2;exact absurd h2 (hn s' h1)
  ·exact lW h
theorem mA {K K':St→Prop} {ops:List Oper} (h:fm E f ops o K s) (hK:∀ s,K s→K' s):fm E f ops o K' s:=by
 unfold fm at *;split at h
 ·obtain ⟨h1,h2⟩:=h.out;exact dG.mk h1 (hK _ h2)
 ·obtain ⟨h1,h2,h3⟩:=h.out;exact dG.mk h1 ⟨fun e=>hK _ (h2 e),fun i hi=>let ⟨k1,k2⟩:=(h3 i hi).out; dG.mk k1 (hK _ k2)⟩
 ·exact AA h hK
theorem JV {c:Bool} {s':St} (h:vr E f s o=some (c,s')):a7 s s':=by
 unfold vr at h;cases h
theorem G3 {c:Bool} {s0:St} {left:List Nat} {g:Nat→Bool × St} (h:uj E s o=some (c,s0,left,g)):a7 s s0∧∀ i,a7 s (g i).2:=by
 unfold uj at h;split at h
 ·unfold AX at h;split at h
  ·split at h
   ·split at h
    ·cases h;exact ⟨a7.put _ _ _,fun i=>(a7.cH _ _).trans (a7.put _ _ _)⟩
    ·cases h
   ·cases h
  ·cases h
 ·cases h
theorem tG {K:St→Prop} {ops:List Oper} (h:fm E f ops o K s):fm E f ops o (fun s'=>K s'∧a7 s s') s:=by
 unfold fm at *;split at h
 ·rename_i hb;obtain ⟨h1,h2⟩:=h.out;exact dG.mk h1 ⟨h2,JV hb⟩
 ·rename_i hb;obtain ⟨h1,h2,h3⟩:=h.out;obtain ⟨k1,k2⟩:=G3 hb;exact dG.mk h1 ⟨fun e=>⟨h2 e,k1⟩,fun i hi=>let ⟨q1,q2⟩:=(h3 i hi).out; dG.mk q1 ⟨q2,k2 i⟩⟩
 ·exact CJ h
theorem mB {K K':St→Prop} {ops:List Oper} (h:fq E f ops o K s) (hK:∀ s,K s→K' s):fq E f ops o K' s:=by
 unfold fq at *;split at h
 ·exact ⟨h.1,mA h.2 hK⟩
 ·exact mA h hK
theorem iE {cut wk:Bool}:∀ {l:List Operand} {s s':St} {c:Bool},gT cut wk l s=(c,s')→a7 s s'
 |[],s,s',c,h=>by
  simp only [gT] at h;cases h;exact a7.refl _
 |.tmp t :: l,s,s',c,h=>by
  unfold gT at h;split at h
  ·rename_i c1 s1 h1;cases h2:gT cut wk l s1 with
   |mk c2 s2=>
   rw [h2] at h;simp only [aa1] at h;obtain ⟨_,rfl⟩:=h;exact (pG h1).trans (iE h2)
  ·exact iE h
 |.const _ :: l,s,s',c,h=>iE (l:=l) h
 |.global _ :: l,s,s',c,h=>iE (l:=l) h
 |.func _ :: l,s,s',c,h=>iE (l:=l) h
theorem Ml {s s':St} {o:Oper} {c:Bool} (h:Jc E f s o=some (c,s')):a7 s s':=by
 unfold Jc at h;split at h
 ·split at h
  ·injection h with h;exact iE h
  ·cases h
 ·cases h
theorem CK {K:St→Prop} {ops:List Oper} (h:fq E f ops o K s):fq E f ops o (fun s'=>K s'∧a7 s s') s:=by
 unfold fq at *;split at h
 ·rename_i c s' hz;exact ⟨h.1,mA (tG h.2) fun s2 h2=>⟨h2.1,(Ml hz).trans h2.2⟩⟩
 ·exact tG h
theorem zi {s s':St} {l:Loc} {sz:Nat} {e:TypeId} (h:pE s l sz e=some s'):a7 s s':=by
 unfold pE at h;cases Gj:aae 196608 sz with
 |true=>rw [Gj] at h; cases h; exact a7.dU _ _
 |false=>
 rw [Gj] at h;cases l with
 |slot t=>
  simp only at h;split at h
  ·cases h; exact ⟨⟨[_],rfl⟩,⟨[],rfl⟩,rfl⟩
  ·cases h
 |box k i=>
  simp only at h;split at h
  ·split at h
   ·cases h; exact ⟨⟨[],rfl⟩,⟨[_],rfl⟩,rfl⟩
   ·cases h
  ·cases h
 |row id i=>
  simp only at h;split at h
  ·split at h
   ·cases h; exact ⟨⟨[],rfl⟩,⟨[],rfl⟩,rfl⟩
   ·cases h
  ·cases h
theorem oq:∀ {l:List (Loc × Nat × TypeId)} {s s':St},ij l s=some s'→a7 s s'
 |[],s,s',h=>by
  simp only [ij] at h;cases h;exact a7.refl _
 |(l,sz,e) :: r,s,s',h=>by
  unfold ij at h;split at h
  ·rename_i s1 h1;exact (zi h1).trans (oq h)
  ·cases h
theorem pY:∀ {l:List (Loc × Nat × TypeId)} {s:St},a7 s (jq l s)
 |[],s=>a7.refl _
 |(l,sz,e) :: r,s=>by
  unfold jq;split
  ·rename_i s1 h1;exact (zi h1).trans pY
  ·exact pY
theorem JW {s s':St} {o:Oper} (h:Bf E f o s=some s'):a7 s s':=by
 unfold Bf at h;split at h
 ·cases h; exact a7.refl _
 ·split at h
  ·split at h
   ·rename_i hz;cases h;exact pG hz
   ·cases h
  ·split at h
   ·cases h; exact a7.refl _
   ·split at h
    ·cases h; exact pY
    ·cases h
theorem zj {K K':St→Prop} {ops:List Oper} (hK:∀ s,K s→K' s):∀ {l:List Oper} {s:St},pJ E f ops l K s→pJ E f ops l K' s
 |[],s,h=>hK s h
 |_ :: _,_,h=>mB h fun s' h'=>by
  unfold Bh at *;split at h'
  ·exact zj hK h'
  ·exact h'.elim
theorem zk {K K':St→Prop} {ops:List Oper} (hK:∀ s,K s→K' s) {T:DT} {s:St} (h:ua E f ops T K s):ua E f ops T K' s:=
 fw (ops:=⟨ops⟩) hK T s h
theorem Bu {K:St→Prop} {ops:List Oper}:∀ {l:List Oper} {s:St},pJ E f ops l K s→pJ E f ops l (fun s'=>K s'∧a7 s s') s
 |[],s,h=>⟨h,a7.refl s⟩
 |o :: l,s,h=>by
  simp only [pJ] at *;refine mB (CK h) fun s' hh=>?_
  obtain ⟨h1,h2⟩:=hh;unfold Bh at *;split at h1
  ·rename_i s2 hp;exact zj (fun s3 h3=>⟨h3.1,(h2.trans (JW hp)).trans h3.2⟩) (Bu h1)
  ·exact h1.elim
theorem tH {K:St→Prop} {ops:List Oper}:∀ {T:DT} {s:St},ua E f ops T K s→ua E f ops T (fun s'=>K s'∧a7 s s') s
 |.done,s,h=>⟨h,a7.refl s⟩
 |.stop,_,_=>trivial
 |.take j C T,s,h=>by
  unfold ua at h ⊢;split
  ·rename_i oj hj;rw [hj] at h;exact cz (lW h) fun s' hh=>zk (fun s2 h2=>⟨h2.1,hh.2.trans h2.2⟩) (tH hh.1)
  ·rename_i hj;rw [hj] at h;exact h
 |.al j W T,s,h=>by
  unfold ua at h ⊢;split
  ·rename_i oj hj;rw [hj] at h;exact ⟨h.1,cz (lW h.2) fun s' hh=>zk (fun s2 h2=>⟨h2.1,hh.2.trans h2.2⟩) (tH hh.1)⟩
  ·rename_i hj;rw [hj] at h;exact h
 |.br i re C T more,s,h=>by
  unfold ua at h ⊢;refine ⟨?_,tH h.2⟩;have h:=h.1;split
  ·rename_i oj hj;rw [hj] at h;exact cz (lW h) fun s' hh=>⟨hh.1.1,zk (fun s2 h2=>⟨h2.1,hh.2.trans h2.2⟩) (tH hh.1.2)⟩
  ·rename_i hj;rw [hj] at h;exact h
end ext
def mC (E:Env) (c:Code) (Q:Exit→St→Prop) (s:St):Prop:=fS E c (fun e s'=>Q e s'∧a7 s s') s
section sound
variable {E:Env} {f:FuncId} {s:St} {X:Type} {fz:Bool} {call:pW X} {lV:mz X} {fg:Option X→Option X→Option X} {x:X}
def ot (E:Env) (call:pW X):Prop:=∀ g args G K x,call g args G K=some x→cG E g args G (fun r G'=>K r G'=some x)
def vV (E:Env) (lV:mz X):Prop:=∀ id args G K x,lV id args G K=some x→kH E id args G (fun b G'=>K b G'=some x)
theorem bA {α:Type} {c:Bool} {a:Option α} {x:α} (h:(bif c then a else none)=some x):c=true∧a=some x:=by
 cases c
 ·cases h
 ·exact ⟨rfl,h⟩
theorem bind_some {α β:Type} {a:Option α} {k:α→Option β} {x:β} (h:a.bind k=some x):∃ y,a=some y∧k y=some x:=by
 cases a with
 |none=>cases h
 |some y=>exact ⟨y,rfl,h⟩
theorem JX {o:Oper} {n:Int} {len:Nat} {g:Nat→Oper} (h:CG E s o=some (n,len,g)) {j:Nat} (hj:n=(j:Int)):an E f s (g j)=an E f s o:=by
 subst hj;unfold CG at h;have Ft:∀ k:IntKind,bP E s.ae (.const (.int k (j:Int)))=.v (.int k j):=fun k=>rfl
 split at h
 ·rename_i t x y ho;split at h
  ·rename_i k n i h1 h2;split at h
   ·injection h with h; injection h with e1 h; injection h with e2 h;subst h; subst e1;simp only [an,ho,Ft,h1]
   ·cases h
  ·cases h
 ·rename_i t x y ho;split at h
  ·rename_i k n i h1 h2;split at h
   ·split at h
    ·split at h
     ·cases h
     ·injection h with h; injection h with e1 h; injection h with e2 h;subst h; subst e1;simp only [an,ho,Ft,h1]
    ·injection h with h; injection h with e1 h; injection h with e2 h;subst h; subst e1;simp only [an,ho,Ft,h1]
   ·cases h
  ·cases h
 ·cases h
theorem rL {o:Oper} {n:Int} {len:Nat} {g:Nat→Oper} (hi:CG E s o=some (n,len,g)) {K:St→Option X}:∀ (m j:Nat),xf E fz f g n K s m j=some x→∃ c s',an E f s o=some (c,s')∧c=true∧K s'=some x
 |0,_,h=>by cases h
 |m+1,j,h=>by
  unfold xf at h;by_cases hn:n=(j:Int)
  ·rw [decide_eq_true hn,cond_true,JX hi hn] at h;split at h
   ·rename_i c s' hs;obtain ⟨h1,h2⟩:=bA h;rw [df] at h2;exact ⟨c,s',hs,h1,h2⟩
   ·cases h
  ·rw [decide_eq_false hn,cond_false] at h;exact rL hi m (j+1) h
theorem zl {ops:List Oper} {o:Oper} (h:Wi E f ops o s=true):Gx E f ops o s:=by
 unfold Wi at h;split at h
 ·rename_i t m k ok d ho hd;split at h
  ·rename_i c v b hg hs;rw [aab] at h;obtain ⟨rfl,h⟩:=h;have hn:=tC hs;unfold Gx;rw [hg];simp only;have e:an E f s o=some (true,s.put o.dst (.v (if ok then .bq [v,.bool b] else v))):=by simp only [an,ho,hn]
   rw [hd] at e;rw [hd,e];refine ⟨rfl,?_⟩;unfold St.put;simp only;split
   ·rw [aA];exact Bo h
   ·rfl
  ·exact Bp h
 ·exact Bp h
theorem rM {ops:List Oper}:∀ {l:List Nat} {s:St},qR E f ops l s=true→Bl E f ops l s
 |[],_,_=>trivial
 |k :: l,s,h=>by
  unfold qR at h;unfold Bl;rw [aab] at h;refine ⟨?_,rM h.2⟩;have h:=h.1;split at h
  ·rename_i hk
   first
    |exact zl h
    |rw [hk]; exact zl h
  ·rename_i hk
   first
    |trivial
    |rw [hk]; trivial
theorem uM (hc:ot E call) (hr:vV E lV) {o:Oper} {K:St→Option X} (h:Wh E fz call lV f o K s=some x):ke E f o (fun s=>K s=some x) s:=by
 unfold ke;split
 ·rename_i y args tys ho;unfold Wh at h;rw [ho] at h;simp only at h;split at h
  ·rename_i h1 h2;rw [h1,h2];refine (hc _ _ _ _ _ h).mono fun r G' hk=>?_
   rw [df] at hk;exact hk
  ·rename_i h1 h2;rw [h1,h2];refine (hr _ _ _ _ _ h).mono fun r G' hk=>?_
   rw [df] at hk;exact hk
  ·cases h
 ·rename_i ho;unfold Wh at h;rw [ho] at h;cases h
 ·rename_i nc nd;unfold Wh at h;split at h
  ·rename_i ho;exact absurd ho (nc _ _ _)
  ·cases h
  ·rename_i y ho;split at h
   ·rename_i b s1 s2 hs;have hn:=GS hs;have e:an E f s o=some (true,bif b then s1 else s2):=by simp only [an,ho,hn]
    rw [e];refine dG.mk rfl ?_;rw [df,df] at h;cases b <;> exact h
   ·cases h
  ·rename_i t m k ok ho;split at h
   ·rename_i c v b hs;obtain ⟨h1,h2⟩:=bA h;subst h1;rw [df] at h2;have hn:=tC hs;have e:an E f s o=some (true,s.put o.dst (.v (if ok then .bq [v,.bool b] else v))):=by simp only [an,ho,hn]
    rw [e];exact dG.mk rfl h2
   ·split at h
    ·rename_i c s' hs;obtain ⟨h1,h2⟩:=bA h;rw [df] at h2;rw [hs];exact dG.mk h1 h2
    ·cases h
  ·rename_i t m k z ho;split at h
   ·rename_i c s' hd hs;obtain ⟨h1,h2⟩:=bA h;subst h1;rw [df] at h2;have hn:=tD hs;have e:an E f s o=some (true,s'):=by simp only [an,ho,hd,hn]
    rw [e];exact dG.mk rfl h2
   ·cases h
  ·rename_i t m k z ho;split at h
   ·rename_i c s' hd hs;obtain ⟨h1,h2⟩:=bA h;subst h1;rw [df] at h2;have hn:=tD hs;have e:an E f s o=some (true,s'):=by simp only [an,ho,hd,hn]
    rw [e];exact dG.mk rfl h2
   ·cases h
  ·rename_i args tys ho;split at h
   ·rename_i c s' hf;obtain ⟨h1,h2⟩:=bA h;rw [df] at h2;have e:an E f s o=some (c,s'):=by simp only [an,ho,hf]
    rw [e];exact dG.mk h1 h2
   ·rename_i hf;split at h
    ·rename_i l hl;split at h
     ·rename_i b s1 c s2 hs;have HY:b=false→c=true:=fun e=>by subst e; exact (bA (show (bif c then sh fz s2 K else none)=some x from h)).1
      have hn:=CD hs HY;have e:an E f s o=some (true,bif b then s1 else s2):=by simp only [an,ho,hf,hl,hn]
      rw [e];refine dG.mk rfl ?_;cases b with
      |true=>
       show K s1=some x;rw [← df fz s1 K];exact h
      |false=>
       obtain ⟨h1,h2⟩:=bA (show (bif c then sh fz s2 K else none)=some x from h);rw [df] at h2;exact h2
     ·split at h
      ·rename_i c s' hs;obtain ⟨h1,h2⟩:=bA h;rw [df] at h2;rw [hs];exact dG.mk h1 h2
      ·cases h
    ·cases h
  ·rename_i args tys ho;split at h
   ·rename_i l hl;split at h
    ·rename_i c s' hs;obtain ⟨h1,h2⟩:=bA h;subst h1;rw [df] at h2;have hn:=GU hs;have hf:iu E f s o=none:=by
      cases hf:iu E f s o with
      |none=>rfl
      |some r=>
       obtain ⟨_,_,h2⟩:=tq hf;rw [ho] at h2;cases h2
     have e:an E f s o=some (true,s'):=by simp only [an,ho,hf,hl,hn]
     rw [e];exact dG.mk rfl h2
    ·split at h
     ·rename_i c s' hs;obtain ⟨h1,h2⟩:=bA h;rw [df] at h2;rw [hs];exact dG.mk h1 h2
     ·cases h
   ·cases h
  ·split at h
   ·rename_i n len g hi;obtain ⟨c,s',hs,h1,h2⟩:=rL hi _ _ h;rw [hs];exact dG.mk h1 h2
   ·split at h
    ·rename_i c s' hs;obtain ⟨h1,h2⟩:=bA h;rw [df] at h2;rw [hs];exact dG.mk h1 h2
    ·cases h
theorem ki (hc:ot E call) (hr:vV E lV) {ops:List Oper} {o:Oper} {K:St→Option X} (h:pX E fz call lV f ops o K s=some x):cw E f ops o (fun s=>K s=some x) s:=by
 unfold pX at h;unfold cw;split at h
 ·rename_i hg;rw [hg];exact uM hc hr h
 ·rename_i j want hg;rw [hg];simp only;split at h
  ·cases h
  ·rename_i d hd;rw [hd];simp only;split at h
   ·rename_i b hb;rw [hb];simp only;cases want with
    |true=>
     simp only at h;rw [df,df] at h;refine ⟨fun e=>?_,fun e=>?_⟩
     ·subst e;exact uM hc hr h
     ·have e:b=false:=by simpa using e
      subst e;exact h
    |false=>
     simp only at h;rw [df,df] at h;refine ⟨fun e=>?_,fun e=>?_⟩
     ·subst e;exact uM hc hr h
     ·have e:b=true:=by simpa using e
      subst e;exact h
   ·rename_i hb;rw [hb];rw [df] at h;exact h
   ·cases h
theorem AB (hc:ot E call) (hr:vV E lV) {ops:List Oper} {o:Oper} {K:St→Option X} (h:CH E fz call lV f ops o K s=some x):fT E f ops o (fun s=>K s=some x) s:=by
 unfold CH at h;unfold fT;split at h
 ·rename_i s' h1 h2;rw [h1,h2];rw [df] at h;exact h
 ·rename_i hn;split
  ·rename_i s' h1 h2;exact absurd h2 (hn s' h1)
  ·exact ki hc hr h
theorem rN (hc:ot E call) (hr:vV E lV) {ops:List Oper} {o:Oper} {K:St→Option X} (h:xg E fz call lV f ops o K s=some x):fm E f ops o (fun s=>K s=some x) s:=by
 unfold xg at h;unfold fm;split at h
 ·rename_i c s' h1 h2;rw [h1,h2];obtain ⟨q1,q2⟩:=bA h;rw [df] at q2;exact dG.mk q1 q2
 ·rename_i c s0 left g h1 h2 h3;rw [h1,h2,h3];obtain ⟨q1,q2⟩:=bA h;refine dG.mk q1 ?_;cases left with
  |nil=>
   simp only [List.isEmpty_nil,cond_true,df] at q2;exact ⟨fun _=>q2,fun i hi=>by simp at hi⟩
  |cons i0 l=>
   simp only [List.isEmpty_cons,cond_false] at q2;refine ⟨fun e=>(by cases e),fun i hi=>?_⟩;obtain ⟨r1,r2⟩:=bA (JS q2 i hi);rw [df] at r2;exact dG.mk r1 r2
 ·rename_i KI hn2;split
  ·rename_i c s' h1 h2
   first
    |exact absurd h2 (KI c s' h1)
    |exact absurd h2 (hn2 c s' h1)
  ·rename_i c s0 left g h1 h2 h3
   first
    |exact absurd h3 (hn2 c s0 left g h1 h2)
    |exact absurd h3 (KI c s0 left g h1 h2)
  ·exact AB hc hr h
theorem AD (hc:ot E call) (hr:vV E lV) {ops:List Oper} {o:Oper} {K:St→Option X} (h:CI E fz call lV f ops o K s=some x):fq E f ops o (fun s=>K s=some x) s:=by
 unfold CI at h;unfold fq;split at h
 ·rename_i c s' hz;rw [hz];obtain ⟨h1,h2⟩:=bA h;exact ⟨h1,rN hc hr h2⟩
 ·rename_i hz;rw [hz];exact rN hc hr h
theorem zm (hc:ot E call) (hr:vV E lV) {ops:List Oper}:∀ {l:List Oper} {K:St→Option X} {s:St},P3 E fz call lV f ops l K s=some x→pJ E f ops l (fun s=>K s=some x) s
 |[],_,_,h=>h
 |o :: l,K,s,h=>by
  unfold P3 at h;unfold pJ;refine mB (AD hc hr h) fun s' h'=>?_
  unfold Bh;split at h'
  ·rename_i s2 hp;rw [hp];exact zm hc hr h'
  ·cases h'
theorem jH (hc:ot E call) (hr:vV E lV) (hm:vU fg) {ops:List Oper}:∀ {T:DT} {K:St→Option X} {s:St} {x:X},oT E fz call lV fg f ops T K s=some x→ua E f ops T (fun s=>K s=some x) s
 |.done,_,_,_,h=>h
 |.stop,_,_,_,_=>trivial
 |.take j C T,K,s,x,h=>by
  unfold oT at h;unfold ua;split at h
  ·rename_i hk;rw [hk];exact cz (ki hc hr h) fun s' h'=>jH hc hr hm h'
  ·cases h
 |.al j W T,K,s,x,h=>by
  unfold oT at h;unfold ua;split at h
  ·rename_i hk;obtain ⟨h1,h2⟩:=bA h;rw [hk];exact ⟨h1,cz (ki hc hr h2) fun s' h'=>jH hc hr hm h'⟩
  ·cases h
 |.br i re C T more,K,s,x,h=>by
  have first:∀ {x:X},(match nth ops i with
   |some oi=>pX E fz call lV f ops oi (fun s'=>bif qR E f ops re s' then oT E fz call lV fg f ops T K s' else none) s
   |none=>none)=some x→(match nth ops i with
   |some oi=>cw E f ops oi (fun s'=>Bl E f ops re s'∧ua E f ops T (fun s=>K s=some x) s') s
   |none=>False):=by
   intro x h;split at h
   ·rename_i hk;refine cz (ki hc hr h) fun s' h'=>?_
    obtain ⟨h1,h2⟩:=bA h';exact ⟨rM h1,jH hc hr hm h2⟩
   ·cases h
  unfold ua;cases more with
  |stop=>exact ⟨first h,trivial⟩
  |done=>obtain ⟨h1,h2⟩:=hm _ _ _ h; exact ⟨first h1,jH (T:=.done) hc hr hm h2⟩
  |take a b c=>obtain ⟨h1,h2⟩:=hm _ _ _ h; exact ⟨first h1,jH hc hr hm h2⟩
  |br a b c d e=>obtain ⟨h1,h2⟩:=hm _ _ _ h; exact ⟨first h1,jH hc hr hm h2⟩
  |al a b c=>obtain ⟨h1,h2⟩:=hm _ _ _ h; exact ⟨first h1,jH hc hr hm h2⟩
end sound
end Go.Am
