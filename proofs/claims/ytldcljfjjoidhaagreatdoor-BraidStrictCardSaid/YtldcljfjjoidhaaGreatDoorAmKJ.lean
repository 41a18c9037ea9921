/- The abstract machine: maps and ranges over strings on values with leaves. -/
import Derived.Test.YtldcljfjjoidhaaGreatDoorAmKI
set_option linter.all false
open Bool renaming and_eq_true→aaa
open Classical renaming propDecidable→aaB
open List renaming length_append→aaH, mem_cons_of_mem→aaR, mem_cons_self→aaX, nodup_nil→aa3
open Nat renaming beq→aab, eq_of_beq_eq_true→aac, ble→aax, min→aaC, ble_eq_true_of_le→aaM, lt_or_ge→aa5
open Option renaming isSome_iff_exists→aaY
open Option.some renaming inj→aaZ
open Prod.mk renaming injEq→aa4
namespace Go.Am
open Go
def LF (s:St) (dst:Option Tmp) (x:SV):Option (Bool × St × St):=match x with
 |.v (.ptr id 0)=>match nth s.G id with
  |some (.gB l pos)=>some (Nat.blt pos l.length,(s.cD (aF s.G id (.gB l (pos+(bp l pos).2)))).put dst (.v (.bk [.bool true,.int .i64 pos,.int .i32 (bp l pos).1])),s.put dst (.v (.bk [.bool false])))
  |_=>none
 |_=>none
theorem Gx {s:St} {dst:Option Tmp} {x:SV} {b:Bool} {s1 s2:St} (h:LF s dst x=some (b,s1,s2)):lF s dst x=some (bif b then s1 else s2):=by
 unfold LF at h;split at h
 ·split at h
  ·rename_i l pos hg;cases h;simp only [lF,hg];cases Nat.blt pos l.length <;> rfl
  ·cases h
 ·cases h
theorem H4 {e:EK} {k:AV}:∀ {es:List (AV × AV)},gC e k es=true→jY e k es=some (ky e k es)
 |[],_=>rfl
 |(k',v) :: l,h=>by
  simp only [gC,aaa] at h;obtain ⟨b,hb⟩:=aaY.1 h.1;simp only [jY,ky,xm,hb];cases b
  ·simp only [cond_false]; exact H4 h.2
  ·rfl
theorem LG {e:EK} {k v:AV}:∀ {es:List (AV × AV)},gC e k es=true→tZ e k v es=some (gJ e k v es)
 |[],_=>rfl
 |(k',v') :: l,h=>by
  simp only [gC,aaa] at h;obtain ⟨b,hb⟩:=aaY.1 h.1;simp only [tZ,gJ,xm,hb];cases b
  ·simp only [cond_false,LG h.2]
  ·rfl
mutual
def aM.flat:aM→Bool
 |.int _=>true
 |.bool=>true
 |.str=>true
 |.agg ps=>ps.flat
 |.bB _ _ p=>p.flat
 |_=>false
def aJ.flat:aJ→Bool
 |.nil=>true
 |.cons p ps=>p.flat&&ps.flat
end
theorem D8 {α:Type} {f:AV→Bool} {d:AV→α} {g:α→AV} (h:∀ a,f a=true→g (d a)=a):∀ {es:List AV},allFit f es=true→(es.map d).map g=es
 |[],_=>rfl
 |a :: l,hl=>by
  simp only [allFit,aaa] at hl;rw [List.map_cons,List.map_cons,h a hl.1,D8 h hl.2]
mutual
theorem aM.jD:∀ {p:aM},p.flat=true→∀ {a:AV},p.fits a=true→p.enc (p.bA a)=a
 |.int k,_,a,h=>by
  cases a <;> first | (cases h; done) | skip
  have hk:UA _ _=true:=h;rw [Fp hk]; rfl
 |.bool,_,a,h=>by cases a <;> first | (cases h; done) | rfl
 |.str,_,a,h=>by cases a <;> first | (cases h; done) | rfl
 |.agg ps,hp,a,h=>by
  cases a <;> first | (cases h; done) | skip
  exact congrArg AV.agg (aJ.jD (ps:=ps) hp h)
 |.bk _,hp,_,_=>by cases hp
 |.list _ _,hp,_,_=>by cases hp
 |.own _ _ _,hp,_,_=>by cases hp
 |.bB id sz p,hp,a,h=>by
  cases a <;> first | (cases h; done) | skip
  rename_i k bR es;cases k <;> first | (cases h; done) | skip
  rename_i jL j;simp only [aM.fits,aaa] at h;have e1:=aac h.1.1;have e2:=aac h.1.2;subst e1 e2;have hp:p.flat=true:=hp;show AV.list (.bB id j) sz ((es.map p.bA).map p.enc)=_;rw [D8 (fun a ha=>aM.jD hp ha) h.2]
 |.bN _,hp,_,_=>by cases hp
 |.two _ _,hp,_,_=>by cases hp
theorem aJ.jD:∀ {ps:aJ},ps.flat=true→∀ {l:List AV},ps.fits l=true→ps.enc (ps.bA l)=l
 |.nil,_,l,h=>by
  cases l with
  |nil=>rfl
  |cons _ _=>cases h
 |.cons p .nil,hp,l,h=>by
  simp only [aJ.flat,aaa] at hp;cases l with
  |nil=>cases h
  |cons a l=>
   simp only [aJ.fits,aaa] at h;cases l with
   |nil=>exact congrArg (fun x=>[x]) (aM.jD hp.1 h.1)
   |cons _ _=>cases h.2
 |.cons p (.cons q ps),hp,l,h=>by
  rw [aJ.flat,aaa] at hp;cases l with
  |nil=>cases h
  |cons a l=>
   rw [aJ.fits,aaa] at h;have h1:=aM.jD hp.1 h.1;have h2:=aJ.jD (ps:=.cons q ps) hp.2 h.2;show p.enc (p.bA a) :: (aJ.cons q ps).enc ((aJ.cons q ps).bA l)=a :: l;rw [h1,h2]
end
def wL (E:Env) (s:St) (t:TypeId) (m k:SV):Option (Bool × AV × Bool):=match TA E s.G t,E.ti t,mapOf s m,k with
 |some p,some i,some es,.v k=>match i.k with
  |.map kt _ (some z)=>match E.ti kt with
   |some j=>if j.ek.plain&&jl j.ek k&&p.flat then
     some (gC j.ek k es&&p.fits (eK j.ek k (Da E s.G t z) es),p.enc (p.bA (eK j.ek k (Da E s.G t z) es)),(ky j.ek k es).isSome)
    else none
   |none=>none
  |_=>none
 |_,_,_,_=>none
theorem th {E:Env} {s:St} {t:TypeId} {m k:SV} {v:AV} {b:Bool} (h:wL E s t m k=some (true,v,b)):lE E s t m k=some (v,b):=by
 unfold wL at h;split at h
 ·rename_i p i es k h1 h2 h3;split at h
  ·rename_i kt et z hk;split at h
   ·rename_i j hj;split at h
    ·rename_i hc;simp only [aaa] at hc;injection h with h;injection h with h4 h;injection h with h5 h6;rw [aaa] at h4;rw [aM.jD hc.2 h4.2] at h5;have e:jY j.ek k es=some (ky j.ek k es):=H4 h4.1;have AW:(j.ek.plain&&jl j.ek k)=true:=by rw [hc.1.1,hc.1.2]; rfl
     have e0:mE E s t m (.v k)=some ((ky j.ek k es).getD z,(ky j.ek k es).isSome):=by
      simp only [mE,h2,h3,hk,hj,AW,if_true,e];cases ky j.ek k es <;> rfl
     unfold lE;rw [e0];unfold eK at h5;cases hg:ky j.ek k es with
     |none=>
      rw [hg] at h5 h6;subst h5 h6;rfl
     |some v'=>
      rw [hg] at h5 h6;subst h5 h6;rfl
    ·cases h
   ·cases h
  ·cases h
 ·cases h
def wM (E:Env) (s:St) (t:TypeId) (m k x:SV):Option (Bool × St):=match E.ti t,m,k,x with
 |some i,.v (.map id),.v k,.v x=>match i.k,nth s.G id with
  |.map kt _ _,some (.map es)=>match E.ti kt with
   |some j=>if j.ek.plain&&jl j.ek k then some (gC j.ek k es,s.cD (aF s.G id (.map (gJ j.ek k x es)))) else none
   |none=>none
  |_,_=>none
 |_,_,_,_=>none
theorem tj {E:Env} {s s':St} {t:TypeId} {m k x:SV} (h:wM E s t m k x=some (true,s')):fc E s t m k x=some s':=by
 unfold wM at h;split at h
 ·rename_i i id k x h1;split at h
  ·rename_i kt _ _ es hk hg;split at h
   ·rename_i j hj;split at h
    ·rename_i hc;injection h with h;injection h with h4 h5;simp only [fc,h1,hk,hg,hj,hc,if_true,LG h4,h5]
    ·cases h
   ·cases h
  ·cases h
 ·cases h
def LH (E:Env) (s:St) (dst:Option Tmp) (l:List AV) (tys:List TypeId):Option (Bool × St):=match l,tys with
 |[.jZ id off sz len _,.str bs],t :: _=>match E.ti t,nth s.G id with
  |some i,some (.row cs el)=>match i.k with
   |.sl _ esz _ _ _=>if aab sz esz&&aab esz 1 then
     some (aax (off+(bs.take (aaC bs.length len)).length) cs.length,
      (s.cD (aF s.G id (.row (bf cs off ((bs.take (aaC bs.length len)).map jq)) el))).put dst (.v (.int .i64 (aaC bs.length len))))
    else none
   |_=>none
  |_,_=>none
 |[.jZ id off sz len _,.list _ bR es],t :: _=>match E.ti t,nth s.G id with
  |some i,some (.row cs el)=>match i.k with
   |.sl _ esz _ _ _=>if aab sz esz&&aab bR esz then
     some (aax (off+(aq (es.take (aaC es.length len))).length) cs.length,
      (s.cD (aF s.G id (.row (bf cs off (aq (es.take (aaC es.length len)))) el))).put dst (.v (.int .i64 (aaC es.length len))))
    else none
   |_=>none
  |_,_=>none
 |[.eu id f off sz len,.list _ bR xs],t :: _=>match E.ti t,nth s.G id with
  |some i,some (.dV es szo el)=>match i.k with
   |.sl _ esz _ _ _=>if aab sz esz&&aab szo sz&&aab bR esz then
     some (decide (f=es.length)&&decide (off+aaC xs.length len≤es.length),
      (s.cD (aF s.G id (.dV (bf es off (xs.take (aaC xs.length len))) szo el))).put dst (.v (.int .i64 (aaC xs.length len))))
    else none
   |_=>none
  |_,_=>none
 |_,_=>none
theorem Gy {E:Env} {s s':St} {dst:Option Tmp} {l:List AV} {tys:List TypeId} (h:LH E s dst l tys=some (true,s')):bT E s dst .copy l tys=some (true,s'):=by
 unfold LH at h;split at h
 ·rename_i id off sz len cap bs t ts;split at h
  ·rename_i i cs el hi hid;split at h
   ·rename_i a1 esz a2 a3 a4 hk;split at h
    ·rename_i hc;rw [aaa] at hc;injection h with h;injection h with h1 h2;have xq:(aab esz 1&&aax (off+(bs.take (aaC bs.length len)).length) cs.length)=true:=by rw [hc.2,h1]; rfl
     simp only [bT,hi,hk,sE,hid,hc.1,if_true,xq,h2]
    ·cases h
   ·cases h
  ·cases h
 ·rename_i id off sz len cap k bR es t ts;split at h
  ·rename_i i cs el hi hid;split at h
   ·rename_i a1 esz a2 a3 a4 hk;split at h
    ·rename_i hc;rw [aaa] at hc;injection h with h;injection h with h1 h2;have e2:(aab bR esz || es.isEmpty)=true:=by rw [hc.2]; rfl
     simp only [bT,hi,hk,sE,hid,hc.1,if_true,e2,h1,h2]
    ·cases h
   ·cases h
  ·cases h
 ·rename_i id f off sz len k bR xs t ts;split at h
  ·rename_i i es szo el hi hid;split at h
   ·rename_i a1 esz a2 a3 a4 hk;split at h
    ·rename_i hc;rw [aaa] at hc;injection h with h;injection h with h1 h2;rw [aaa,decide_eq_true_eq,decide_eq_true_eq] at h1;obtain ⟨rfl,h1⟩:=h1;have e2:(aab sz esz&&aab szo sz&&(aab bR esz || xs.isEmpty)&&aax es.length es.length&&aax es.length es.length&&aax (off+aaC xs.length len) es.length)=true:=by
      rw [hc.1,hc.2];simp only [Bool.true_or,Bool.true_and,aaa];exact ⟨⟨aaM (Nat.le_refl _),aaM (Nat.le_refl _)⟩,aaM h1⟩
     simp only [bT,hi,hk,sE,hid,e2,if_true,h2]
    ·cases h
   ·cases h
  ·cases h
 ·cases h
def wN (s:St) (dst:Option Tmp) (elem esz bL:Nat) (k:LK) (sz:Nat) (es ys:List AV):Option (Bool × St × Bool × St):=
 match k with
 |.nil=>some (ys.isEmpty,s.put dst (.v (.list .nil sz es)),decide ((es.length+ys.length) * bL≤140737488355328),
   (s.cD (s.G++[.tok (es.length+ys.length) esz elem])).put dst (.v (.list (.own s.G.length) esz (es++ys))))
 |.full=>if aab sz esz then some (ys.isEmpty,s.put dst (.v (.list .full sz es)),decide ((es.length+ys.length) * bL≤140737488355328),
   (s.cD (s.G++[.tok (es.length+ys.length) esz elem])).put dst (.v (.list (.own s.G.length) esz (es++ys)))) else none
 |.own id=>match nth s.G id with
  |some (.tok f bR e')=>if aab bR esz&&aab e' elem&&aab sz esz then
    some (false,s,decide (f=es.length)&&decide ((es.length+ys.length) * bL≤140737488355328),
     (s.cD (KD s.G id ys.length f esz elem)).put dst (.v (.list (.own id) esz (es++ys)))) else none
  |_=>none
 |.bB id j=>match nth s.G id with
  |some (.bB fs bR e')=>if aab bR esz&&aab e' elem&&aab sz esz then
    some (ys.isEmpty,s.put dst (.v (.list (.bB id j) sz es)),Pd fs j es.length&&decide ((es.length+ys.length) * bL≤140737488355328),
     (s.cD (aF s.G id (.bB (IQ fs j (es.length+ys.length)) esz elem))).put dst (.v (.list (.bB id j) esz (es++ys)))) else none
  |_=>none
 |.lq=>none
def Cq (s:St) (dst:Option Tmp) (elem esz bL id f off sz len:Nat) (ys:List AV):Option (Bool × St × Bool × St):=match nth s.G id with
 |some (.dV es bR e')=>if aab bR esz&&aab e' elem&&aab sz esz then
   some (false,s,decide (f=es.length)&&decide (off=0)&&decide (len=f)&&decide ((es.length+ys.length) * bL≤140737488355328),
    (s.cD (aF s.G id (.dV (es++ys) esz elem))).put dst (.v (.eu id (es.length+ys.length) 0 esz (es.length+ys.length)))) else none
 |_=>none
def Cr (E:Env) (s:St) (dst:Option Tmp) (l:List AV) (tys:List TypeId):Option (Bool × St × Bool × St):=match l,tys with
 |[.list k sz es,.list _ bR ys],[t,u]=>match E.ti t with
  |some i=>match i.k with
   |.sl elem esz _ bL (some z)=>
    if aab bR esz&&aab t u&&aax 1 esz&&aax 1 bL&&aab z.cells.length esz&&z.aY then
     wN s dst elem esz bL k sz es ys
    else none
   |_=>none
  |none=>none
 |[.eu id f off sz len,.list _ bR ys],[t,u]=>match E.ti t with
  |some i=>match i.k with
   |.sl elem esz _ bL (some z)=>
    if aab bR esz&&aab t u&&aax 1 esz&&aax 1 bL&&aab z.cells.length esz&&z.aY then Cq s dst elem esz bL id f off sz len ys else none
   |_=>none
  |none=>none
 |[.list k sz es,.str bs],[t,u]=>match E.ti t,E.ti u with
  |some i,some j=>match i.k,j.k with
   |.sl elem esz _ bL (some z),.str=>
    if aab esz 1&&aax 1 bL&&aab z.cells.length esz&&z.aY then wN s dst elem esz bL k sz es (bs.map jq) else none
   |_,_=>none
  |_,_=>none
 |_,_=>none
theorem tn {s s1 s2:St} {dst:Option Tmp} {elem esz bL:Nat} {k:LK} {sz:Nat} {es ys:List AV} {b c:Bool} (h:wN s dst elem esz bL k sz es ys=some (b,s1,c,s2)) (hc:b=false→c=true) :
  ∃ v G',gi s.G elem esz bL (.list k sz es) ys=some (true,v,G')∧(s.cD G').put dst (.v v)=bif b then s1 else s2:=by
 unfold wN at h;cases k with
 |nil=>
  cases h;cases ys with
  |nil=>exact ⟨_,_,rfl,rfl⟩
  |cons y ys=>
   have hc:=hc rfl;exact ⟨_,_,by simp only [gi,hc],rfl⟩
 |full=>
  simp only at h;cases hs:aab sz esz with
  |false=>rw [hs] at h; cases h
  |true=>
   rw [hs] at h;cases h;cases ys with
   |nil=>exact ⟨_,_,rfl,rfl⟩
   |cons y ys=>
    have hc:=hc rfl;exact ⟨_,_,by simp only [gi,hs,if_true,hc],rfl⟩
 |own id=>
  simp only at h;split at h
  ·rename_i f bR e' hg;split at h
   ·rename_i cL;cases h;have hc:=hc rfl;cases ys with
    |nil=>
     simp only [aaa] at cL;have e1:=aac cL.1.1;have e2:=aac cL.1.2;have e3:=aac cL.2;subst e1; subst e2; subst e3;refine ⟨_,_,rfl,?_⟩;simp only [cond_false,KD,List.length_nil,Nat.add_zero,ju hg,List.append_nil]
    |cons y ys=>exact ⟨_,_,by simp only [gi,hg,cL,if_true,hc],rfl⟩
   ·cases h
  ·cases h
 |bB id j=>
  simp only at h;split at h
  ·rename_i fs bR e' hg;split at h
   ·rename_i cL;cases h;cases ys with
    |nil=>exact ⟨_,_,rfl,rfl⟩
    |cons y ys=>
     have hc:=hc rfl;exact ⟨_,_,by simp only [gi,hg,cL,if_true,hc],rfl⟩
   ·cases h
  ·cases h
 |lq=>cases h
theorem Cs {s s1 s2:St} {dst:Option Tmp} {elem esz bL id f off sz len:Nat} {ys:List AV} {b c:Bool} (h:Cq s dst elem esz bL id f off sz len ys=some (b,s1,c,s2)) (hc:b=false→c=true) :
  ∃ v G',gi s.G elem esz bL (.eu id f off sz len) ys=some (true,v,G')∧(s.cD G').put dst (.v v)=bif b then s1 else s2:=by
 unfold Cq at h;split at h
 ·rename_i es bR e' hg;split at h
  ·rename_i cL;cases h;have hc:=hc rfl;cases ys with
   |nil=>
    simp only [aaa,decide_eq_true_eq] at hc cL;have e1:=aac cL.1.1;have e2:=aac cL.1.2;have e3:=aac cL.2;obtain ⟨⟨⟨h1,h2⟩,h3⟩,_⟩:=hc;subst e1; subst e2; subst e3; subst h1; subst h2; subst h3;refine ⟨_,_,rfl,?_⟩;simp only [cond_false,List.length_nil,Nat.add_zero,ju hg,List.append_nil]
   |cons y ys=>exact ⟨_,_,by simp only [gi,hg,cL,if_true,hc],rfl⟩
  ·cases h
 ·cases h
theorem Ct {E:Env} {s s1 s2:St} {dst:Option Tmp} {l:List AV} {tys:List TypeId} {b c:Bool} (h:Cr E s dst l tys=some (b,s1,c,s2)) (HI:b=false→c=true):bT E s dst .append l tys=some (true,bif b then s1 else s2):=by
 unfold Cr at h;split at h
 ·rename_i k sz es k' bR ys t u;split at h
  ·rename_i i hi;split at h
   ·rename_i elem esz a1 bL z hk;split at h
    ·rename_i hc;have AW:((aab bR esz || ys.isEmpty)&&aab t u&&aax 1 esz&&aax 1 bL&&aab z.cells.length esz&&z.aY)=true:=by
      simp only [aaa] at hc ⊢;obtain ⟨⟨⟨⟨⟨c1,c2⟩,c3⟩,c4⟩,c5⟩,c6⟩:=hc;exact ⟨⟨⟨⟨⟨by rw [c1]; rfl,c2⟩,c3⟩,c4⟩,c5⟩,c6⟩
     obtain ⟨v,G',h1,h2⟩:=tn h HI;simp only [bT,hi,hk,AW,if_true,h1,h2]
    ·cases h
   ·cases h
  ·cases h
 ·rename_i id f off sz len k' bR ys t u;split at h
  ·rename_i i hi;split at h
   ·rename_i elem esz a1 bL z hk;split at h
    ·rename_i hc;have AW:((aab bR esz || ys.isEmpty)&&aab t u&&aax 1 esz&&aax 1 bL&&aab z.cells.length esz&&z.aY)=true:=by
      simp only [aaa] at hc ⊢;obtain ⟨⟨⟨⟨⟨c1,c2⟩,c3⟩,c4⟩,c5⟩,c6⟩:=hc;exact ⟨⟨⟨⟨⟨by rw [c1]; rfl,c2⟩,c3⟩,c4⟩,c5⟩,c6⟩
     obtain ⟨v,G',h1,h2⟩:=Cs h HI;simp only [bT,hi,hk,AW,if_true,h1,h2]
    ·cases h
   ·cases h
  ·cases h
 ·rename_i k sz es bs t u;split at h
  ·rename_i i j hi hj;split at h
   ·rename_i elem esz a1 bL z hk YZ;split at h
    ·rename_i hc;obtain ⟨v,G',h1,h2⟩:=tn h HI;simp only [bT,hi,hj,hk,YZ,hc,if_true,h1,h2]
    ·cases h
   ·cases h
  ·cases h
 ·cases h
end Go.Am
namespace Go.Am
open Go
def Vy (E:Env) (cut wk:Bool) (t:TypeId) (r:AV) (G:List GO):Option (Bool × AV × List GO):=match r with
 |.eu id f 0 sz len=>match nth G id,E.ti t with
  |some (.dV es bR _),some i=>match i.k with
   |.sl _ esz _ _ _=>if aab esz sz&&aab bR sz then
     bif cut then some (decide (f=es.length)&&decide (len≤es.length)&&aB (AT wk es),.list .lq sz (AT wk (es.take len)),aF G id .dead)
     else some (decide (f=es.length)&&decide (len=es.length)&&aB (AT wk es),.list .lq sz (AT wk es),aF G id .dead)
    else none
   |_=>none
  |_,_=>none
 |.jZ id 0 sz len _=>match nth G id,E.ti t,E.Pc t with
  |some (.row cs _),some i,some p=>match i.k with
   |.sl _ esz agg _ _=>if aab esz sz&&aax 1 sz&&(agg || aab sz 1)&&p.under 0 then
     some (aab cs.length (len * sz)&&allFit (fun e=>p.fits e&&e.aY&&(agg || e.one)) (gZ agg sz len cs),.list .lq sz ((gZ agg sz len cs).map fun e=>p.enc (p.bA e)),aF G id .dead)
    else none
   |_=>none
  |_,_,_=>none
 |.agg cs=>match mF wk cs G with
  |(c,cs',G')=>some (c,.agg cs',G')
 |.ptr id 0=>match nth G id with
  |some (.row cs _)=>some (aB cs,.ep cs,aF G id .dead)
  |_=>none
 |_=>none
def yL (E:Env) (cut wk:Bool):List TypeId→List AV→List GO→Bool × List AV × List GO
 |t :: ts,r :: rs,G=>match Vy E cut wk t r G with
  |some (c,r',G')=>match yL E cut wk ts rs G' with
   |(c',LI,Bn)=>(c&&c',r' :: LI,Bn)
  |none=>match yL E cut wk ts rs G with
   |(c',LI,Bn)=>(c',r :: LI,Bn)
 |_,rs,G=>(true,rs,G)
def Vz {X:Type} (E:Env) (cut wk:Bool) (ts:List TypeId) (K:AV→List GO→Option X) (r:AV) (G:List GO):Option X:=match r with
 |.bk rs=>match yL E cut wk ts rs G with
  |(c,LI,G')=>bif c then K (.bk LI) G' else none
 |r=>match yL E cut wk ts [r] G with
  |(c,[r'],G')=>bif c then K r' G' else none
  |_=>none
section
variable {E:Env} {R:ak} {w:World}
theorem yM {R:ak} {b:Nat} (hI:∀ o,R.I b o):∀ {cs:List AV} {vs:List Value} {o:Nat},aK R w cs vs→(∀ v∈vs,v.oneCell'=true)→(∀ (j:Nat) (v:Value),vs[j]?=some v→w.cell? ⟨b,o+j,none⟩=some v)→dR R w b o cs
 |[],_,o,_,_,_=>.nil
 |a :: cs,_,o,.cons h t,h1,hc=>.cons (hc 0 _ rfl) (h1 _ (by simp)) (hI o) h (yM hI t (fun v hv=>h1 v (by simp [hv])) fun j v hj=>by
   have:=hc (j+1) v (by simpa using hj);rwa [show o+(j+1)=o+1+j by omega] at this)
theorem yN {R:ak} {b:Nat} {p:aM} {agg:Bool} {sz:Nat} (hI:∀ o,R.I b o) (hp:p.under 0=true) (eY:(agg || aab sz 1)=true) (adu:1≤sz):∀ (n:Nat) {cs:List AV} {vs:List Value} {o:Nat},aK R w cs vs→(∀ v∈vs,v.oneCell'=true)→cs.length=n * sz →
  (∀ (j:Nat) (v:Value),vs[j]?=some v→w.cell? ⟨b,o+j,none⟩=some v)→allFit (fun e=>p.fits e&&e.aY&&(agg || e.one)) (gZ agg sz n cs)=true→gl R w b o sz ((gZ agg sz n cs).map fun e=>p.enc (p.bA e))
 |0,_,_,_,_,_,_,_,_=>.nil
 |n+1,cs,vs,o,h,h1,hl,hc,hf=>by
  simp only [gZ,allFit,aaa] at hf;obtain ⟨⟨⟨KT,hf2⟩,hf4⟩,hf3⟩:=hf;have hlen:=h.length;have hle:sz≤cs.length:=by rw [hl,Nat.succ_mul]; omega
  have dk:=p.dc KT;have mi:(Yx agg (cs.take sz)).cells=cs.take sz:=by
   cases agg with
   |true=>rfl
   |false=>
    have HA:sz=1:=by simpa using eY
    subst HA
    match cs,hle with
    |a :: cs,_=>
     show AV.cells a=[a];have ho:a.one=true:=by simpa [Yx,eB] using hf4
     cases a <;> first | rfl | simp [AV.one] at ho
  have hw:=dk.cells hf2;rw [mi] at hw;have hA:dR R w b o (cs.take sz):=yM hI (h.take sz) (fun v hv=>h1 v (List.mem_of_mem_take hv)) fun j v hj=>hc j v (by
   rw [List.getElem?_take] at hj;split at hj
   ·exact hj
   ·cases hj)
  refine .cons (by rw [← hw.length,List.length_take,Nat.min_eq_left hle]) (by rw [dk.bk]; exact hf2) (mm (p.dG _ hp)) (hw.KJ hA) ?_;exact yN hI hp eY adu n (h.drop sz) (fun v hv=>h1 v (List.mem_of_mem_drop hv)) (by rw [List.length_drop,hl,Nat.succ_mul]; omega) (fun j v hj=>by
   rw [List.getElem?_drop] at hj;have:=hc _ _ hj;rwa [show o+(sz+j)=o+sz+j by omega] at this) hf3
theorem PI {cut wk:Bool} {t:TypeId} {r r':AV} {G G':List GO} {c:Value} (hg:dB E R w G) (hr:Rel R w r c) (h:Vy E cut wk t r G=some (true,r',G')) :
  ∃ R',dB E R' w G'∧Rel R' w r' c∧Ext R w R' w∧R'.obj=R.obj∧∀ b o,R'.I b o→R.I b o∨Live R b:=by
 unfold Vy at h;split at h
 ·rename_i id f sz len;obtain ⟨ro,b6⟩:∃ ro,nth R.obj id=some ro:=by
   cases hr with
   |iV q _=>exact ⟨_,q⟩
   |eu q _ _=>exact ⟨_,q⟩
  split at h
  ·rename_i es bR el i hid hi;split at h
   ·split at h
    ·rename_i hc;rw [aaa] at hc;have q1:=aac hc.2;subst q1;cases cut with
     |true=>
      simp only [cond_true] at h;injection h with h; injection h with h1 h; injection h with h2 h3;subst h2 h3;rw [aaa,aaa,decide_eq_true_eq,decide_eq_true_eq] at h1;obtain ⟨h1,jm⟩:=h1;obtain ⟨R',r1,r2,r3,r4,r5⟩:=nR (wk:=wk) hg hid h1.1 h1.2 jm b6;exact ⟨R',r1,r5 c hr,r2,r3,fun b o hi=>(r4 b o hi).imp_right fun hb=>⟨id,ro,b6,hb⟩⟩
     |false=>
      simp only [cond_false] at h;injection h with h; injection h with h1 h; injection h with h2 h3;subst h2 h3;rw [aaa,aaa,decide_eq_true_eq,decide_eq_true_eq] at h1;obtain ⟨h1,jm⟩:=h1;obtain ⟨R',r1,r2,r3,r4,r5⟩:=nR (wk:=wk) hg hid h1.1 (Nat.le_of_eq h1.2) jm b6;have r6:=r5 c hr;rw [h1.2,List.take_length] at r6;exact ⟨R',r1,r6,r2,r3,fun b o hi=>(r4 b o hi).imp_right fun hb=>⟨id,ro,b6,hb⟩⟩
    ·cases h
   ·cases h
  ·cases h
 ·rename_i id sz len cap;split at h
  ·rename_i cs i p hid hi hp;split at h
   ·rename_i el esz agg eb z hk;split at h
    ·rename_i hc;simp only [aaa] at hc;injection h with h;injection h with h1 h;injection h with h2 h3;subst h2 h3;rw [aaa] at h1;cases hr with
     | @jZ _ _ _ _ _ b hb hU=>
     obtain ⟨vs,k1,k2,k3,k4⟩:=hg.obj id _ _ hid hb;have Dn:Live R b:=⟨id,_,hb,rfl⟩;have e:=qn R w b;have bZ:=bi k1;refine ⟨R.all b,⟨by show R.obj.length=_; rw [ik]; exact hg.len,fun jL go ro q1 q2=>?_,hg.inj,fun b' o ho=>?_,fun g cs rJ=>(hg.ck g cs rJ).mono e,hg.lo⟩,?_,e,rfl,fun b' o ho=>?_⟩
     ·rcases dp q1 with ⟨rfl,rfl,_⟩|⟨cQ,q1⟩
      ·have:ro=.ca b:=aaZ (q2.symm.trans hb);subst this;exact bZ
      ·refine (hg.obj jL go ro q1 q2).mono e (fun _ _=>rfl) (fun b' o gL ho=>?_);rcases ho with ho|ho
       ·exact ho
       ·subst ho;exact absurd (hg.inj id jL _ _ b' hb q2 rfl gL) cQ
     ·rcases ho with ho|ho
      ·exact hg.wf b' o ho
      ·subst ho; exact bZ
     ·refine Rel.list (yN (R:=R.all b) (fun o=>Or.inr rfl) hc.2 hc.1.2 (Nat.le_of_ble_eq_true hc.1.1.2) len (k2.mono e) k3 (aac h1.1) (fun j v hj=>?_) h1.2) ?_ hU trivial
      ·simp only [World.cell?,k1];simpa using hj
      ·rw [List.length_map];have:∀ (n:Nat) (l:List AV),(gZ agg sz n l).length=n:=by
        intro n
        induction n with
        |zero=>intro l; rfl
        |succ n ih=>intro l; simp [gZ,ih]
       rw [this]
     ·rcases ho with ho|ho
      ·exact .inl ho
      ·subst ho; exact .inr Dn
    ·cases h
   ·cases h
  ·cases h
 ·rename_i cs;cases h2:mF wk cs G with
  |mk c' q=>
  obtain ⟨cs',G2⟩:=q;rw [h2] at h;injection h with h; injection h with h1 h; injection h with h3 h4;subst h1 h3 h4;cases hr with
  |agg hr xq=>
  obtain ⟨R',r1,r2,r3,r4,r5⟩:=sZ hg hr h2;exact ⟨R',r1,.agg r2 xq,r3,r4,r5⟩
 ·-- an object's cells never change again
  rename_i id;split at h
  ·rename_i cs el hid;injection h with h; injection h with h1 h; injection h with h2 h3;subst h2 h3;cases hr with
   | @ptr _ _ b b6=>
   obtain ⟨vs,b1,b2,b3,b4⟩:=hg.obj id _ _ hid b6;have r2:=qn R w b;have r1:=hg.freeze b6 rfl (show gK (R.all b) w .dead (.ca b) from bi b1);refine ⟨R.all b,r1,Rel.ep (dR.make (b2.mono r2) b3 (fun j v hv=>?_) (fun j _=>.inr rfl)),r2,rfl,fun b' o hi=>?_⟩
   ·rw [jw b1,Nat.zero_add];exact hv
   ·rcases hi with hi|rfl
    ·exact .inl hi
    ·exact .inr ⟨id,_,b6,rfl⟩
  ·cases h
 ·cases h
theorem wO {cut wk:Bool}:∀ {ts:List TypeId} {rs LI:List AV} {G G':List GO} {cs:List Value} {R:ak},dB E R w G→aK R w rs cs→yL E cut wk ts rs G=(true,LI,G') →
  ∃ R',dB E R' w G'∧aK R' w LI cs∧Ext R w R' w∧R'.obj=R.obj∧∀ b o,R'.I b o→R.I b o∨Live R b
 |[],rs,LI,G,G',cs,R,hg,hr,h=>by
  cases rs <;> (simp only [yL] at h; cases h; exact ⟨R,hg,hr,Ext.refl R w,rfl,fun _ _ h=>.inl h⟩)
 |_ :: _,[],LI,G,G',cs,R,hg,hr,h=>by
  simp only [yL] at h; cases h; exact ⟨R,hg,hr,Ext.refl R w,rfl,fun _ _ h=>.inl h⟩
 |t :: ts,r :: rs,LI,G,G',cs,R,hg,hr,h=>by
  cases hr with
  |cons h0 hr=>
  unfold yL at h;split at h
  ·rename_i c r' G1 h1;cases h2:yL E cut wk ts rs G1 with
   |mk c' q=>
   obtain ⟨Y9,G2⟩:=q;rw [h2] at h;simp only [aa4,aaa] at h;obtain ⟨⟨rfl,rfl⟩,rfl,rfl⟩:=h;obtain ⟨R1,a1,a2,a3,a4,a5⟩:=PI hg h0 h1;obtain ⟨R2,b1,b2,b3,b4,b5⟩:=wO a1 (hr.mono a3) h2;refine ⟨R2,b1,.cons (a2.mono b3) b2,a3.trans b3,b4.trans a4,fun b o ho=>?_⟩;rcases b5 b o ho with ho|ho
   ·exact a5 b o ho
   ·obtain ⟨id,ro,q1,q2⟩:=ho;rw [a4] at q1;exact .inr ⟨id,ro,q1,q2⟩
  ·cases h2:yL E cut wk ts rs G with
   |mk c' q=>
   obtain ⟨Y9,G2⟩:=q;rw [h2] at h;simp only [aa4] at h;obtain ⟨rfl,rfl,rfl⟩:=h;obtain ⟨R2,b1,b2,b3,b4,b5⟩:=wO hg hr h2;exact ⟨R2,b1,.cons (h0.mono b3) b2,b3,b4,b5⟩
theorem cB.frz {g:FuncId} {args:List AV} {G:List GO} {X:Type} {cut wk:Bool} {ts:List TypeId} {K:AV→List GO→Option X} {x:X} (h:cB E g args G (fun r G'=>Vz E cut wk ts K r G'=some x)):cB E g args G (fun r G'=>K r G'=some x):=
 ⟨h.1,fun R w cs hg hl=>(h.2 R w cs hg hl).mono fun e w' he=>by
  cases e with
  |panicked c=>exact he.elim
  |outgrown=>exact he.elim
  |returned c=>
   obtain ⟨r,G',R1,hq,ej,PH,st⟩:=he;have fin:∀ (r':AV) (G2:List GO) (R2:ak),K r' G2=some x→dB E R2 w' G2→Rel R2 w' r' c→Ext R1 w' R2 w'→R2.obj=R1.obj→(∀ b o,R2.I b o→R1.I b o∨Live R1 b)→HQ E R w (fun r G'=>K r G'=some x) (.returned c) w':=by
    intro r' G2 R2 k1 k2 k3 k4 k5 k6;have live:∀ b,Live R2 b→Live R1 b:=fun b ⟨id,ro,q1,q2⟩=>⟨id,ro,by rw [← k5]; exact q1,q2⟩
    refine ⟨r',G2,R2,k1,k3,k2,⟨st.ext.trans k4,st.os,st.tape,st.output,st.size,st.aW,fun b hb ho=>?_,fun b o hi hb hn=>?_⟩⟩
    ·rcases ho with ho|⟨k,cs,hk,rfl⟩
     ·exact st.own b hb (.inl (live b ho))
     ·simp [fq,dy] at hk
    ·rcases k6 b o hi with hi|hi
     ·exact st.im b o hi hb hn
     ·exact absurd (st.own b hb (.inl hi)) hn
   unfold Vz at hq;split at hq
   ·rename_i rs;cases ej with
    |bk ej=>
    cases h2:yL E cut wk ts rs G' with
    |mk c' q=>
    obtain ⟨Y9,G2⟩:=q;rw [h2] at hq;cases c' with
    |false=>cases hq
    |true=>
     obtain ⟨R2,b1,b2,b3,b4,b5⟩:=wO PH ej h2;exact fin (.bk Y9) G2 R2 hq b1 (.bk b2) b3 b4 b5
   ·split at hq
    ·rename_i c' r' G2 h2;cases c' with
     |false=>cases hq
     |true=>
      obtain ⟨R2,b1,b2,b3,b4,b5⟩:=wO PH (.cons ej .nil) h2;cases b2 with
      |cons b2 _=>exact fin r' G2 R2 hq b1 b2 b3 b4 b5
    ·cases hq⟩
end
end Go.Am
namespace Go.Am
open Go
inductive RP
 |TZ (p:aM)
 |map (pe:aM)
 |ep (ps:aJ)
def RP.T:RP→Type
 |.TZ p=>p.T
 |.map pe=>List pe.T
 |.ep ps=>ps.T
def RP.enc (n:Nat):(p:RP)→p.T→AV
 |.TZ p,x=>p.enc x
 |.map _,_=>.map n
 |.ep ps,x=>.ep (ps.enc x)
def RP.Gz:(p:RP)→p.T→List GO
 |.TZ _,_=>[]
 |.map pe,(x:List pe.T)=>[.map (aG (x.map pe.enc))]
 |.ep _,_=>[]
def RP.no:RP→Nat
 |.map _=>1
 |_=>0
def uC:List RP→Type
 |[]=>Unit
 |[p]=>p.T
 |p :: q :: l=>p.T × uC (q :: l)
def pN:(n:Nat)→(l:List RP)→uC l→List AV
 |_,[],_=>[]
 |n,[p],x=>[p.enc n x]
 |n,p :: q :: l,x=>p.enc n x.1 :: pN (n+p.no) (q :: l) x.2
def gW:(l:List RP)→uC l→List GO
 |[],_=>[]
 |[p],x=>p.Gz x
 |p :: q :: l,x=>p.Gz x.1++gW (q :: l) x.2
structure RF where
 bk:Bool
 l:List RP
def RF.val (f:RF) (n:Nat) (x:uC f.l):AV:=bif f.bk then .bk (pN n f.l x) else eB (pN n f.l x)
def RP.is:RP→AV→Bool
 |.TZ p,v=>match p with
  |.bN u=>dD v u
  |_=>true
 |.map _,v=>match v with
  |.map _=>true
  |_=>false
 |.ep _,v=>match v with
  |.ep _=>true
  |_=>false
def LJ:List RP→List AV→Bool
 |[],[]=>true
 |p :: l,v :: vs=>p.is v&&LJ l vs
 |_,_=>false
def RF.args (f:RF) (r:AV):List AV:=bif f.bk then r.UB else [r]
def RF.Bo (f:RF):AV→Bool
 |.bk _=>f.bk
 |_=>!f.bk
def Cu (G:List GO) (used:List Nat) (pe:aM) (v:AV):Option (List pe.T):=match v with
 |.map id=>match nth G id with
  |some (.map es)=>bif O3 used id then none else (bif allFit pe.fits (ab es) then some ((ab es).map pe.bA) else none)
  |_=>none
 |_=>none
def H5 (ps:aJ) (v:AV):Option ps.T:=match v with
 |.ep cs=>ps.dec cs
 |_=>none
def RP.dec (G:List GO) (used:List Nat):(p:RP)→AV→Option p.T
 |.TZ p,v=>p.dec v
 |.map pe,v=>Cu G used pe v
 |.ep ps,v=>H5 ps v
def uD (used:List Nat):AV→List Nat
 |.map id=>id :: used
 |_=>used
def uE (G:List GO):(used:List Nat)→(l:List RP)→List AV→Option (uC l)
 |_,[],vs=>match vs with
  |[]=>some ()
  |_=>none
 |u,[p],vs=>match vs with
  |[v]=>p.dec G u v
  |_=>none
 |u,p :: q :: l,vs=>match vs with
  |v :: vs=>(p.dec G u v).bind fun x=>(uE G (uD u v) (q :: l) vs).bind fun y=>some (x,y)
  |[]=>none
def RF.dec (f:RF) (G:List GO) (r:AV):Option (uC f.l):=bif f.Bo r then uE G [] f.l (f.args r) else none
def RP.under:RP→Bool
 |.TZ p=>p.under 0
 |.map pe=>pe.under 0
 |.ep ps=>ps.under 0
def RF.under (f:RF):Bool:=f.l.all RP.under&&(f.bk || aab f.l.length 1)
def XT:List RF→Type
 |[]=>Empty
 |[f]=>uC f.l
 |f :: g :: l=>uC f.l ⊕ XT (g :: l)
def LL (G:List GO) (r:AV):(l:List RF)→Option (XT l)
 |[]=>none
 |[f]=>f.dec G r
 |f :: g :: l=>bif f.Bo r&&LJ f.l (f.args r) then (f.dec G r).bind fun x=>some (.inl x) else (LL G r (g :: l)).bind fun x=>some (.inr x)
def Yd {α:Type} (G:List GO) (K:AV→List GO→α):(l:List RF)→XT l→α
 |[],o=>Empty.rec (fun _=>α) o
 |[f],o=>K (f.val G.length o) (G++gW f.l o)
 |f :: g :: l,o=>Sum.elim (fun v=>K (f.val G.length v) (G++gW f.l v)) (fun o=>Yd G K (g :: l) o) o
theorem D9 {α:Type} {G:List GO} {K:AV→List GO→α} {r:AV} {G':List GO}:∀ (l:List RF) (o:XT l),Yd G (fun r0 G0=>r=r0∧G'=G0) l o→K r G'=Yd G K l o
 |[],o,_=>nomatch o
 |[f],o,h=>by
  have h:r=f.val G.length o∧G'=G++gW f.l o:=h;rw [h.1,h.2]; rfl
 |f :: g :: l,.inl v,h=>by
  have h:r=f.val G.length v∧G'=G++gW f.l v:=h;rw [h.1,h.2]; rfl
 |f :: g :: l,.inr o,h=>D9 (g :: l) o h
def yO (E:Env) (g:FuncId) (args:List AV) (outs:List RF) (Q:XT outs→Prop):Prop:=
 ∀ G,cB E g args G (fun r G'=>∃ y,Q y∧Yd G (fun r0 G0=>r=r0∧G'=G0) outs y)
section
variable {E:Env} {R R1 R2:ak} {w:World}
theorem dA.T0 (m:Mv R R2 0):∀ {es:List (AV × AV)} {l:List AV} {ax:List MapEntry},jW (ab es) l→aC 0 l=true→dA R w es ax→dA R2 w (aG l) ax
 |[],[],[],_,_,_=>trivial
 |[],[],_ :: _,_,_,h=>h.elim
 |[],_ :: _,_,h,_,_=>h.elim
 |(_,_) :: _,[],_,h,_,_=>h.elim
 |(_,_) :: _,_ :: _,[],_,_,h=>h.elim
 |(k,v) :: es,a :: l,en :: ax,hd,hu,h=>by
  obtain ⟨d1,d2⟩:=hd;simp only [aC,aaa] at hu;have hc:=d1.cells rfl;have hl:[k,v].length=a.cells.length:=hc.length;cases a with
  |agg cs=>
   match cs,hc,hl with
   |[k',v'],hc,_=>
    have Vu:aC 0 [k',v']=true:=hu.1;simp only [aC,Bool.and_true,aaa] at Vu;exact ⟨(hc.1 _ _ _ h.1).move m Vu.1,(hc.2.1 _ _ _ h.2.1).move m Vu.2,dA.T0 m d2 hu.2 h.2.2⟩
   |[],_,hl=>simp [AV.cells] at hl
   |[_],_,hl=>simp [AV.cells] at hl
   |_ :: _ :: _ :: _,_,hl=>simp [AV.cells] at hl
  |_=>simp [AV.cells] at hl
theorem aM.yP {p:aM} (h:p.under 0=true):∀ l:List p.T,aC 0 (l.map p.enc)=true
 |[]=>rfl
 |x :: l=>by
  show ((p.enc x).under 0&&aC 0 (l.map p.enc))=true;rw [p.dG x h,aM.yP h l];rfl
def yQ (R:ak) (n:Nat) (bs:List Nat):Prop:=∀ k b,nth bs k=some b→nth R.obj (n+k)=some (.ca b)
def H6 (R:ak) (w:World) (gs:List GO) (bs:List Nat):Prop:=∀ k go b,nth gs k=some go→nth bs k=some b→gK R w go (.ca b)
theorem RP.T1 (p:RP) (x:p.T):(p.Gz x).length=p.no:=by cases p <;> rfl
theorem LM {ps:aJ} {v:AV} {y:ps.T} (h:H5 ps v=some y):∃ cs,v=.ep cs∧ps.dec cs=some y:=by
 unfold H5 at h;split at h
 ·exact ⟨_,rfl,h⟩
 ·cases h
theorem Jx {G:List GO} {used:List Nat} {pe:aM} {v:AV} {y:List pe.T} (h:Cu G used pe v=some y):∃ id es,v=.map id∧nth G id=some (.map es)∧id∉used∧jW (ab es) (y.map pe.enc):=by
 unfold Cu at h;split at h
 ·rename_i id;split at h
  ·rename_i es Kp;cases hu:O3 used id with
   |true=>rw [hu] at h; cases h
   |false=>
    rw [hu,cond_false] at h;cases hf:allFit pe.fits (ab es) with
    |false=>rw [hf] at h; cases h
    |true=>
     rw [hf,cond_true] at h;have hy:=aaZ h;refine ⟨id,es,rfl,Kp,fun hm=>?_,?_⟩
     ·rw [Cm.2 hm] at hu; cases hu
     ·rw [← hy]; exact jW.of (fun v hv=>pe.dc hv) hf
  ·cases h
 ·cases h
theorem GA {used:List Nat} {v:AV} {id:Nat} (h:id∈used):id∈uD used v:=by
 unfold uD;split
 ·exact aaR _ h
 ·exact h
def Cv (R1:ak) (w:World) (used:List Nat) (v:AV) (c:Value) (p:RP) (y:p.T):Prop:=
 ∃ bs:List Nat,bs.length=p.no∧(∀ b∈bs,∃ id,id∉used∧id∈uD used v∧nth R1.obj id=some (.ca b)) ∧
   ∀ (R2:ak) (n:Nat),(∀ b o,R1.I b o→R2.I b o)→yQ R2 n bs→Rel R2 w (p.enc n y) c∧H6 R2 w (p.Gz y) bs
theorem mvI {R1 R2:ak} (hI:∀ b o,R1.I b o→R2.I b o):Mv R1 R2 0:=⟨hI,fun _ _ h=>absurd h (Nat.not_lt_zero _)⟩
theorem RP.VA {used:List Nat} {p:aM} {v:AV} {c:Value} {y:p.T} (hp:p.under 0=true) (hv:Rel R1 w v c) (hd:p.dec v=some y):Cv R1 w used v c (.TZ p) y:=
 ⟨[],rfl,(fun b hb=>by cases hb),fun R2 n hI _=>⟨Rel.move (mvI hI) (p.dG y hp) ((p.rH hd).gY _ _ _ hv),fun k go b h=>by cases k <;> cases h⟩⟩
theorem RP.Zz {used:List Nat} {ps:aJ} {v:AV} {c:Value} {y:ps.T} (hp:ps.under 0=true) (hv:Rel R1 w v c) (hd:H5 ps v=some y):Cv R1 w used v c (.ep ps) y:=by
 obtain ⟨cs,rfl,hd⟩:=LM hd;cases hv with
 |ep hc=>
 exact ⟨[],rfl,(fun b hb=>by cases hb),fun R2 n hI _=>⟨.ep (dR.move (mvI hI) ((ps.rH hd).1.KJ hc) (ps.dG y hp)),fun k go b h=>by cases k <;> cases h⟩⟩
theorem RP.VB {G1:List GO} (hg:dB E R1 w G1) {used:List Nat} {pe:aM} {v:AV} {c:Value} {y:List pe.T} (hp:pe.under 0=true) (hv:Rel R1 w v c) (hd:Cu G1 used pe v=some y):Cv R1 w used v c (.map pe) y:=by
 obtain ⟨id,es,rfl,Kp,hu,hdl⟩:=Jx hd;cases hv with
 |map hb=>
 rename_i b;refine ⟨[b],rfl,fun b' gL=>?_,fun R2 n hI oG=>⟨.map (by have:=oG 0 b rfl; simpa using this),fun k go b' h1 h2=>?_⟩⟩
 ·rw [List.mem_singleton] at gL;subst gL;exact ⟨id,hu,aaX,hb⟩
 ·cases k with
  |succ k=>cases h2
  |zero=>
   cases h1; cases h2;obtain ⟨ax,clock,e1,e2,e3⟩:=hg.obj id _ _ Kp hb;exact ⟨ax,clock,e1,dA.T0 (mvI hI) hdl (aM.yP hp y) e2,e3⟩
theorem RP.ok {G1:List GO} (hg:dB E R1 w G1) {used:List Nat} {p:RP} {v:AV} {c:Value} {y:p.T} (hp:p.under=true) (hv:Rel R1 w v c) (hd:p.dec G1 used v=some y):Cv R1 w used v c p y:=by
 cases p with
 |TZ p=>exact RP.VA hp hv hd
 |ep ps=>exact RP.Zz hp hv hd
 |map pe=>exact RP.VB hg hp hv hd
theorem gr {α:Type} {l r:List α} {i:Nat} (h:i < l.length):nth (l++r) i=nth l i:=by
 rw [bg,bg,List.getElem?_append_left h]
theorem fC {α:Type} {l r:List α} (i:Nat):nth (l++r) (l.length+i)=nth r i:=by
 rw [bg,bg,List.getElem?_append_right (Nat.le_add_right _ _),Nat.add_sub_cancel_left]
theorem qA {α:Type} {l:List α} {i:Nat} {x:α} (h:nth l i=some x):i < l.length:=by
 rw [bg] at h;exact (List.getElem?_eq_some_iff.1 h).1
theorem RPs.ok {G1:List GO} (hg:dB E R1 w G1):∀ {l:List RP} {used:List Nat} {vs:List AV} {cs:List Value} {y:uC l},l.all RP.under=true→aK R1 w vs cs→uE G1 used l vs=some y →
  ∃ bs:List Nat,bs.length=(gW l y).length∧bs.Nodup∧(∀ b∈bs,∃ id,id∉used∧nth R1.obj id=some (.ca b)) ∧
   ∀ (R2:ak) (n:Nat),(∀ b o,R1.I b o→R2.I b o)→yQ R2 n bs→aK R2 w (pN n l y) cs∧H6 R2 w (gW l y) bs
 |[],used,vs,cs,y,_,hv,hd=>by
  cases vs with
  |cons _ _=>cases hd
  |nil=>
  cases hv;exact ⟨[],rfl,aa3,(fun b hb=>by cases hb),fun R2 n _ _=>⟨.nil,fun k go b h=>by simp [gW,nth] at h⟩⟩
 |[p],used,vs,cs,y,hu,hv,hd=>by
  match vs,hv,hd with
  |[],_,hd=>cases hd
  |_ :: _ :: _,_,hd=>cases hd
  |[v],.cons hv .nil,hd=>
  have hu:p.under=true:=by simpa using hu
  obtain ⟨bs,h1,h2,h4⟩:=RP.ok hg hu hv hd;refine ⟨bs,h1.trans (p.T1 y).symm,?_,fun b hb=>let ⟨id,q1,_,q2⟩:=h2 b hb; ⟨id,q1,q2⟩,fun R2 n hI oG=>?_⟩
  ·have:bs.length≤1:=by rw [h1]; cases p <;> simp [RP.no]
   match bs,this with
   |[],_=>exact aa3
   |[b],_=>simp
   |_ :: _ :: _,h=>simp at h
  ·obtain ⟨k1,k2⟩:=h4 R2 n hI oG;exact ⟨.cons k1 .nil,k2⟩
 |p :: q :: l,used,vs,cs,y,hu,hv,hd=>by
  match vs,hv,hd with
  |[],_,hd=>cases hd
  |v :: vs,.cons (c:=c) (cs:=cs) hv Vv,hd=>
  simp only [List.all_cons,aaa] at hu;obtain ⟨hu1,Ye⟩:=hu;have Ye:(q :: l).all RP.under=true:=by simpa using Ye
  have hd:((p.dec G1 used v).bind fun x=>(uE G1 (uD used v) (q :: l) vs).bind fun y=>some (x,y))=some y:=hd;cases hx:p.dec G1 used v with
  |none=>rw [hx] at hd; cases hd
  |some x=>
  rw [hx] at hd;simp only [Option.bind_some] at hd;cases hz:uE G1 (uD used v) (q :: l) vs with
  |none=>rw [hz] at hd; cases hd
  |some z=>
  rw [hz] at hd;simp only [Option.bind_some] at hd;cases hd;obtain ⟨bs,h1,h2,h4⟩:=RP.ok hg hu1 hv hx;obtain ⟨bs',k1,k0,k2,k4⟩:=RPs.ok hg Ye Vv hz;have Dp:bs.length=(p.Gz x).length:=h1.trans (p.T1 x).symm;refine ⟨bs++bs',?_,?_,fun b hb=>?_,fun R2 n hI oG=>?_⟩
  ·show _=(p.Gz x++gW (q :: l) z).length;rw [aaH,aaH,Dp,k1]
  ·have Ko:bs.Nodup:=by
    have:bs.length≤1:=by rw [h1]; cases p <;> simp [RP.no]
    match bs,this with
    |[],_=>exact aa3
    |[b],_=>simp
    |_ :: _ :: _,h=>simp at h
   rw [List.nodup_append];refine ⟨Ko,k0,fun a ha b hb e=>?_⟩;subst e;obtain ⟨id,_,q2,q3⟩:=h2 a ha;obtain ⟨jL,r1,r2⟩:=k2 a hb;have:id=jL:=hg.inj id jL _ _ a q3 r2 rfl rfl;subst this;exact r1 q2
  ·rcases List.mem_append.1 hb with hb|hb
   ·obtain ⟨id,q1,_,q2⟩:=h2 b hb;exact ⟨id,q1,q2⟩
   ·obtain ⟨id,q1,q2⟩:=k2 b hb;exact ⟨id,fun hm=>q1 (GA hm),q2⟩
  ·have at1:yQ R2 n bs:=fun k b hk=>oG k b (by rw [gr (qA hk)]; exact hk)
   have at2:yQ R2 (n+p.no) bs':=fun k b hk=>by
    have:=oG (bs.length+k) b (by rw [fC]; exact hk);rw [h1] at this;rw [Nat.add_assoc]; exact this
   obtain ⟨a1,a2⟩:=h4 R2 n hI at1;obtain ⟨b1,b2⟩:=k4 R2 (n+p.no) hI at2;refine ⟨.cons a1 b1,fun k go b iE hb=>?_⟩;change nth (p.Gz x++gW (q :: l) z) k=some go at iE;rcases aa5 k bs.length with hk|hk
   ·rw [gr (by rw [← Dp]; exact hk)] at iE;rw [gr hk] at hb;exact a2 k go b iE hb
   ·obtain ⟨j,rfl⟩:∃ j,k=bs.length+j:=⟨k - bs.length,by omega⟩;rw [fC] at hb;rw [Dp,fC] at iE;exact b2 j go b iE hb
theorem yR:∀ (l:List RP) (n:Nat) (y:uC l),(pN n l y).length=l.length
 |[],_,_=>rfl
 |[_],_,_=>rfl
 |p :: q :: l,n,y=>by
  show (pN (n+p.no) (q :: l) y.2).length+1=(q :: l).length+1;rw [yR (q :: l)]
theorem yO.of1 {R0:ak} {w0:World} {f:RF} {G G1:List GO} {r:AV} {c:Value} {y:uC f.l} (hf:f.under=true) (hG:dB E R0 w0 G) (st:Step ⟨R0.I,[]⟩ w0 (fun _=>0) fq R1 w (fun _=>0) fq) (hg:dB E R1 w G1) (ej:Rel R1 w r c) (hd:f.dec G1 r=some y) :
  ∃ R2,Rel R2 w (f.val G.length y) c∧dB E R2 w (G++gW f.l y)∧Step R0 w0 (fun _=>0) fq R2 w (fun _=>0) fq:=by
 unfold RF.under at hf;rw [aaa] at hf;unfold RF.dec at hd;obtain ⟨ht,hd⟩:f.Bo r=true∧uE G1 [] f.l (f.args r)=some y:=by
  cases ht:f.Bo r with
  |true=>rw [ht] at hd; exact ⟨rfl,hd⟩
  |false=>rw [ht] at hd; cases hd
 obtain ⟨cs,ql,ZA⟩:∃ cs,aK R1 w (f.args r) cs∧∀ R2 (x:uC f.l) n,aK R2 w (pN n f.l x) cs→Rel R2 w (f.val n x) c:=by
  unfold RF.args RF.val;cases adw:f.bk with
  |true=>
   have:∃ vs,r=.bk vs:=by
    cases r <;> first | exact ⟨_,rfl⟩ | (simp [RF.Bo,adw] at ht)
   obtain ⟨vs,rfl⟩:=this;cases ej with
   |bk h=>exact ⟨_,h,fun R2 x n h=>.bk h⟩
  |false=>
   refine ⟨[c],.cons ej .nil,fun R2 x n h=>?_⟩;simp only [cond_false];have hlen:=yR f.l n x;revert h hlen;generalize pN n f.l x=l;intro h hlen;cases h with
   |cons h _=>exact h
 obtain ⟨bs,h1,h2,h3,h4⟩:=RPs.ok hg hf.1 ql hd;have jx:∀ b,¬ Own (⟨R0.I,[]⟩:ak) (fun _=>0) fq b:=fun b ho=>by
  obtain ⟨id,ro,q1,_⟩:=eP ho;simp [nth] at q1
 have mO:∀ b∈bs,w0.heap.size≤b:=fun b hb=>by
  obtain ⟨id,_,hid⟩:=h3 b hb;rcases aa5 b w0.heap.size with bZ|mz
  ·exact absurd (st.own b bZ (.inl ⟨id,_,hid,rfl⟩)) (jx b)
  ·exact mz
 let R2:ak:=⟨R1.I,R0.obj++bs.map RO.ca⟩
 have e:Ext R0 w0 R2 w:=⟨st.ext.I,st.ext.cell,fun id ro h=>⟨ro,by rw [gr (qA h)]; exact h,cF.refl ro⟩,st.ext.lp⟩;have aW:∀ b,b < w0.heap.size→w.heap[b]?=w0.heap[b]?:=fun b hb=>st.aW b hb (jx b)
 have im:∀ b o,b < w0.heap.size→R1.I b o→R0.I b o:=fun b o hb hi=>st.im b o hi hb (jx b)
 have adx:∀ {k ro},nth (bs.map RO.ca) k=some ro→∃ b,nth bs k=some b∧ro=.ca b:=fun {k ro} h=>by
  rw [bg,List.getElem?_map] at h;cases hb:bs[k]? with
  |none=>rw [hb] at h; cases h
  |some b=>rw [hb] at h; exact ⟨b,by rw [bg]; exact hb,(aaZ h).symm⟩
 have oG:yQ R2 R0.obj.length bs:=fun k b hk=>by
  show nth (R0.obj++bs.map RO.ca) (R0.obj.length+k)=_;rw [fC,bg,List.getElem?_map];rw [bg] at hk;rw [hk]; rfl
 obtain ⟨k1,k2⟩:=h4 R2 R0.obj.length (fun _ _ h=>h) oG;rw [hG.len] at k1;have hold:∀ id ro,nth R2.obj id=some ro→nth R0.obj id=some ro∨∃ k b,id=R0.obj.length+k∧nth bs k=some b∧ro=.ca b:=fun id ro h=>by
  rcases aa5 id R0.obj.length with bZ|mz
  ·exact .inl (by rw [← gr (r:=bs.map RO.ca) bZ]; exact h)
  ·obtain ⟨k,rfl⟩:∃ k,id=R0.obj.length+k:=⟨id - R0.obj.length,by omega⟩;have h:nth (R0.obj++bs.map RO.ca) (R0.obj.length+k)=some ro:=h;rw [fC] at h;obtain ⟨b,q1,q2⟩:=adx h;exact .inr ⟨k,b,rfl,q1,q2⟩
 have T2:∀ id ro b,nth R0.obj id=some ro→ro.has b→b < w0.heap.size:=fun id ro b h hb=>by
  have hl:=qA h;rw [hG.len] at hl;have iE:nth G id=some G[id]:=by rw [bg]; exact List.getElem?_eq_getElem hl
  exact (hG.obj id _ _ iE h).lt hb
 have VC:∀ {k b},nth bs k=some b→b∈bs:=fun {k b} h=>by
  rw [bg] at h;exact List.mem_of_getElem? h
 refine ⟨R2,ZA R2 y _ k1,⟨?_,fun id go ro q1 q2=>?_,fun i j ri rj b q1 q2 b1 b2=>?_,hg.wf,fun g cs rJ=>(hG.ck g cs rJ).mono e,hg.lo⟩,⟨e,st.os,st.tape,st.output,st.size,fun b hb _=>aW b hb,fun b hb ho=>?_,fun b o hi hb _=>im b o hb hi⟩⟩
 ·show (R0.obj++bs.map RO.ca).length=_;rw [aaH,List.length_map,aaH,hG.len,h1]
 ·rcases hold id ro q2 with q2|⟨k,b,rfl,q3,rfl⟩
  ·have hl:=qA q2;rw [hG.len] at hl;rw [gr hl] at q1;refine (hG.obj id go ro q1 q2).mono e (fun b hb=>aW b ?_) (fun b o hb hi=>im b o ?_ hi)
   ·exact (hG.obj id go ro q1 q2).lt hb
   ·exact (hG.obj id go ro q1 q2).lt hb
  ·rw [hG.len,fC] at q1;exact k2 k go b q1 q3
 ·rcases hold i ri q1 with q1|⟨k,a,rfl,q3,rfl⟩
  ·rcases hold j rj q2 with q2|⟨k',a',rfl,q4,rfl⟩
   ·exact hG.inj i j ri rj b q1 q2 b1 b2
   ·have:b=a':=b2;subst this;have:=mO _ (VC q4);have:=T2 i ri b q1 b1;omega
  ·have hba:b=a:=b1;subst hba;rcases hold j rj q2 with q2|⟨k',a',rfl,q4,rfl⟩
   ·have:=mO _ (VC q3);have:=T2 j rj b q2 b2;omega
   ·have:b=a':=b2;subst this;have l1:=qA q3;have l2:=qA q4;rw [bg] at q3 q4;have:=(List.getElem?_inj l1 h2).1 (q3.trans q4.symm);omega
 ·rcases eP ho with ⟨id,ro,q1,q2⟩;rcases hold id ro q1 with q1|⟨k,a,rfl,q3,rfl⟩
  ·exact .inl ⟨id,ro,q1,q2⟩
  ·have:b=a:=q2;subst this;have:=mO _ (VC q3);omega
theorem H7 {G1:List GO} {r:AV}:∀ {outs:List RF} {y:XT outs},LL G1 r outs=some y→(∀ f∈outs,f.under=true) →
  ∃ (f:RF) (z:uC f.l),f.under=true∧f.dec G1 r=some z∧∀ {α:Type} (G:List GO) (K:AV→List GO→α),Yd G K outs y=K (f.val G.length z) (G++gW f.l z)
 |[],_,h,_=>by cases h
 |[f],y,h,hu=>⟨f,y,hu f (by simp),h,fun _ _=>rfl⟩
 |f :: g :: l,y,h,hu=>by
  simp only [LL] at h;cases hb:(f.Bo r&&LJ f.l (f.args r)) with
  |true=>
   rw [hb] at h;simp only [cond_true] at h;cases hx:f.dec G1 r with
   |none=>rw [hx] at h; cases h
   |some x=>
    rw [hx] at h;cases h;exact ⟨f,x,hu f (by simp),hx,fun _ _=>rfl⟩
  |false=>
   rw [hb] at h;simp only [cond_false] at h;cases hx:LL G1 r (g :: l) with
   |none=>rw [hx] at h; cases h
   |some x=>
    rw [hx] at h;cases h;obtain ⟨f',z,k0,k1,k2⟩:=H7 hx (fun f hf=>hu f (aaR _ hf));exact ⟨f',z,k0,k1,fun G K=>k2 G K⟩
theorem yO.of {g:FuncId} {args:List AV} {outs:List RF} {Q:XT outs→Prop} (hc:aC 0 args=true) (hp:∀ f∈outs,f.under=true)
  (h:cB E g args [] (fun r G'=>∃ y,LL G' r outs=some y∧Q y)):yO E g args outs Q:=fun G=>by
 refine ⟨h.1,fun R w cs hg hl=>?_⟩
 let R0:ak:=⟨R.I,[]⟩
 have m0:Mv R R0 0:=⟨fun _ _ h=>h,fun _ _ h=>absurd h (Nat.not_lt_zero _)⟩;have OV:dB E R0 w []:=⟨rfl,fun id go ro h1 _=>by simp [nth] at h1,fun i j ri rj b h1=>by simp [R0,nth] at h1,hg.wf,fun g cs rJ=>(hg.ck g cs rJ).move m0 (cA _ (E.oS g cs rJ)),hg.lo⟩;have uk:aK R0 w args cs:=hl.move m0 hc;refine (h.2 R0 w cs OV uk).mono fun e w' he=>?_
 cases e with
 |panicked c=>exact he.elim
 |outgrown=>exact he.elim
 |returned c=>
  obtain ⟨r,G',R1,⟨y,hy,hQ⟩,ej,PH,st⟩:=he;obtain ⟨f,z,hf,hz,iE⟩:=H7 hy hp;obtain ⟨R2,k1,k2,k3⟩:=yO.of1 hf hg st PH ej hz;refine ⟨_,_,R2,⟨y,hQ,?_⟩,k1,k2,k3⟩;rw [iE];exact ⟨rfl,rfl⟩
end
end Go.Am
namespace Go.Am
open Go
structure aP where
 ps:aJ
 p:aM
 T:ps.T→Option p.T
def ai (E:Env) (g:FuncId) (e:aP):Prop:=∀ x y,e.T x=some y→aR E g (e.ps.enc x) (fun r=>r=e.p.enc y)
inductive XK
 |norm
 |ret
 |ex (id:Nat)
def XK.is:XK→Exit→Bool
 |.norm,.normal=>true
 |.ret,.ret=>true
 |.ex i,.exit j=>aab i j
 |_,_=>false
def XK.exit:XK→Exit
 |.norm=>.normal
 |.ret=>.ret
 |.ex i=>.exit i
theorem XK.HZ {k:XK} {e:Exit} (h:k.is e=true):e=k.exit:=by
 cases k <;> cases e <;> simp_all [XK.is,XK.exit]
def JT:List (XK × cM)→Type
 |[]=>Empty
 |[x]=>x.2.ps.T
 |x :: y :: l=>x.2.ps.T ⊕ JT (y :: l)
def ly (s:St):(outs:List (XK × cM))→Exit→St→Option (JT outs)
 |[],_,_=>none
 |[x],e,s'=>bif x.1.is e then x.2.dec s s' else none
 |x :: y :: l,e,s'=>bif x.1.is e then (x.2.dec s s').bind fun v=>some (.inl v) else (ly s (y :: l) e s').bind fun o=>some (.inr o)
def O4 {α:Type} (s:St):(outs:List (XK × cM))→JT outs→(Exit→St→α)→α
 |[],o,_=>Empty.rec (fun _=>α) o
 |[x],o,K=>K x.1.exit (x.2.st s o)
 |x :: y :: l,o,K=>Sum.elim (fun v=>K x.1.exit (x.2.st s v)) (fun o=>O4 s (y :: l) o K) o
inductive cN
 |loop (gh:List (Loc × Nat × TypeId)) (head:cM) (outs:List (XK × cM))
 |join (outs:List (XK × cM))
 |rot (k:List Bool) (gh:List (Loc × Nat × TypeId)) (head:cM) (outs:List (XK × cM))
 |T3 (n:Nat) (a b:cN)
 |mW (gh:List (Loc × Nat × TypeId)) (head:cM) (outs:List (XK × cM))
def LN (n:Nat):cN→cN
 |.T3 m a b=>bif aab n m then LN n a else LN n b
 |c=>c
def aH {V X:Type} (rd:V→Option (V ⊕ X)):Nat→V→Option X
 |0,_=>none
 |n+1,v=>(rd v).bind fun o=>Sum.elim (fun v'=>aH rd n v') (fun x=>some x) o
def mW {V X:Type} (rd:(V→Option X)→V→Option X):Nat→V→Option X
 |0,_=>none
 |n+1,v=>rd (mW rd n) v
structure kN (E:Env) (g:FuncId) where
 f:List AV→List GO→Option (Bool × AV × List GO)
 ok:∀ args G r G',f args G=some (true,r,G')→cB E g args G (fun r' Bn=>r'=r∧Bn=G')
structure VD (E:Env) (g:FuncId) where
 ps:aJ
 outs:List RF
 T:ps.T→Option (XT outs)
 ok:∀ x y,T x=some y→yO E g (ps.enc x) outs (fun z=>z=y)
structure fj where
 D:Jr
 wP:FuncId→Option aP
 n9:FuncId→Nat→Option cN
 fz:Bool
 N:Nat
 gt:(g:FuncId)→Option (kN D.toEnv g):=fun _=>none
 xt:(g:FuncId)→Option (VD D.toEnv g):=fun _=>none
def rU {α:Type} (fz:Bool) (s:St) (K:St→α):α:=match fz with
 |true=>Gp s K
 |false=>match s with
  |⟨sl,bx,G,m,ro,n⟩=>K ⟨sl,bx,G,m,ro,n⟩
theorem c9 {α:Type} (fz:Bool) (s:St) (K:St→α):rU fz s K=K s:=by
 cases fz
 ·rfl
 ·exact Js s K
abbrev pO (X:Type):=FuncId→List AV→List GO→(AV→List GO→Option X)→Option X
abbrev mn (X:Type):=Nat→List AV→List GO→(Bool→List GO→Option X)→Option X
section ev
variable {X:Type}
def Cw (E:Env) (s:St) (o:Oper):Option (Int × Nat × (Nat→Oper)):=match o.op with
 |.index t x (.tmp y)=>match bJ E s.ae (.tmp y),E.ti t with
  |.v (.int k n),some i=>match i.k with
   |.arr len _ _=>some (n,len,fun j=>{ o with op:=.index t x (.const (.int k j)) })
   |_=>none
  |_,_=>none
 |.indexAddr t x (.tmp y)=>match bJ E s.ae (.tmp y),E.ti t with
  |.v (.int k n),some i=>match i.k with
   |.arr len _ _=>match bJ E s.ae x with
    |.v (.ep _)=>match E.Pc t with
     |some _=>none
     |none=>some (n,len,fun j=>{ o with op:=.indexAddr t x (.const (.int k j)) })
    |_=>some (n,len,fun j=>{ o with op:=.indexAddr t x (.const (.int k j)) })
   |_=>none
  |_,_=>none
 |_=>none
def wQ (E:Env) (fz:Bool) (f:FuncId) (g:Nat→Oper) (n:Int) (K:St→Option X) (s:St):Nat→Nat→Option X
 |0,_=>none
 |m+1,j=>bif decide (n=(j:Int)) then (match an E f s (g j) with
   |some (c,s')=>bif c then rU fz s' K else none
   |_=>none) else wQ E fz f g n K s m (j+1)
def VE (E:Env) (fz:Bool) (call:pO X) (lN:mn X) (f:FuncId) (o:Oper) (K:St→Option X) (s:St):Option X:=
 match o.op with
 |.call { callee:=.value x,args,.. }=>match bJ E s.ae x,nE E s.ae args.toList with
  |.v (.fn g first cap),some l=>call g (first++l++cap) s.G (fun r G'=>rU fz ((s.cD G').put o.dst (.v r)) K)
  |.v (.yield id),some l=>lN id l s.G (fun b G'=>rU fz ((s.cD G').put o.dst (.v (.bool b))) K)
  |_,_=>none
 |.defer _=>none
 |.next x true=>match LF s o.dst (bJ E s.ae x) with
  |some (b,s1,s2)=>bif b then rU fz s1 K else rU fz s2 K
  |none=>none
 |.lookup t m k ok=>match wL E s t (bJ E s.ae m) (bJ E s.ae k) with
  |some (c,v,b)=>bif c then rU fz (s.put o.dst (.v (if ok then .bk [v,.bool b] else v))) K else none
  |none=>match an E f s o with
   |some (c,s')=>bif c then rU fz s' K else none
   |_=>none
 |.mapUpdate t m k x=>match o.dst,wM E s t (bJ E s.ae m) (bJ E s.ae k) (bJ E s.ae x) with
  |none,some (c,s')=>bif c then rU fz s' K else none
  |_,_=>none
 |.insert t m k x=>match o.dst,wM E s t (bJ E s.ae m) (bJ E s.ae k) (bJ E s.ae x) with
  |none,some (c,s')=>bif c then rU fz s' K else none
  |_,_=>none
 |.call { callee:=.builtin .append,args,argTypes }=>match ij E f s o with
  |some (c,s')=>bif c then rU fz s' K else none
  |none=>match nE E s.ae args.toList with
   |some l=>match Cr E s o.dst l argTypes.toList with
    |some (b,s1,c,s2)=>bif b then rU fz s1 K else bif c then rU fz s2 K else none
    |none=>match an E f s o with
     |some (c,s')=>bif c then rU fz s' K else none
     |_=>none
   |none=>none
 |.call { callee:=.builtin .copy,args,argTypes }=>match nE E s.ae args.toList with
  |some l=>match LH E s o.dst l argTypes.toList with
   |some (c,s')=>bif c then rU fz s' K else none
   |none=>match an E f s o with
    |some (c,s')=>bif c then rU fz s' K else none
    |_=>none
  |none=>none
 |_=>match Cw E s o with
  |some (n,len,g)=>wQ E fz f g n K s len 0
  |none=>match an E f s o with
   |some (c,s')=>bif c then rU fz s' K else none
   |_=>none
def pP (E:Env) (fz:Bool) (call:pO X) (lN:mn X) (f:FuncId) (ops:List Oper) (o:Oper) (K:St→Option X) (s:St):Option X:=
 match o.guard with
 |none=>VE E fz call lN f o K s
 |some (j,want)=>match pz ops j with
  |none=>none
  |some d=>match lk s.ae d with
   |.v (.bool b)=>match want with
    |true=>bif b then rU fz (s.put (some d) (.v (.bool true))) (VE E fz call lN f o K) else rU fz ((s.put (some d) (.v (.bool false))).put o.dst (.v fO)) K
    |false=>bif b then rU fz ((s.put (some d) (.v (.bool true))).put o.dst (.v fO)) K else rU fz (s.put (some d) (.v (.bool false))) (VE E fz call lN f o K)
   |.v (.bk [])=>rU fz (s.put o.dst (.v fO)) K
   |_=>none
def Cx (E:Env) (fz:Bool) (call:pO X) (lN:mn X) (f:FuncId) (ops:List Oper) (o:Oper) (K:St→Option X) (s:St):Option X:=
 match o.guard,jr E f s o with
 |none,some s'=>rU fz s' K
 |_,_=>pP E fz call lN f ops o K s
noncomputable def PJ {X:Type} (l:List Nat) (F:Nat→Option X):Option X:=match l with
 |[]=>none
 |i :: r=>@ite _ (∀ j∈r,F j=F i) (aaB _) (F i) none
theorem Jy {X:Type} {l:List Nat} {F:Nat→Option X} {x:X} (h:PJ l F=some x):∀ i∈l,F i=some x:=by
 cases l with
 |nil=>cases h
 |cons i r=>
  have h:@ite _ (∀ j∈r,F j=F i) (aaB _) (F i) none=some x:=h;by_cases hr:∀ j∈r,F j=F i
  ·rw [if_pos hr] at h;intro j hj;rcases List.mem_cons.1 hj with rfl|hj
   ·exact h
   ·rw [hr j hj]; exact h
  ·rw [if_neg hr] at h;cases h
theorem PK {X:Type} {l:List Nat} {F:Nat→Option X} {x:X} (hl:l≠[]) (h:∀ i∈l,F i=some x):PJ l F=some x:=by
 cases l with
 |nil=>exact absurd rfl hl
 |cons i r=>
  show @ite _ (∀ j∈r,F j=F i) (aaB _) (F i) none=some x;have hr:∀ j∈r,F j=F i:=fun j hj=>by rw [h j (aaR _ hj),h i aaX]
  rw [if_pos hr];exact h i aaX
noncomputable def wR (E:Env) (fz:Bool) (call:pO X) (lN:mn X) (f:FuncId) (ops:List Oper) (o:Oper) (K:St→Option X) (s:St):Option X:=
 match o.guard,vd E f s o,ua E s o with
 |none,some (c,s'),_=>bif c then rU fz s' K else none
 |none,none,some (c,s0,left,g)=>bif c then (bif left.isEmpty then rU fz s0 K else PJ left fun i=>bif (g i).1 then rU fz (g i).2 K else none) else none
 |_,_,_=>Cx E fz call lN f ops o K s
noncomputable def Cy (E:Env) (fz:Bool) (call:pO X) (lN:mn X) (f:FuncId) (ops:List Oper) (o:Oper) (K:St→Option X) (s:St):Option X:=
 match IS E f s o with
 |some (c,s')=>bif c then wR E fz call lN f ops o K s' else none
 |none=>wR E fz call lN f ops o K s
noncomputable def PL (E:Env) (fz:Bool) (call:pO X) (lN:mn X) (f:FuncId) (ops:List Oper):List Oper→(St→Option X)→St→Option X
 |[],K,s=>K s
 |o :: rest,K,s=>Cy E fz call lN f ops o (fun s'=>match Bb E f o s' with
  |some s2=>PL E fz call lN f ops rest K s2
  |none=>none) s
def VF (E:Env) (f:FuncId) (ops:List Oper) (o:Oper) (s:St):Bool:=match o.op,o.dst with
 |.lookup t m k ok,some d=>match C4 ops s o,wL E s t (bJ E s.ae m) (bJ E s.ae k) with
  |some true,some (c,v,b)=>c&&Cj (.v (if ok then .bk [v,.bool b] else v)) (lk s.ae d)
  |_,_=>bRe E f ops o s
 |_,_=>bRe E f ops o s
def qB (E:Env) (f:FuncId) (ops:List Oper):List Nat→St→Bool
 |[],_=>true
 |k :: l,s=>(match nth ops k with
  |some ok=>VF E f ops ok s
  |none=>true)&&qB E f ops l s
def oT (E:Env) (fz:Bool) (call:pO X) (lN:mn X) (fg:Option X→Option X→Option X) (f:FuncId) (ops:List Oper):DT→(St→Option X)→St→Option X
 |.done,K,s=>K s
 |.take j _ t,K,s=>match nth ops j with
  |some oj=>pP E fz call lN f ops oj (oT E fz call lN fg f ops t K) s
  |none=>none
 |.br i re _ t .stop,K,s=>match nth ops i with
  |some oi=>pP E fz call lN f ops oi (fun s'=>bif qB E f ops re s' then oT E fz call lN fg f ops t K s' else none) s
  |none=>none
 |.br i re _ t more,K,s=>fg (match nth ops i with
  |some oi=>pP E fz call lN f ops oi (fun s'=>bif qB E f ops re s' then oT E fz call lN fg f ops t K s' else none) s
  |none=>none) (oT E fz call lN fg f ops more K s)
 |.stop,_,_=>none
 |.al j W t,K,s=>match nth ops j with
  |some oj=>bif Vm E f oj W s then pP E fz call lN f ops oj (oT E fz call lN fg f ops t K) s else none
  |none=>none
end ev
def Bp {X:Type} (N:St→Option X) (Q:Exit→St→Option X):Exit→St→Option X
 |.normal,s=>N s
 |e,s=>Q e s
def LO {X:Type} (id:Nat) (Q:Exit→St→Option X):Exit→St→Option X
 |.exit jL,s=>bif aab jL id then Q .normal s else Q (.exit jL) s
 |e,s=>Q e s
def VG {X:Type} (Q:Exit→St→Option X):Exit→St→Option X
 |.goto _,_=>none
 |e,s=>Q e s
def LP {X:Type} (E:Env) (fn:Func) (K:AV→List GO→Option X):Exit→St→Option X
 |.normal,s | .ret,s=>match pC s.marks s.G with
  |some G=>match Li E (s.cD G) fn with
   |some r=>K r G
   |none=>none
  |none=>none
 |_,_=>none
def vE (s:St) (head:cM) (outs:List (XK × cM)):Exit→St→Option (head.ps.T ⊕ JT outs)
 |.normal,s'=>(head.dec s s').bind fun v=>some (.inl v)
 |e,s'=>(ly s outs e s').bind fun o=>some (.inr o)
noncomputable def C5 {X:Type} (a b:Option X):Option X:=@ite _ (a=b) (aaB _) a none
def vF {X:Type} (fg:Option X→Option X→Option X):Prop:=∀ a b x,fg a b=some x→a=some x∧b=some x
def GB {X:Type} (id:Nat) (K:Bool→List GO→Option X):Exit→St→Option X:=fun e s=>match nth s.G id with
 |some (.loop _ _ fn sl n ps s5 bd d _)=>match e with
  |.normal=>K true (aF s.G id (.loop false none fn sl n ps s5 bd d false))
  |.ret=>K false (aF s.G id (.loop false (some .ret) fn sl n ps s5 bd d true))
  |.exit i=>K false (aF s.G id (.loop false (some (.exit i)) fn sl n ps s5 bd d true))
  |_=>none
 |_=>none
def fpF (fp:Nat):Nat:=fp % 4096
def fpP (fp:Nat):Nat:=fp / 4096
abbrev Yf:=FuncId→Nat→Code→(X:Type)→(Option X→Option X→Option X)→(Exit→St→Option X)→St→Option X
section
variable (C:fj) (ih:Yf)
def Ea {X:Type} (fg:Option X→Option X→Option X):pO X:=fun g args G K=>
 bif C.D.okF g then match C.D.P.funcs[g]? with
   |some fn=>match fn.body with
    | some b => bif !(fn.name == "runtime.NumGoroutine") then ih g 1 b X fg (LP C.D.toEnv fn (bif C.D.BQ g 131072 then Vz C.D.toEnv (C.D.BQ g 131073) (C.D.BQ g 131074) fn.resultTypes.toList K else K)) (St.init fn.ntmps args G) else none
    |none=>none
   |none=>none
  else none
def Eb {X:Type} (fg:Option X→Option X→Option X):pO X:=fun g args G K=>
 match C.wP g with
 |some e=>(e.ps.dec args).bind fun x=>(e.T x).bind fun y=>K (e.p.enc y) G
 |none=>match C.gt g with
  |some e=>match e.f args G with
   |some (c,r,G')=>bif c then K r G' else none
   |none=>none
  |none=>match C.xt g with
   |some e=>(e.ps.dec args).bind fun x=>(e.T x).bind fun o=>Yd G K e.outs o
   |none=>Ea C ih fg g args G K
def PM (n:Nat):List Tmp→Bool
 |[]=>true
 |t :: l=>Nat.blt t n&&PM n l
def PN {X:Type} (fg:Option X→Option X→Option X):mn X:=fun id args G K=>match nth G id with
 |some (.loop false _ fp sl n ps s5 bd _ false)=>
  bif aab args.length ps.length&&PM n ps&&bG (C.D.dt (fpF fp)) s5&&bG (C.D.dt (fpF fp)) bd then
   ih (fpF fp) (2 * fpP fp) s5 X fg (fun e s1=>match e with
    |.normal=>match nth s1.G id with
     |some (.loop false p fn sl n ps s5 Yb d false)=>ih (fpF fp) (2 * fpP fp+1) bd X fg (GB id K) (s1.cD (aF s1.G id (.loop true p fn sl n ps s5 Yb d false)))
     |_=>none
    |_=>none) (St.round id (yJ ps args sl) n G)
  else none
 |_=>none
noncomputable def yS (f:FuncId) (p:Nat) (c:Code) (X:Type) (fg:Option X→Option X→Option X) (K:Exit→St→Option X) (s:St):Option X:=
 match c with
 |.skip=>K .normal s
 |.label _=>K .normal s
 |.seq x y=>ih f (2 * p) x X fg (Bp (ih f (2 * p+1) y X fg K) K) s
 |.cond c x y=>match bJ C.D.toEnv s.ae c with
  |.v (.bool b)=>bif b then ih f (2 * p) x X fg K s else ih f (2 * p+1) y X fg K s
  |_=>none
 |.block id c=>ih f (2 * p) c X fg (LO id K) s
 |.exit id=>K (.exit id) s
 |.ret=>K .ret s
 |.region _ ops false=>PL C.D.toEnv C.fz (Eb C ih fg) (PN C ih fg) f ops.toList ops.toList (K .normal) s
 |.region id ops true=>match C.D.dt f id with
  |some pl=>oT C.D.toEnv C.fz (Eb C ih fg) (PN C ih fg) fg f ops.toList pl.T (K .normal) s
  |none=>none
 |.scope c=>ih f (2 * p) c X fg (VG K) s
 |.loop c=>ih f (2 * p) c X fg (Bp (ih f p (.loop c) X fg K) K) s
 |.rangeFunc g ps s5 bd=>match s.ro with
  |none=>match bJ C.D.toEnv s.ae g with
   |.v (.fn h first cap)=>Eb C ih fg h (first++[.yield (s.G.length+1)]++cap) (s.G++[.defers true]++[.loop false none (4096 * p+f) (ib s.ae) s.n ps.toList s5 bd s.G.length false])
    (fun _ G'=>match nth G' (s.G.length+1) with
     |some (.loop busy pending _ _ _ _ _ _ _ done)=>bif !busy || done then
       match pending with
       |none=>rU C.fz ⟨s.ae,s.boxes,aF G' (s.G.length+1) .dead,s.G.length :: s.marks,s.ro,s.n⟩ (K .normal)
       |some .ret=>rU C.fz ⟨s.ae,s.boxes,aF G' (s.G.length+1) .dead,s.G.length :: s.marks,s.ro,s.n⟩ (K .ret)
       |some (.exit i)=>rU C.fz ⟨s.ae,s.boxes,aF G' (s.G.length+1) .dead,s.G.length :: s.marks,s.ro,s.n⟩ (K (.exit i))
       |_=>none
      else none
     |_=>none)
   |_=>none
  |some _=>none
 |_=>none
def GC:List Oper→List Tmp
 |[]=>[]
 |o :: l=>match o.dst with
  |some d=>d :: GC l
  |none=>GC l
def kO:Code→List Tmp→List Tmp
 |.region _ ops _,r=>GC ops.toList++r
 |.seq x y,r=>kO x (kO y r)
 |.cond _ x y,r=>kO x (kO y r)
 |.block _ c,r=>kO c r
 |.scope c,r=>kO c r
 |.loop c,r=>kO c r
 |.rangeFunc _ ps a b,r=>ps.toList++kO a (kO b r)
 |_,r=>r
def yT (W:List Tmp) (t:cM):cM:=⟨t.ps,t.sl,W,t.bx,t.g,t.X9⟩
def to (W:List Tmp):List (XK × cM)→List (XK × cM)
 |[]=>[]
 |(k,t) :: l=>(k,yT W t) :: to W l
def LQ:Code→Bool
 |.loop _=>true
 |_=>false
noncomputable def ZB {X:Type} (f:FuncId) (p:Nat) (c:Code) (outs:List (XK × cM)) (K:Exit→St→Option X) (s:St):Option X:=
 (yS C ih f p c (JT outs) C5 (ly s outs) s).bind fun o=>O4 s outs o K
noncomputable def T4 {X:Type} (f:FuncId) (p:Nat) (b:Code) (s1:St) (head:cM) (outs:List (XK × cM)) (K:Exit→St→Option X):Option X:=
 (head.dec s1 s1).bind fun v0=>(aH (fun v=>ih f (2 * p) b (head.ps.T ⊕ JT outs) C5 (vE s1 head outs) (head.st s1 v)) C.N v0).bind fun o=>O4 s1 outs o K
def LR (s:St) (head:cM) (outs:List (XK × cM)) (k:head.ps.T→Option (JT outs)):Exit→St→Option (JT outs)
 |.normal,s'=>(head.dec s s').bind k
 |e,s'=>ly s outs e s'
noncomputable def LS {X:Type} (f:FuncId) (p:Nat) (b:Code) (s1:St) (head:cM) (outs:List (XK × cM)) (K:Exit→St→Option X):Option X:=
 (head.dec s1 s1).bind fun v0=>(mW (fun k v=>ih f (2 * p) b (JT outs) C5 (LR s1 head outs k) (head.st s1 v)) C.N v0).bind fun o=>O4 s1 outs o K
def LU {X:Type} (fg:Option X→Option X→Option X) (f:FuncId) (K:Exit→St→Option X):List Bool→Nat→Code→St→Option X
 |[],_,_,s=>K .normal s
 |true :: k,q,.seq x y,s=>ih f (2 * q) x X fg (Bp (LU fg f K k (2 * q+1) y) K) s
 |false :: k,q,.seq x _,s=>LU fg f K k (2 * q) x s
 |_ :: _,_,_,_=>none
def PO {X:Type} (fg:Option X→Option X→Option X) (f:FuncId):List Bool→Nat→Code→(Exit→St→Option X)→St→Option X
 |[],q,c,K,s=>ih f q c X fg K s
 |true :: k,q,.seq _ y,K,s=>PO fg f k (2 * q+1) y K s
 |false :: k,q,.seq x y,K,s=>PO fg f k (2 * q) x (Bp (ih f (2 * q+1) y X fg K) K) s
 |_ :: _,_,_,_,_=>none
noncomputable def ZC {X:Type} (f:FuncId) (p:Nat) (b:Code) (k:List Bool) (s1:St) (head:cM) (outs:List (XK × cM)) (K:Exit→St→Option X):Option X:=
 ((LU ih C5 f (vE s1 head outs) k (2 * p) b s1).bind fun r0=>
  Sum.elim (fun v0=>aH (fun v=>PO ih C5 f k (2 * p) b (Bp (LU ih C5 f (vE s1 head outs) k (2 * p) b) (vE s1 head outs)) (head.st s1 v)) C.N v0) (fun x=>some x) r0).bind fun o=>O4 s1 outs o K
noncomputable def yU (f:FuncId) (p:Nat) (c:Code) (X:Type) (fg:Option X→Option X→Option X) (K:Exit→St→Option X) (s:St):Option X:=
 match C.n9 f p with
 |none=>yS C ih f p c X fg K s
 |some ct=>match LN s.G.length ct with
  |.join outs=>bif LQ c then none else ZB C ih f p c (to (kO c []) outs) K s
  |.loop gh head outs=>match c with
   |.loop b=>match ia gh s with
    |some s1=>T4 C ih f p b s1 (yT (kO b []) head) (to (kO b []) outs) K
    |none=>none
   |_=>none
  |.rot k gh head outs=>match c with
   |.loop b=>match ia gh s with
    |some s1=>ZC C ih f p b k s1 (yT (kO b []) head) (to (kO b []) outs) K
    |none=>none
   |_=>none
  |.mW gh head outs=>match c with
   |.loop b=>match ia gh s with
    |some s1=>LS C ih f p b s1 (yT (kO b []) head) (to (kO b []) outs) K
    |none=>none
   |_=>none
  |.T3 _ _ _=>none
end
noncomputable def ev (C:fj):Nat→Yf:=Nat.rec (fun _ _ _ _ _ _ _=>none) (fun _ ih=>yU C ih)
end Go.Am
namespace Go.Am
open Go
section ext
variable {E:Env} {f:FuncId} {s s':St} {o:Oper}
theorem aX.put (s:St) (d:Option Tmp) (x:SV):aX s (s.put d x):=by
 cases d with
 |none=>exact aX.refl s
 |some d=>
  simp only [St.put];split
  ·exact ⟨⟨[_],rfl⟩,⟨[],rfl⟩,rfl⟩
  ·exact aX.refl s
theorem aX.cD (s:St) (G:List GO):aX s (s.cD G):=⟨⟨[],rfl⟩,⟨[],rfl⟩,rfl⟩
theorem aX.dQ (s:St) (o:GO):aX s (s.dQ o):=⟨⟨[],rfl⟩,⟨[],rfl⟩,rfl⟩
theorem aX.vV (s:St) (d:Nat) (cs:List AV):aX s (s.vV d cs):=⟨⟨[],rfl⟩,⟨[_],rfl⟩,rfl⟩
theorem aX.kill (s:St) (d:Nat):aX s (s.kill d):=⟨⟨[_],rfl⟩,⟨[],rfl⟩,rfl⟩
theorem Jz {c:Bool} {s':St} (h:ij E f s o=some (c,s')):aX s s':=by
 unfold ij at h;cases h
theorem GD {c:Bool} (h:an E f s o=some (c,s')):aX s s':=by
 have alloc:∀ {el:TypeId} {cs:List AV} {c:Bool} {s':St},fb E f s o.dst el cs=some (c,s')→aX s s':=by
  intro el cs c s' h;unfold fb at h
  repeat' (split at h)
  all_goals (first|(cases h; done) | skip)
  ·injection h with h; injection h with _ h; subst h; exact (aX.dQ _ _).trans (aX.put _ _ _)
  ·injection h with h; injection h with _ h; subst h; exact ((aX.kill _ _).trans (aX.vV _ _ _)).trans (aX.put _ _ _)
 have store:∀ {t:TypeId} {p x:SV} {s':St},jN E s t p x=some s'→aX s s':=by
  intro t p x s' h;unfold jN at h
  repeat' (split at h)
  all_goals (first|(cases h; done) | skip)
  all_goals (injection h with h; subst h)
  ·exact aX.vV _ _ _
  ·exact aX.cD _ _
 have F1:∀ {t:TypeId} {p x:SV} {c:Bool} {s':St},jO E s t p x=some (c,s')→aX s s':=by
  intro t p x c s' h;unfold jO at h
  repeat' (split at h)
  all_goals (first|(cases h; done) | skip)
  all_goals (injection h with h; injection h with _ h; subst h)
  all_goals (first|exact aX.cD _ _ | exact store (by assumption))
 have blt:∀ {b:Builtin} {l:List AV} {tys:List TypeId} {c:Bool} {s':St},bT E s o.dst b l tys=some (c,s')→aX s s':=by
  intro b l tys c s' h;unfold bT at h
  repeat' (split at h)
  all_goals (first|(cases h; done) | skip)
  all_goals (injection h with h; injection h with _ h; subst h)
  all_goals (first|exact aX.put _ _ _ | exact (aX.cD _ _).trans (aX.put _ _ _) | exact aX.cD _ _)
 have update:∀ {t:TypeId} {m k x:SV} {s':St},fc E s t m k x=some s'→aX s s':=by
  intro t m k x s' h;unfold fc at h
  repeat' (split at h)
  all_goals (first|(cases h; done) | skip)
  all_goals (injection h with h; subst h; exact aX.cD _ _)
 have next:∀ {x:SV} {s':St},lF s o.dst x=some s'→aX s s':=by
  intro x s' h;unfold lF at h;split at h
  ·split at h
   ·rename_i l pos hg;cases hb:Nat.blt pos l.length <;> rw [hb] at h <;> simp only [cond_true,cond_false] at h <;> cases h
    ·exact aX.put _ _ _
    ·exact (aX.cD _ _).trans (aX.put _ _ _)
   ·cases h
  ·cases h
 have F2:∀ {t:TypeId} {m k:SV} {c:Bool} {v:AV} {s':St},gk E s t m k=some (c,v,s')→aX s s':=by
  intro t m k c v s' h;unfold gk at h
  repeat' (split at h)
  all_goals (first|(cases h; done) | skip)
  all_goals (injection h with h; injection h with _ h; injection h with _ h; subst h; exact aX.cD _ _)
 have F4:∀ {m st x:SV} {c:Bool} {s':St},eC s m st x=some (c,s')→aX s s':=by
  intro m st x c s' h;unfold eC at h
  repeat' (split at h)
  all_goals (first|(cases h; done) | skip)
  all_goals (injection h with h; injection h with _ h; subst h; exact aX.cD _ _)
 unfold an at h
 repeat' (split at h)
 all_goals (first|(cases h; done) | exact alloc h | exact blt h | (rename_i hf; cases h; exact Jz hf) | skip)
 all_goals (injection h with h; injection h with _ h; subst h)
 all_goals (first|exact aX.put _ _ _ | exact (aX.dQ _ _).trans (aX.put _ _ _) | skip)
 all_goals (first|exact F1 (by assumption) | exact update (by assumption) | exact (F2 (by assumption)).trans (aX.put _ _ _) | exact F4 (by assumption) | exact next (by assumption))
theorem cB.gY {g:FuncId} {args T6:List AV} {G:List GO} {Q:AV→List GO→Prop} (hw:cP args T6) (h:cB E g T6 G Q):cB E g args G Q:=
 ⟨h.1,fun R w cs hg hl=>h.2 R w cs hg (hw.rel hl)⟩
theorem Ec {K:St→Prop} (h:j8 E f o K s):j8 E f o (fun s'=>K s'∧aX s s') s:=by
 unfold j8 at *;split
 ·rename_i x args tys ho;rw [ho] at h;simp only at h;split at h
  ·exact h.mono fun r G' hk=>⟨hk,(aX.cD _ _).trans (aX.put _ _ _)⟩
  ·exact h.mono fun r G' hk=>⟨hk,(aX.cD _ _).trans (aX.put _ _ _)⟩
  ·exact h
 ·rename_i ho;rw [ho] at h;exact h
 ·rename_i nc nd;split at h
  ·rename_i ho;exact absurd ho (nc _ _ _)
  ·exact h.elim
  ·split at h
   ·rename_i c s' hs;obtain ⟨hc,hk⟩:=h.out;exact dE.mk hc ⟨hk,GD hs⟩
   ·exact h.elim
theorem lO {K:St→Prop} {ops:List Oper} (h:cn E f ops o K s):cn E f ops o (fun s'=>K s'∧aX s s') s:=by
 unfold cn at *;split
 ·rename_i hg;rw [hg] at h;exact Ec h
 ·rename_i j want hg;rw [hg] at h;simp only at h;split
  ·rename_i hd;rw [hd] at h;exact h
  ·rename_i d hd;rw [hd] at h;simp only at h;split
   ·rename_i b hb;rw [hb] at h;simp only at h;refine ⟨fun e=>?_,fun e=>⟨h.2 e,(aX.put _ _ _).trans (aX.put _ _ _)⟩⟩;exact uy (Ec (h.1 e)) fun s' hh=>⟨hh.1,(aX.put _ _ _).trans hh.2⟩
   ·rename_i hb;rw [hb] at h;exact ⟨h,aX.put _ _ _⟩
   ·rename_i hb gL;split at h
    ·rename_i b Ks;exact absurd Ks (hb b)
    ·rename_i Ks;exact absurd Ks gL
    ·exact h
theorem AE {K K':St→Prop} {ops:List Oper} (h:fV E f ops o K s) (hK:∀ s,K s→K' s):fV E f ops o K' s:=by
 unfold fV at *;split
 ·rename_i s' h1 h2;rw [h1,h2] at h;exact hK _ h
 ·rename_i hn;split at h
  ·rename_i s' h1 h2;exact absurd h2 (hn s' h1)
  ·exact cp h hK
theorem wu {s':St} (h:jr E f s o=some s'):aX s s':=by
 unfold jr at h
 repeat' (split at h)
 all_goals (first|(cases h; done) | skip)
 all_goals (injection h with h; subst h; exact (aX.dQ _ _).trans (aX.put _ _ _))
theorem Cz {K:St→Prop} {ops:List Oper} (h:fV E f ops o K s):fV E f ops o (fun s'=>K s'∧aX s s') s:=by
 unfold fV at *;split
 ·rename_i s' h1 h2;rw [h1,h2] at h;exact ⟨h,wu h2⟩
 ·rename_i hn;split at h
  ·rename_i s' h1 h2;exact absurd h2 (hn s' h1)
  ·exact lO h
theorem mo {K K':St→Prop} {ops:List Oper} (h:ft E f ops o K s) (hK:∀ s,K s→K' s):ft E f ops o K' s:=by
 unfold ft at *;split at h
 ·obtain ⟨h1,h2⟩:=h.out;exact dE.mk h1 (hK _ h2)
 ·obtain ⟨h1,h2,h3⟩:=h.out;exact dE.mk h1 ⟨fun e=>hK _ (h2 e),fun i hi=>let ⟨k1,k2⟩:=(h3 i hi).out; dE.mk k1 (hK _ k2)⟩
 ·exact AE h hK
theorem JA {c:Bool} {s':St} (h:vd E f s o=some (c,s')):aX s s':=by
 unfold vd at h;cases h
theorem GF {c:Bool} {s0:St} {left:List Nat} {g:Nat→Bool × St} (h:ua E s o=some (c,s0,left,g)):aX s s0∧∀ i,aX s (g i).2:=by
 unfold ua at h;split at h
 ·unfold AS at h;split at h
  ·split at h
   ·split at h
    ·cases h;exact ⟨aX.put _ _ _,fun i=>(aX.cD _ _).trans (aX.put _ _ _)⟩
    ·cases h
   ·cases h
  ·cases h
 ·cases h
theorem tq {K:St→Prop} {ops:List Oper} (h:ft E f ops o K s):ft E f ops o (fun s'=>K s'∧aX s s') s:=by
 unfold ft at *;split at h
 ·rename_i hb;obtain ⟨h1,h2⟩:=h.out;exact dE.mk h1 ⟨h2,JA hb⟩
 ·rename_i hb;obtain ⟨h1,h2,h3⟩:=h.out;obtain ⟨k1,k2⟩:=GF hb;exact dE.mk h1 ⟨fun e=>⟨h2 e,k1⟩,fun i hi=>let ⟨q1,q2⟩:=(h3 i hi).out; dE.mk q1 ⟨q2,k2 i⟩⟩
 ·exact Cz h
theorem mq {K K':St→Prop} {ops:List Oper} (h:fu E f ops o K s) (hK:∀ s,K s→K' s):fu E f ops o K' s:=by
 unfold fu at *;split at h
 ·exact ⟨h.1,mo h.2 hK⟩
 ·exact mo h hK
theorem iz {cut wk:Bool}:∀ {l:List Operand} {s s':St} {c:Bool},gR cut wk l s=(c,s')→aX s s'
 |[],s,s',c,h=>by
  simp only [gR] at h;cases h;exact aX.refl _
 |.tmp t :: l,s,s',c,h=>by
  unfold gR at h;split at h
  ·rename_i c1 s1 h1;cases h2:gR cut wk l s1 with
   |mk c2 s2=>
   rw [h2] at h;simp only [aa4] at h;obtain ⟨_,rfl⟩:=h;exact (px h1).trans (iz h2)
  ·exact iz h
 |.const _ :: l,s,s',c,h=>iz (l:=l) h
 |.global _ :: l,s,s',c,h=>iz (l:=l) h
 |.func _ :: l,s,s',c,h=>iz (l:=l) h
theorem LV {s s':St} {o:Oper} {c:Bool} (h:IS E f s o=some (c,s')):aX s s':=by
 unfold IS at h;split at h
 ·split at h
  ·injection h with h;exact iz h
  ·cases h
 ·cases h
theorem CA {K:St→Prop} {ops:List Oper} (h:fu E f ops o K s):fu E f ops o (fun s'=>K s'∧aX s s') s:=by
 unfold fu at *;split at h
 ·rename_i c s' hz;exact ⟨h.1,mo (tq h.2) fun s2 h2=>⟨h2.1,(LV hz).trans h2.2⟩⟩
 ·exact tq h
theorem yV {s s':St} {l:Loc} {sz:Nat} {e:TypeId} (h:pu s l sz e=some s'):aX s s':=by
 unfold pu at h;cases FZ:aax 196608 sz with
 |true=>rw [FZ] at h; cases h; exact aX.dQ _ _
 |false=>
 rw [FZ] at h;cases l with
 |slot t=>
  simp only at h;split at h
  ·cases h; exact ⟨⟨[_],rfl⟩,⟨[],rfl⟩,rfl⟩
  ·cases h
 |box k i=>
  simp only at h;split at h
  ·split at h
   ·cases h; exact ⟨⟨[],rfl⟩,⟨[_],rfl⟩,rfl⟩
   ·cases h
  ·cases h
 |row id i=>
  simp only at h;split at h
  ·split at h
   ·cases h; exact ⟨⟨[],rfl⟩,⟨[],rfl⟩,rfl⟩
   ·cases h
  ·cases h
theorem oa:∀ {l:List (Loc × Nat × TypeId)} {s s':St},ia l s=some s'→aX s s'
 |[],s,s',h=>by
  simp only [ia] at h;cases h;exact aX.refl _
 |(l,sz,e) :: r,s,s',h=>by
  unfold ia at h;split at h
  ·rename_i s1 h1;exact (yV h1).trans (oa h)
  ·cases h
theorem pQ:∀ {l:List (Loc × Nat × TypeId)} {s:St},aX s (jn l s)
 |[],s=>aX.refl _
 |(l,sz,e) :: r,s=>by
  unfold jn;split
  ·rename_i s1 h1;exact (yV h1).trans pQ
  ·exact pQ
theorem JB {s s':St} {o:Oper} (h:Bb E f o s=some s'):aX s s':=by
 unfold Bb at h;split at h
 ·cases h; exact aX.refl _
 ·split at h
  ·split at h
   ·rename_i hz;cases h;exact px hz
   ·cases h
  ·split at h
   ·cases h; exact aX.refl _
   ·split at h
    ·cases h; exact pQ
    ·cases h
theorem yW {K K':St→Prop} {ops:List Oper} (hK:∀ s,K s→K' s):∀ {l:List Oper} {s:St},pA E f ops l K s→pA E f ops l K' s
 |[],s,h=>hK s h
 |_ :: _,_,h=>mq h fun s' h'=>by
  unfold Bd at *;split at h'
  ·exact yW hK h'
  ·exact h'.elim
theorem yX {K K':St→Prop} {ops:List Oper} (hK:∀ s,K s→K' s) {T:DT} {s:St} (h:tU E f ops T K s):tU E f ops T K' s:=
 fA (ops:=⟨ops⟩) hK T s h
theorem Bq {K:St→Prop} {ops:List Oper}:∀ {l:List Oper} {s:St},pA E f ops l K s→pA E f ops l (fun s'=>K s'∧aX s s') s
 |[],s,h=>⟨h,aX.refl s⟩
 |o :: l,s,h=>by
  simp only [pA] at *;refine mq (CA h) fun s' hh=>?_
  obtain ⟨h1,h2⟩:=hh;unfold Bd at *;split at h1
  ·rename_i s2 hp;exact yW (fun s3 h3=>⟨h3.1,(h2.trans (JB hp)).trans h3.2⟩) (Bq h1)
  ·exact h1.elim
theorem tu {K:St→Prop} {ops:List Oper}:∀ {T:DT} {s:St},tU E f ops T K s→tU E f ops T (fun s'=>K s'∧aX s s') s
 |.done,s,h=>⟨h,aX.refl s⟩
 |.stop,_,_=>trivial
 |.take j C T,s,h=>by
  unfold tU at h ⊢;split
  ·rename_i oj hj;rw [hj] at h;exact cp (lO h) fun s' hh=>yX (fun s2 h2=>⟨h2.1,hh.2.trans h2.2⟩) (tu hh.1)
  ·rename_i hj;rw [hj] at h;exact h
 |.al j W T,s,h=>by
  unfold tU at h ⊢;split
  ·rename_i oj hj;rw [hj] at h;exact ⟨h.1,cp (lO h.2) fun s' hh=>yX (fun s2 h2=>⟨h2.1,hh.2.trans h2.2⟩) (tu hh.1)⟩
  ·rename_i hj;rw [hj] at h;exact h
 |.br i re C T more,s,h=>by
  unfold tU at h ⊢;refine ⟨?_,tu h.2⟩;have h:=h.1;split
  ·rename_i oj hj;rw [hj] at h;exact cp (lO h) fun s' hh=>⟨hh.1.1,yX (fun s2 h2=>⟨h2.1,hh.2.trans h2.2⟩) (tu hh.1.2)⟩
  ·rename_i hj;rw [hj] at h;exact h
end ext
def mr (E:Env) (c:Code) (Q:Exit→St→Prop) (s:St):Prop:=fU E c (fun e s'=>Q e s'∧aX s s') s
section sound
variable {E:Env} {f:FuncId} {s:St} {X:Type} {fz:Bool} {call:pO X} {lN:mn X} {fg:Option X→Option X→Option X} {x:X}
def od (E:Env) (call:pO X):Prop:=∀ g args G K x,call g args G K=some x→cB E g args G (fun r G'=>K r G'=some x)
def vG (E:Env) (lN:mn X):Prop:=∀ id args G K x,lN id args G K=some x→kE E id args G (fun b G'=>K b G'=some x)
theorem bq {α:Type} {c:Bool} {a:Option α} {x:α} (h:(bif c then a else none)=some x):c=true∧a=some x:=by
 cases c
 ·cases h
 ·exact ⟨rfl,h⟩
theorem bind_some {α β:Type} {a:Option α} {k:α→Option β} {x:β} (h:a.bind k=some x):∃ y,a=some y∧k y=some x:=by
 cases a with
 |none=>cases h
 |some y=>exact ⟨y,rfl,h⟩
theorem JC {o:Oper} {n:Int} {len:Nat} {g:Nat→Oper} (h:Cw E s o=some (n,len,g)) {j:Nat} (hj:n=(j:Int)):an E f s (g j)=an E f s o:=by
 subst hj;unfold Cw at h;have E8:∀ k:IntKind,bJ E s.ae (.const (.int k (j:Int)))=.v (.int k j):=fun k=>rfl
 split at h
 ·rename_i t x y ho;split at h
  ·rename_i k n i h1 h2;split at h
   ·injection h with h; injection h with e1 h; injection h with e2 h;subst h; subst e1;simp only [an,ho,E8,h1]
   ·cases h
  ·cases h
 ·rename_i t x y ho;split at h
  ·rename_i k n i h1 h2;split at h
   ·split at h
    ·split at h
     ·cases h
     ·injection h with h; injection h with e1 h; injection h with e2 h;subst h; subst e1;simp only [an,ho,E8,h1]
    ·injection h with h; injection h with e1 h; injection h with e2 h;subst h; subst e1;simp only [an,ho,E8,h1]
   ·cases h
  ·cases h
 ·cases h
theorem rr {o:Oper} {n:Int} {len:Nat} {g:Nat→Oper} (hi:Cw E s o=some (n,len,g)) {K:St→Option X}:∀ (m j:Nat),wQ E fz f g n K s m j=some x→∃ c s',an E f s o=some (c,s')∧c=true∧K s'=some x
 |0,_,h=>by cases h
 |m+1,j,h=>by
  unfold wQ at h;by_cases hn:n=(j:Int)
  ·rw [decide_eq_true hn,cond_true,JC hi hn] at h;split at h
   ·rename_i c s' hs;obtain ⟨h1,h2⟩:=bq h;rw [c9] at h2;exact ⟨c,s',hs,h1,h2⟩
   ·cases h
  ·rw [decide_eq_false hn,cond_false] at h;exact rr hi m (j+1) h
theorem yY {ops:List Oper} {o:Oper} (h:VF E f ops o s=true):Ge E f ops o s:=by
 unfold VF at h;split at h
 ·rename_i t m k ok d ho hd;split at h
  ·rename_i c v b hg hs;rw [aaa] at h;obtain ⟨rfl,h⟩:=h;have hn:=th hs;unfold Ge;rw [hg];simp only;have e:an E f s o=some (true,s.put o.dst (.v (if ok then .bk [v,.bool b] else v))):=by simp only [an,ho,hn]
   rw [hd] at e;rw [hd,e];refine ⟨rfl,?_⟩;unfold St.put;simp only;split
   ·rw [ay];exact Bk h
   ·rfl
  ·exact Bl h
 ·exact Bl h
theorem ru {ops:List Oper}:∀ {l:List Nat} {s:St},qB E f ops l s=true→Bh E f ops l s
 |[],_,_=>trivial
 |k :: l,s,h=>by
  unfold qB at h;unfold Bh;rw [aaa] at h;refine ⟨?_,ru h.2⟩;have h:=h.1;split at h
  ·rename_i hk
   first
    |exact yY h
    |rw [hk]; exact yY h
  ·rename_i hk
   first
    |trivial
    |rw [hk]; trivial
theorem uF (hc:od E call) (hr:vG E lN) {o:Oper} {K:St→Option X} (h:VE E fz call lN f o K s=some x):j8 E f o (fun s=>K s=some x) s:=by
 unfold j8;split
 ·rename_i y args tys ho;unfold VE at h;rw [ho] at h;simp only at h;split at h
  ·rename_i h1 h2;rw [h1,h2];refine (hc _ _ _ _ _ h).mono fun r G' hk=>?_
   rw [c9] at hk;exact hk
  ·rename_i h1 h2;rw [h1,h2];refine (hr _ _ _ _ _ h).mono fun r G' hk=>?_
   rw [c9] at hk;exact hk
  ·cases h
 ·rename_i ho;unfold VE at h;rw [ho] at h;cases h
 ·rename_i nc nd;unfold VE at h;split at h
  ·rename_i ho;exact absurd ho (nc _ _ _)
  ·cases h
  ·rename_i y ho;split at h
   ·rename_i b s1 s2 hs;have hn:=Gx hs;have e:an E f s o=some (true,bif b then s1 else s2):=by simp only [an,ho,hn]
    rw [e];refine dE.mk rfl ?_;rw [c9,c9] at h;cases b <;> exact h
   ·cases h
  ·rename_i t m k ok ho;split at h
   ·rename_i c v b hs;obtain ⟨h1,h2⟩:=bq h;subst h1;rw [c9] at h2;have hn:=th hs;have e:an E f s o=some (true,s.put o.dst (.v (if ok then .bk [v,.bool b] else v))):=by simp only [an,ho,hn]
    rw [e];exact dE.mk rfl h2
   ·split at h
    ·rename_i c s' hs;obtain ⟨h1,h2⟩:=bq h;rw [c9] at h2;rw [hs];exact dE.mk h1 h2
    ·cases h
  ·rename_i t m k z ho;split at h
   ·rename_i c s' hd hs;obtain ⟨h1,h2⟩:=bq h;subst h1;rw [c9] at h2;have hn:=tj hs;have e:an E f s o=some (true,s'):=by simp only [an,ho,hd,hn]
    rw [e];exact dE.mk rfl h2
   ·cases h
  ·rename_i t m k z ho;split at h
   ·rename_i c s' hd hs;obtain ⟨h1,h2⟩:=bq h;subst h1;rw [c9] at h2;have hn:=tj hs;have e:an E f s o=some (true,s'):=by simp only [an,ho,hd,hn]
    rw [e];exact dE.mk rfl h2
   ·cases h
  ·rename_i args tys ho;split at h
   ·rename_i c s' hf;obtain ⟨h1,h2⟩:=bq h;rw [c9] at h2;have e:an E f s o=some (c,s'):=by simp only [an,ho,hf]
    rw [e];exact dE.mk h1 h2
   ·rename_i hf;split at h
    ·rename_i l hl;split at h
     ·rename_i b s1 c s2 hs;have HI:b=false→c=true:=fun e=>by subst e; exact (bq (show (bif c then rU fz s2 K else none)=some x from h)).1
      have hn:=Ct hs HI;have e:an E f s o=some (true,bif b then s1 else s2):=by simp only [an,ho,hf,hl,hn]
      rw [e];refine dE.mk rfl ?_;cases b with
      |true=>
       show K s1=some x;rw [← c9 fz s1 K];exact h
      |false=>
       obtain ⟨h1,h2⟩:=bq (show (bif c then rU fz s2 K else none)=some x from h);rw [c9] at h2;exact h2
     ·split at h
      ·rename_i c s' hs;obtain ⟨h1,h2⟩:=bq h;rw [c9] at h2;rw [hs];exact dE.mk h1 h2
      ·cases h
    ·cases h
  ·rename_i args tys ho;split at h
   ·rename_i l hl;split at h
    ·rename_i c s' hs;obtain ⟨h1,h2⟩:=bq h;subst h1;rw [c9] at h2;have hn:=Gy hs;have hf:ij E f s o=none:=by
      cases hf:ij E f s o with
      |none=>rfl
      |some r=>
       obtain ⟨_,_,h2⟩:=s9 hf;rw [ho] at h2;cases h2
     have e:an E f s o=some (true,s'):=by simp only [an,ho,hf,hl,hn]
     rw [e];exact dE.mk rfl h2
    ·split at h
     ·rename_i c s' hs;obtain ⟨h1,h2⟩:=bq h;rw [c9] at h2;rw [hs];exact dE.mk h1 h2
     ·cases h
   ·cases h
  ·split at h
   ·rename_i n len g hi;obtain ⟨c,s',hs,h1,h2⟩:=rr hi _ _ h;rw [hs];exact dE.mk h1 h2
   ·split at h
    ·rename_i c s' hs;obtain ⟨h1,h2⟩:=bq h;rw [c9] at h2;rw [hs];exact dE.mk h1 h2
    ·cases h
theorem kb (hc:od E call) (hr:vG E lN) {ops:List Oper} {o:Oper} {K:St→Option X} (h:pP E fz call lN f ops o K s=some x):cn E f ops o (fun s=>K s=some x) s:=by
 unfold pP at h;unfold cn;split at h
 ·rename_i hg;rw [hg];exact uF hc hr h
 ·rename_i j want hg;rw [hg];simp only;split at h
  ·cases h
  ·rename_i d hd;rw [hd];simp only;split at h
   ·rename_i b hb;rw [hb];simp only;cases want with
    |true=>
     simp only at h;rw [c9,c9] at h;refine ⟨fun e=>?_,fun e=>?_⟩
     ·subst e;exact uF hc hr h
     ·have e:b=false:=by simpa using e
      subst e;exact h
    |false=>
     simp only at h;rw [c9,c9] at h;refine ⟨fun e=>?_,fun e=>?_⟩
     ·subst e;exact uF hc hr h
     ·have e:b=true:=by simpa using e
      subst e;exact h
   ·rename_i hb;rw [hb];rw [c9] at h;exact h
   ·cases h
theorem AF (hc:od E call) (hr:vG E lN) {ops:List Oper} {o:Oper} {K:St→Option X} (h:Cx E fz call lN f ops o K s=some x):fV E f ops o (fun s=>K s=some x) s:=by
 unfold Cx at h;unfold fV;split at h
 ·rename_i s' h1 h2;rw [h1,h2];rw [c9] at h;exact h
 ·rename_i hn;split
  ·rename_i s' h1 h2;exact absurd h2 (hn s' h1)
  ·exact kb hc hr h
theorem rv (hc:od E call) (hr:vG E lN) {ops:List Oper} {o:Oper} {K:St→Option X} (h:wR E fz call lN f ops o K s=some x):ft E f ops o (fun s=>K s=some x) s:=by
 unfold wR at h;unfold ft;split at h
 ·rename_i c s' h1 h2;rw [h1,h2];obtain ⟨q1,q2⟩:=bq h;rw [c9] at q2;exact dE.mk q1 q2
 ·rename_i c s0 left g h1 h2 h3;rw [h1,h2,h3];obtain ⟨q1,q2⟩:=bq h;refine dE.mk q1 ?_;cases left with
  |nil=>
   simp only [List.isEmpty_nil,cond_true,c9] at q2;exact ⟨fun _=>q2,fun i hi=>by simp at hi⟩
  |cons i0 l=>
   simp only [List.isEmpty_cons,cond_false] at q2;refine ⟨fun e=>(by cases e),fun i hi=>?_⟩;obtain ⟨r1,r2⟩:=bq (Jy q2 i hi);rw [c9] at r2;exact dE.mk r1 r2
 ·rename_i Ko hn2;split
  ·rename_i c s' h1 h2
   first
    |exact absurd h2 (Ko c s' h1)
    |exact absurd h2 (hn2 c s' h1)
  ·rename_i c s0 left g h1 h2 h3
   first
    |exact absurd h3 (hn2 c s0 left g h1 h2)
    |exact absurd h3 (Ko c s0 left g h1 h2)
  ·exact AF hc hr h
theorem AG (hc:od E call) (hr:vG E lN) {ops:List Oper} {o:Oper} {K:St→Option X} (h:Cy E fz call lN f ops o K s=some x):fu E f ops o (fun s=>K s=some x) s:=by
 unfold Cy at h;unfold fu;split at h
 ·rename_i c s' hz;rw [hz];obtain ⟨h1,h2⟩:=bq h;exact ⟨h1,rv hc hr h2⟩
 ·rename_i hz;rw [hz];exact rv hc hr h
theorem yZ (hc:od E call) (hr:vG E lN) {ops:List Oper}:∀ {l:List Oper} {K:St→Option X} {s:St},PL E fz call lN f ops l K s=some x→pA E f ops l (fun s=>K s=some x) s
 |[],_,_,h=>h
 |o :: l,K,s,h=>by
  unfold PL at h;unfold pA;refine mq (AG hc hr h) fun s' h'=>?_
  unfold Bd;split at h'
  ·rename_i s2 hp;rw [hp];exact yZ hc hr h'
  ·cases h'
theorem jE (hc:od E call) (hr:vG E lN) (hm:vF fg) {ops:List Oper}:∀ {T:DT} {K:St→Option X} {s:St} {x:X},oT E fz call lN fg f ops T K s=some x→tU E f ops T (fun s=>K s=some x) s
 |.done,_,_,_,h=>h
 |.stop,_,_,_,_=>trivial
 |.take j C T,K,s,x,h=>by
  unfold oT at h;unfold tU;split at h
  ·rename_i hk;rw [hk];exact cp (kb hc hr h) fun s' h'=>jE hc hr hm h'
  ·cases h
 |.al j W T,K,s,x,h=>by
  unfold oT at h;unfold tU;split at h
  ·rename_i hk;obtain ⟨h1,h2⟩:=bq h;rw [hk];exact ⟨h1,cp (kb hc hr h2) fun s' h'=>jE hc hr hm h'⟩
  ·cases h
 |.br i re C T more,K,s,x,h=>by
  have first:∀ {x:X},(match nth ops i with
   |some oi=>pP E fz call lN f ops oi (fun s'=>bif qB E f ops re s' then oT E fz call lN fg f ops T K s' else none) s
   |none=>none)=some x→(match nth ops i with
   |some oi=>cn E f ops oi (fun s'=>Bh E f ops re s'∧tU E f ops T (fun s=>K s=some x) s') s
   |none=>False):=by
   intro x h;split at h
   ·rename_i hk;refine cp (kb hc hr h) fun s' h'=>?_
    obtain ⟨h1,h2⟩:=bq h';exact ⟨ru h1,jE hc hr hm h2⟩
   ·cases h
  unfold tU;cases more with
  |stop=>exact ⟨first h,trivial⟩
  |done=>obtain ⟨h1,h2⟩:=hm _ _ _ h; exact ⟨first h1,jE (T:=.done) hc hr hm h2⟩
  |take a b c=>obtain ⟨h1,h2⟩:=hm _ _ _ h; exact ⟨first h1,jE hc hr hm h2⟩
  |br a b c d e=>obtain ⟨h1,h2⟩:=hm _ _ _ h; exact ⟨first h1,jE hc hr hm h2⟩
  |al a b c=>obtain ⟨h1,h2⟩:=hm _ _ _ h; exact ⟨first h1,jE hc hr hm h2⟩
end sound
end Go.Am
