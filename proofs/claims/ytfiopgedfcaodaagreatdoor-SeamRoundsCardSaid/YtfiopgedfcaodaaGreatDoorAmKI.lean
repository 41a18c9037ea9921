/- The abstract machine: states that are brought to a form. -/
import Derived.Test.YtfiopgedfcaodaaGreatDoorAmKH
import Derived.RangeFuncIn
import Derived.RangeFuncRecord
set_option linter.all false
namespace Go.Am
open Go
inductive LPK
 | open_
 | busy
 | ret
 | ex (i:Nat)
def LPK.is:LPK→Bool→Option Code→Bool→Bool
 | .open_,false,none,false=>true
 | .busy,true,none,false=>true
 | .ret,false,some .ret,true=>true
 | .ex i,false,some (.exit j),true=>Nat.beq i j
 | _,_,_,_=>false
def LPK.b:LPK→Bool
 | .busy=>true
 | _=>false
def LPK.p:LPK→Option Code
 | .ret=>some .ret
 | .ex i=>some (.exit i)
 | _=>none
def LPK.d:LPK→Bool
 | .ret=>true
 | .ex _=>true
 | _=>false
theorem LPK.is_eq {k:LPK} {b:Bool} {p:Option Code} {d:Bool} (h:k.is b p d=true):b=k.b∧p=k.p∧d=k.d:=by
 unfold LPK.is at h
 split at h <;> first | exact ⟨rfl,rfl,rfl⟩ | (cases h; done) | skip
 rw [Nat.eq_of_beq_eq_true h]
 exact ⟨rfl,rfl,rfl⟩
inductive GL
 | row (n:Nat)
 | tok (loc sz:Nat) (e:TypeId)
 | dead
 | lp (k:LPK)
 | keep
 | map
 | sit
 | gro (sz:Nat) (e:TypeId)
 | fam (sz:Nat) (e:TypeId)
 | mapF
 | mit (mid:Nat)
def famL (fs:List Nat):List AV:=fs.map fun n:Nat=>.int .i64 n
def unfamL (l:List AV):List Nat:=l.map fun a=>a.intD.toNat
theorem unfamL_famL (fs:List Nat):unfamL (famL fs)=fs:=by
 induction fs with
 | nil=>rfl
 | cons n fs ih=>
  show (AV.int .i64 n).intD.toNat :: unfamL (famL fs)=n :: fs
  rw [ih]
  simp [AV.intD]
theorem exact_famL (fs:List Nat):exactL (famL fs)=true:=by
 induction fs with
 | nil=>rfl
 | cons n fs ih=>exact ih
def lpIs (k:LPK):GO→GO→Bool
 | .loop _ _ _ _ _ _ _ _ _ _,.loop b p _ _ _ _ _ _ _ d=>k.is b p d
 | _,_=>false
def lpPut (k:LPK):GO→GO
 | .loop _ _ fn sl n ps asn bd d _=>.loop k.b k.p fn sl n ps asn bd d k.d
 | _=>.dead
def allX (es:List (AV × AV)):Bool:=exactL (mcells es)
def keepIs:GO→GO→Bool
 | .tok f sz e,.tok f' sz' e'=>decide (f'=f)&&(Nat.beq sz' sz&&Nat.beq e' e)
 | .defers a,.defers b=>match a,b with
  | true,true=>true
  | false,false=>true
  | _,_=>false
 | .dead,_=>true
 | _,_=>false
structure Tmpl where
 ps:Pats
 sl:List Tmp
 W:List Tmp
 bx:List (Nat × Nat)
 g:List GL
 lps:List (Tmp × Nat × Nat)
def getSl (slots:Slots):List Tmp→Option (List AV)
 | []=>some []
 | t :: l=>match lk slots t with
  | .v a=>match getSl slots l with
   | some r=>some (a :: r)
   | none=>none
  | _=>none
def getBx (bx:Boxes):List (Nat × Nat)→Option (List AV)
 | []=>some []
 | (k,n) :: l=>match lkB bx k with
  | some cs=>match getBx bx l with
   | some r=>bif Nat.beq cs.length n then some (cs++r) else none
   | none=>none
  | none=>none
def getG:List GL→List GO→Option (List AV)
 | [],_=>some []
 | .row n :: l,.row cs _ :: G=>match getG l G with
  | some r=>bif Nat.beq cs.length n then some (cs++r) else none
  | none=>none
 | .tok _ sz e :: l,.tok _ sz' e' :: G=>bif Nat.beq sz sz'&&Nat.beq e e' then getG l G else none
 | .dead :: l,_ :: G=>getG l G
 | .lp _ :: l,_ :: G=>getG l G
 | .keep :: l,_ :: G=>getG l G
 | .map :: l,.map es :: G=>match getG l G with
  | some r=>some (.list .opn 2 (mcells es) :: r)
  | none=>none
 | .sit :: l,.siter s pos :: G=>match getG l G with
  | some r=>some (.str s :: .int .i64 pos :: r)
  | none=>none
 | .gro sz e :: l,.gro es sz' e' :: G=>match getG l G with
  | some r=>bif Nat.beq sz sz'&&Nat.beq e e' then some (.list .opn sz' es :: r) else none
  | none=>none
 | .fam sz e :: l,.fam fs sz' e' :: G=>match getG l G with
  | some r=>bif Nat.beq sz sz'&&Nat.beq e e' then some (.list .opn 1 (famL fs) :: r) else none
  | none=>none
 | .mapF :: l,.map es :: G=>match getG l G with
  | some r=>some (.list .opn 2 (mcells es) :: r)
  | none=>none
 | .mit mid :: l,.mit mid' n left _ _ :: G=>match getG l G with
  | some r=>bif Nat.beq mid mid' then some (.int .i64 n :: .list .opn 1 (famL left) :: r) else none
  | none=>none
 | _,_=>none
def lenAt (vs:List AV) (loc:Nat):Nat:=match nth vs loc with
 | some (.list _ _ es)=>es.length
 | _=>0
def rowTy:GO→GO→Bool
 | .row _ e,.row _ e'=>Nat.beq e e'
 | _,_=>false
def mitTy:GO→GO→Bool
 | .mit _ _ _ _ t,.mit _ _ _ _ t'=>Nat.beq t t'
 | _,_=>false
def mitT:GO→TypeId
 | .mit _ _ _ _ t=>t
 | _=>0
def elOf:GO→TypeId
 | .row _ e=>e
 | _=>0
def toksOk (vs:List AV):List GL→List GO→List GO→Bool
 | [],_,_=>true
 | .tok loc _ _ :: l,_ :: B,.tok f _ _ :: G=>decide (f=lenAt vs loc)&&toksOk vs l B G
 | .tok _ _ _ :: _,_,_=>false
 | .lp k :: l,o :: B,o' :: G=>lpIs k o o'&&toksOk vs l B G
 | .keep :: l,o :: B,o' :: G=>keepIs o o'&&toksOk vs l B G
 | .row _ :: l,b :: B,g :: G=>rowTy b g&&toksOk vs l B G
 | .map :: l,_ :: B,.map es :: G=>allX es&&toksOk vs l B G
 | .map :: _,_,_=>false
 | .sit :: l,_ :: B,_ :: G=>toksOk vs l B G
 | .gro _ _ :: l,_ :: B,_ :: G=>toksOk vs l B G
 | .fam _ _ :: l,_ :: B,_ :: G=>toksOk vs l B G
 | .mapF :: l,_ :: B,_ :: G=>toksOk vs l B G
 | .mit _ :: l,b :: B,g :: G=>mitTy b g&&toksOk vs l B G
 | .dead :: l,_ :: B,_ :: G=>toksOk vs l B G
 | _,_,_=>false
def putSl:List Tmp→List AV→Slots→Slots
 | t :: ts,a :: l,r=>.put t (.v a) :: putSl ts l r
 | _,_,r=>r
def putLps:List (Tmp × Nat × Nat)→Slots→Slots
 | (t,k,o) :: l,r=>.put t (.lp k o) :: putLps l r
 | [],r=>r
def lpsOk (slots:Slots):List (Tmp × Nat × Nat)→Bool
 | []=>true
 | (t,k,o) :: l=>(match lk slots t with
  | .lp k' o'=>Nat.beq k' k&&Nat.beq o' o
  | _=>false)&&lpsOk slots l
def putW:List Tmp→Slots→Slots
 | t :: ts,r=>.put t .none :: putW ts r
 | [],r=>r
def putBx:List (Nat × Nat)→List AV→Boxes→Boxes
 | (k,n) :: r,l,b=>(k,l.take n) :: putBx r (l.drop n) b
 | [],_,b=>b
def putG (vs:List AV):List GL→List GO→List AV→List GO
 | .row n :: r,B,l=>.row (l.take n) (elOf (B.headD .dead)) :: putG vs r B.tail (l.drop n)
 | .tok loc sz e :: r,B,l=>.tok (lenAt vs loc) sz e :: putG vs r B.tail l
 | .dead :: r,B,l=>.dead :: putG vs r B.tail l
 | .lp k :: r,B,l=>lpPut k (B.headD .dead) :: putG vs r B.tail l
 | .keep :: r,B,l=>B.headD .dead :: putG vs r B.tail l
 | .map :: r,B,l=>.map (AV.entries (headA l)) :: putG vs r B.tail l.tail
 | .sit :: r,B,l=>.siter (AV.strD (headA l)) (AV.intD (headA l.tail)).toNat :: putG vs r B.tail l.tail.tail
 | .gro sz e :: r,B,l=>.gro (AV.listD (headA l)) sz e :: putG vs r B.tail l.tail
 | .fam sz e :: r,B,l=>.fam (unfamL (AV.listD (headA l))) sz e :: putG vs r B.tail l.tail
 | .mapF :: r,B,l=>.map (AV.entries (headA l)) :: putG vs r B.tail l.tail
 | .mit mid :: r,B,l=>.mit mid (AV.intD (headA l)).toNat (unfamL (AV.listD (headA l.tail))) none (mitT (B.headD .dead)) :: putG vs r B.tail l.tail.tail
 | [],_,_=>[]
def sumB:List (Nat × Nat)→Nat
 | []=>0
 | (_,n) :: l=>n+sumB l
def lensV:List GL→List AV→Nat→Nat
 | [],_,_=>0
 | .gro _ _ :: r,l,i=>match i with
  | 0=>(AV.listD (headA l)).length
  | i+1=>lensV r l.tail i
 | .row n :: r,l,i=>match i with
  | 0=>0
  | i+1=>lensV r (l.drop n) i
 | .map :: r,l,i=>match i with
  | 0=>0
  | i+1=>lensV r l.tail i
 | .sit :: r,l,i=>match i with
  | 0=>0
  | i+1=>lensV r l.tail.tail i
 | .fam _ _ :: r,l,i=>match i with
  | 0=>0
  | i+1=>lensV r l.tail i
 | .mapF :: r,l,i=>match i with
  | 0=>0
  | i+1=>lensV r l.tail i
 | .mit _ :: r,l,i=>match i with
  | 0=>0
  | i+1=>lensV r l.tail.tail i
 | _ :: r,l,i=>match i with
  | 0=>0
  | i+1=>lensV r l i
def Tmpl.vals (t:Tmpl) (v:t.ps.T):List AV:=t.ps.encL (lensV t.g (((t.ps.encL (fun _=>0) v).drop t.sl.length).drop (sumB t.bx))) v
def Tmpl.st (t:Tmpl) (s:St) (v:t.ps.T):St:=
 ⟨putLps t.lps (putSl t.sl (t.vals v) (putW t.W s.slots)),putBx t.bx ((t.vals v).drop t.sl.length) s.boxes,putG (t.vals v) t.g s.G (((t.vals v).drop t.sl.length).drop (sumB t.bx)),s.marks,s.ro,s.n⟩
def inL:List Nat→Nat→Bool
 | [],_=>false
 | a :: l,n=>Nat.beq a n || inL l n
def inK (l:List Tmp) (W:List Tmp) (n:Nat):Bool:=inL l n || inL W n
def noLp (d:Nat) (l W:List Tmp):Slots→Bool
 | []=>true
 | .put t (.lp k _) :: r=>(!(Nat.beq k d) || inK l W t)&&noLp d l W r
 | _ :: r=>noLp d l W r
def keysOk (l W:List Tmp) (base:Slots):Slots→Bool
 | []=>true
 | .put d _ :: r=>inK l W d&&keysOk l W base r
 | .kill d :: r=>noLp d l W base&&keysOk l W base r
def inB:List (Nat × Nat)→Nat→Bool
 | [],_=>false
 | (a,_) :: l,n=>Nat.beq a n || inB l n
def keysBOk (l:List (Nat × Nat)) (base:Boxes):Boxes→Bool
 | []=>true
 | (k,_) :: r=>(inB l k || (lkB base k).isNone)&&keysBOk l base r
def eqNL:List Nat→List Nat→Bool
 | [],[]=>true
 | a :: l,b :: r=>Nat.beq a b&&eqNL l r
 | _,_=>false
def Pat.lcl (n:Nat):Pat→Bool
 | .list _ p=>p.under n
 | _=>false
def Pats.flags (n:Nat):Pats→List Bool
 | .nil=>[]
 | .cons p ps=>p.lcl n :: ps.flags n
def groP:List GL→List Bool→Bool
 | [],_=>true
 | .gro _ _ :: r,f :: l=>f&&groP r l
 | .gro _ _ :: _,[]=>false
 | .row n :: r,l=>groP r (dropN n l)
 | .map :: r,l=>groP r (dropN 1 l)
 | .sit :: r,l=>groP r (dropN 2 l)
 | .fam _ _ :: r,l=>groP r (dropN 1 l)
 | .mapF :: r,f :: l=>f&&groP r l
 | .mapF :: _,[]=>false
 | .mit _ :: r,l=>groP r (dropN 2 l)
 | _ :: r,l=>groP r l
def mitP (n:Nat):List GL→Bool
 | []=>true
 | .mit mid :: r=>Nat.blt mid n&&mitP n r
 | _ :: r=>mitP n r
def Tmpl.ok (t:Tmpl) (s s':St):Bool:=
 keysOk t.sl t.W s.slots (s'.slots.take (s'.slots.length - s.slots.length))&&keysBOk t.bx s.boxes (s'.boxes.take (s'.boxes.length - s.boxes.length)) &&
  eqNL s'.marks s.marks&&Nat.beq t.g.length s.G.length&&(t.ps.under s.G.length&&(groP t.g (dropN (sumB t.bx) (dropN t.sl.length (t.ps.flags s.G.length)))&&mitP s.G.length t.g))&&lpsOk s'.slots t.lps
def Tmpl.dec (t:Tmpl) (s s':St):Option t.ps.T:=
 bif t.ok s s' then
  match getSl s'.slots t.sl,getBx s'.boxes t.bx,getG t.g s'.G with
  | some a,some b,some c=>(t.ps.decL (lensV t.g c) (a++(b++c))).bind fun v=>bif toksOk (t.vals v) t.g s.G s'.G then some v else none
  | _,_,_=>none
 else none
theorem inL_mem {l:List Nat} {n:Nat}:inL l n=true↔n∈l:=by
 induction l with
 | nil=>simp [inL]
 | cons a l ih=>
  simp only [inL,Bool.or_eq_true,Nat.beq_eq,ih,List.mem_cons]
  constructor
  ·rintro (h | h)
   ·exact .inl h.symm
   ·exact .inr h
  ·rintro (h | h)
   ·exact .inl h.symm
   ·exact .inr h
theorem eqNL_eq:∀ {a b:List Nat},eqNL a b=true→a=b
 | [],[],_=>rfl
 | a :: l,b :: r,h=>by
  simp only [eqNL,Bool.and_eq_true,Nat.beq_eq] at h
  rw [h.1,eqNL_eq h.2]
 | [],_ :: _,h=>by cases h
 | _ :: _,[],h=>by cases h
theorem noLp_lk {d:Nat} {l W:List Tmp} {t off:Nat}:∀ {base:Slots},noLp d l W base=true→lk base t=.lp d off→inK l W t=true
 | [],_,h=>by simp [lk] at h
 | .put t' x :: r,hn,h=>by
  by_cases e:t'=t
  ·subst e
   rw [lk_put_self] at h
   subst h
   simp only [noLp,Nat.beq_refl,Bool.not_true,Bool.false_or,Bool.and_eq_true] at hn
   exact hn.1
  ·rw [lk_put_ne e] at h
   refine noLp_lk (base:=r) ?_ h
   cases x <;> simp only [noLp,Bool.and_eq_true] at hn
   ·exact hn
   ·exact hn
   ·exact hn.2
 | .kill d' :: r,hn,h=>by
  rcases lk_kill (l:=r) (d:=d') (t:=t) with ⟨h1,_⟩ | h1
  ·rw [h1] at h
   exact noLp_lk (base:=r) hn h
  ·rw [h1] at h
   cases h
theorem lk_keys {l W:List Tmp} {base:Slots} {t:Nat} (ht:inK l W t=false):∀ {pre:Slots},keysOk l W base pre=true→lk (pre++base) t=lk base t
 | [],_=>rfl
 | .put d x :: r,h=>by
  simp only [keysOk,Bool.and_eq_true] at h
  have hne:d≠t:=fun e=>by rw [e,ht] at h; exact absurd h.1 (by simp)
  rw [List.cons_append,lk_put_ne hne]
  exact lk_keys ht h.2
 | .kill d :: r,h=>by
  simp only [keysOk,Bool.and_eq_true] at h
  have ih:=lk_keys ht h.2
  simp only [List.cons_append,lk,ih]
  cases hb:lk base t with
  | lp k off=>
   by_cases e:k=d
   ·subst e
    have:=noLp_lk h.1 hb
    rw [ht] at this
    cases this
   ·simp [beq_ne e]
  | _=>rfl
theorem lkB_keys {l:List (Nat × Nat)} {base:Boxes} {k:Nat} {cs:List AV} (hk:inB l k=false) (hb:lkB base k=some cs):∀ {pre:Boxes},keysBOk l base pre=true→lkB (pre++base) k=some cs
 | [],_=>hb
 | (d,x) :: r,h=>by
  simp only [keysBOk,Bool.and_eq_true] at h
  have hne:d≠k:=fun e=>by
   rw [e,hk,hb] at h
   exact absurd h.1 (by simp)
  rw [List.cons_append,lkB,beq_ne hne]
  exact lkB_keys hk hb h.2
theorem take_pre {α:Type} (pre base:List α):(pre++base).take ((pre++base).length - base.length)=pre:=by
 rw [List.length_append,Nat.add_sub_cancel,List.take_left]
def Realm.cut (R:Realm) (n:Nat):Realm:=⟨R.I,R.obj.take n⟩
theorem cut_nth {R:Realm} {n id:Nat} {ro:RO}:nth (R.cut n).obj id=some ro↔id < n∧nth R.obj id=some ro:=by
 simp only [Realm.cut,nth_eq,List.getElem?_take]
 split
 ·simp_all
 ·simp_all
  omega
theorem cut_mv (R:Realm) (n:Nat):Mv R (R.cut n) n:=⟨fun _ _ h=>h,fun _ _ hl h=>cut_nth.2 ⟨hl,h⟩⟩
section rep
variable {E:Env} {R R':Realm} {w w':World} {β β':Nat→Nat} {s s':St} {a a':Act}
def RelTK (R:Realm) (w:World) (β:Nat→Nat) (K:Nat→Prop) (slots:Slots) (tmps:Array Value):Prop:=
 ∀ i,¬ K i→lk slots i≠.none→∃ c,tmps[i]?=some c∧RelS R w β (lk slots i) c
theorem relTK_putW {tmps:Array Value} {base:Slots}:∀ {W:List Tmp} {K:Nat→Prop},RelTK R w β (fun i=>i∈W∨K i) base tmps→RelTK R w β K (putW W base) tmps
 | [],K,h=>fun i hi hn=>h i (by simpa using hi) hn
 | t :: W,K,h=>fun i hi hn=>by
  have ih:RelTK R w β (fun i=>i=t∨K i) (putW W base) tmps:=relTK_putW (W:=W) (fun j hj=>h j (fun hc=>hj (by
   rcases hc with hc | hc
   ·rcases List.mem_cons.1 hc with hc | hc
    ·exact .inr (.inl hc)
    ·exact .inl hc
   ·exact .inr (.inr hc))))
  simp only [putW] at hn ⊢
  by_cases e:t=i
  ·subst e
   rw [lk_put_self] at hn
   exact absurd rfl hn
  ·rw [lk_put_ne e] at hn ⊢
   exact ih i (by simp; exact ⟨fun e'=>e e'.symm,hi⟩) hn
theorem relTK_putSl {n:Nat} (m:Mv R' R n) {tmps:Array Value} {slots:Slots} (hT:RelT R' w β slots tmps) {base:Slots}:∀ {ts:List Tmp} {K:Nat→Prop} {l l' r r':List AV},getSl slots ts=some l→WeakL (l++r) (l'++r')→l.length=l'.length→underL n l'=true →
  RelTK R w β (fun i=>i∈ts∨K i) base tmps→RelTK R w β K (putSl ts (l'++r') base) tmps
 | [],K,l,l',r,r',_,_,_,_,h=>fun i hi hn=>by
  have e:putSl [] (l'++r') base=base:=rfl
  rw [e] at hn ⊢
  exact h i (by simpa using hi) hn
 | t :: ts,K,l,l',r,r',hg,hw,hl,hu,h=>by
  unfold getSl at hg
  split at hg
  ·rename_i a ha
   split at hg
   ·rename_i l0 hl0
    cases hg
    cases l' with
    | nil=>simp at hl
    | cons b l'=>
     simp only [List.cons_append,WeakL] at hw
     simp only [underL,Bool.and_eq_true] at hu
     have ih:RelTK R w β (fun i=>i=t∨K i) (putSl ts (l'++r') base) tmps:=relTK_putSl m hT hl0 hw.2 (by simpa using hl) hu.2 (fun j hj=>h j (fun hc=>hj (by
      rcases hc with hc | hc
      ·rcases List.mem_cons.1 hc with hc | hc
       ·exact .inr (.inl hc)
       ·exact .inl hc
      ·exact .inr (.inr hc))))
     intro i hi hn
     simp only [putSl,List.cons_append] at hn ⊢
     by_cases e:t=i
     ·subst e
      rw [lk_put_self] at hn ⊢
      obtain ⟨c,h1,h2⟩:=hT t (by rw [ha]; simp)
      rw [ha] at h2
      exact ⟨c,h1,Rel.move m hu.1 (hw.1 _ _ _ h2)⟩
     ·rw [lk_put_ne e] at hn ⊢
      exact ih i (by simp; exact ⟨fun e'=>e e'.symm,hi⟩) hn
   ·cases hg
  ·cases hg
def BoxOk (R:Realm) (w:World) (β:Nat→Nat) (k:Nat) (cs:List AV):Prop:=
 (∃ vs el,w.heap[β k]?=some (.cells ⟨vs⟩ el (0,0))∧RelL R w cs vs∧(∀ v∈vs,v.oneCell'=true))∧(∀ o,¬ R.I (β k) o)∧¬ Live R (β k)
theorem live_cut {R:Realm} {n b:Nat} (h:Live (R.cut n) b):Live R b:=by
 obtain ⟨id,ro,h1,h2⟩:=h
 exact ⟨id,ro,(cut_nth.1 h1).2,h2⟩
theorem BoxOk.cut {n k:Nat} {cs cs':List AV} (h:BoxOk R w β k cs) (hw:WeakL cs cs') (hu:underL n cs'=true):BoxOk (R.cut n) w β k cs':=by
 obtain ⟨⟨vs,el,h1,h2,h3⟩,h4,h5⟩:=h
 exact ⟨⟨vs,el,h1,(hw.rel h2).move (cut_mv R n) hu,h3⟩,h4,fun hl=>h5 (live_cut hl)⟩
theorem underL_append {n:Nat}:∀ {l r:List AV},underL n (l++r)=(underL n l&&underL n r)
 | [],r=>by simp [underL]
 | a :: l,r=>by simp [underL,underL_append (l:=l),Bool.and_assoc]
theorem WeakL.split:∀ {l r l':List AV},WeakL (l++r) l'→∃ a b,l'=a++b∧WeakL l a∧WeakL r b∧a.length=l.length
 | [],r,l',h=>⟨[],l',rfl,trivial,h,rfl⟩
 | x :: l,r,[],h=>h.elim
 | x :: l,r,y :: l',h=>by
  obtain ⟨a,b,rfl,h2,h3,h4⟩:=WeakL.split (l:=l) (r:=r) (l':=l') h.2
  exact ⟨y :: a,b,rfl,⟨h.1,h2⟩,h3,by simp [h4]⟩
theorem putBx_ok {n:Nat} {bxs:Boxes} (hb:∀ k cs,lkB bxs k=some cs→BoxOk R w β k cs) {base:Boxes}:∀ {bx:List (Nat × Nat)} {K:Nat→Prop} {l l' r:List AV},getBx bxs bx=some l→WeakL l l'→underL n l'=true →
  (∀ k cs,¬ K k→inB bx k=false→lkB base k=some cs→lkB bxs k=some cs∧underL n cs=true) →
  ∀ k cs,¬ K k→lkB (putBx bx (l'++r) base) k=some cs→BoxOk (R.cut n) w β k cs∧∃ cs',lkB bxs k=some cs'
 | [],K,l,l',r,_,_,_,h,k,cs,hK,hk=>by
  obtain ⟨h1,h2⟩:=h k cs hK rfl hk
  exact ⟨(hb k cs h1).cut (WeakL.refl _) h2,cs,h1⟩
 | (d,m) :: bx,K,l,l',r,hg,hw,hu,h,k,cs,hK,hk=>by
  unfold getBx at hg
  split at hg
  ·rename_i cs0 hd
   split at hg
   ·rename_i l0 hl0
    cases hm:Nat.beq cs0.length m with
    | false=>rw [hm] at hg; cases hg
    | true=>
     rw [hm] at hg
     cases hg
     have hm:=Nat.eq_of_beq_eq_true hm
     obtain ⟨x,y,rfl,k1,k2,k3⟩:=hw.split
     rw [underL_append,Bool.and_eq_true] at hu
     have e1:((x++y)++r).take m=x:=by rw [List.append_assoc,← hm,← k3,List.take_left]
     have e2:((x++y)++r).drop m=y++r:=by rw [List.append_assoc,← hm,← k3,List.drop_left]
     simp only [putBx,e1,e2] at hk
     rcases lkB_cons hk with ⟨rfl,rfl⟩ | ⟨hne,hk⟩
     ·exact ⟨(hb d cs0 hd).cut k1 hu.1,cs0,hd⟩
     ·refine putBx_ok hb (K:=fun k=>k=d∨K k) (r:=r) hl0 k2 hu.2 (fun k' cs' hK' h1 h2=>?_) k cs (fun hc=>?_) hk
      ·exact h k' cs' (fun hc=>hK' (.inr hc)) (by simp only [inB,h1,Bool.or_false]; exact beq_ne (fun e=>hK' (.inl e.symm))) h2
      ·rcases hc with hc | hc
       ·exact hne hc.symm
       ·exact hK hc
   ·cases hg
  ·cases hg
def GroC (n:Nat):List GL→List AV→Prop
 | [],_=>True
 | .gro _ _ :: r,l=>underL n (AV.listD (headA l))=true∧GroC n r l.tail
 | .row m :: r,l=>GroC n r (l.drop m)
 | .map :: r,l=>GroC n r l.tail
 | .sit :: r,l=>GroC n r l.tail.tail
 | .fam _ _ :: r,l=>GroC n r l.tail
 | .mapF :: r,l=>underL n (AV.listD (headA l))=true∧GroC n r l.tail
 | .mit _ :: r,l=>GroC n r l.tail.tail
 | _ :: r,l=>GroC n r l
def FlagOk (n:Nat):List Bool→List AV→Prop
 | [],_=>True
 | _ :: _,[]=>True
 | f :: fl,a :: l=>(f=true→underL n a.listD=true)∧FlagOk n fl l
theorem FlagOk.drop {m:Nat}:∀ {fl:List Bool} {l:List AV} (n:Nat),FlagOk m fl l→FlagOk m (dropN n fl) (l.drop n)
 | _,_,0,h=>by simpa [dropN] using h
 | [],_,_+1,_=>by simp [dropN,FlagOk]
 | _ :: fl,[],n+1,_=>by
  rw [List.drop_nil]
  cases dropN (n+1) (_ :: fl) <;> trivial
 | _ :: fl,_ :: l,n+1,h=>by simpa [dropN] using FlagOk.drop n h.2
theorem groP_ok {m:Nat}:∀ (g:List GL) {fl:List Bool} {l:List AV},groP g fl=true→FlagOk m fl l→GroC m g l
 | [],_,_,_,_=>trivial
 | .gro _ _ :: g,[],_,h,_=>by cases h
 | .gro _ _ :: g,f :: fl,[],h,_=>by
  simp only [groP,Bool.and_eq_true] at h
  refine ⟨rfl,groP_ok g (fl:=fl) h.2 ?_⟩
  cases fl <;> trivial
 | .gro _ _ :: g,f :: fl,a :: l,h,k=>by
  simp only [groP,Bool.and_eq_true] at h
  exact ⟨k.1 h.1,groP_ok g h.2 k.2⟩
 | .row n :: g,fl,l,h,k=>groP_ok g (show groP g (dropN n fl)=true from h) (k.drop n)
 | .map :: g,fl,l,h,k=>by
  have:=groP_ok g (show groP g (dropN 1 fl)=true from h) (k.drop 1)
  rw [List.drop_one] at this
  exact this
 | .sit :: g,fl,l,h,k=>by
  have:=groP_ok g (show groP g (dropN 2 fl)=true from h) (k.drop 2)
  have e:l.drop 2=l.tail.tail:=by cases l with
   | nil=>rfl
   | cons a l=>cases l <;> rfl
  rw [e] at this
  exact this
 | .fam _ _ :: g,fl,l,h,k=>by
  have:=groP_ok g (show groP g (dropN 1 fl)=true from h) (k.drop 1)
  rw [List.drop_one] at this
  exact this
 | .mit _ :: g,fl,l,h,k=>by
  have:=groP_ok g (show groP g (dropN 2 fl)=true from h) (k.drop 2)
  have e:l.drop 2=l.tail.tail:=by cases l with
   | nil=>rfl
   | cons a l=>cases l <;> rfl
  rw [e] at this
  exact this
 | .mapF :: g,[],_,h,_=>by cases h
 | .mapF :: g,f :: fl,[],h,_=>by
  simp only [groP,Bool.and_eq_true] at h
  refine ⟨rfl,groP_ok g (fl:=fl) h.2 ?_⟩
  cases fl <;> trivial
 | .mapF :: g,f :: fl,a :: l,h,k=>by
  simp only [groP,Bool.and_eq_true] at h
  exact ⟨k.1 h.1,groP_ok g h.2 k.2⟩
 | .tok _ _ _ :: g,fl,l,h,k=>groP_ok g (show groP g fl=true from h) k
 | .dead :: g,fl,l,h,k=>groP_ok g (show groP g fl=true from h) k
 | .lp _ :: g,fl,l,h,k=>groP_ok g (show groP g fl=true from h) k
 | .keep :: g,fl,l,h,k=>groP_ok g (show groP g fl=true from h) k
theorem underL_map {n:Nat} {α:Type} {g:α→AV} (hg:∀ x,(g x).under n=true):∀ xs:List α,underL n (xs.map g)=true
 | []=>rfl
 | x :: xs=>by simp only [List.map_cons,underL,hg x,underL_map hg xs,Bool.and_self]
theorem closedL_map {α:Type} {g:α→AV} (hg:∀ x,(g x).closed=true):∀ xs:List α,closedL (xs.map g)=true
 | []=>rfl
 | x :: xs=>by simp only [List.map_cons,closedL,hg x,closedL_map hg xs,Bool.and_self]
theorem Pats.flags_ok (n:Nat) (L:Nat→Nat):∀ (ps:Pats) (x:ps.T),FlagOk n (ps.flags n) (ps.encL L x)
 | .nil,_=>trivial
 | .cons p .nil,x=>⟨fun h=>flag1 L p x h,trivial⟩
 | .cons p (.cons q ps),x=>⟨fun h=>flag1 L p x.1 h,(Pats.cons q ps).flags_ok n L x.2⟩
where
 flag1 (L:Nat→Nat):∀ (p:Pat) (x:p.T),p.lcl n=true→underL n (p.encL L x).listD=true
  | .list _ p,x,h=>underL_map (fun y=>p.enc_under y h) _
  | .int _,_,h=>by cases h
  | .bool,_,h=>by cases h
  | .str,_,h=>by cases h
  | .agg _,_,h=>by cases h
  | .tup _,_,h=>by cases h
  | .own _ _ _,_,h=>by cases h
  | .fam _ _ _,_,h=>by cases h
  | .cst _,_,h=>by cases h
  | .two _ _,_,h=>by cases h
def GOk (n:Nat):GO→GO→Prop
 | .row cs el,.row cs' el'=>el'=el∧WeakL cs cs'∧underL n cs'=true
 | .tok f sz e,.tok f' sz' e'=>f=f'∧sz=sz'∧e=e'
 | .defers a,.defers b=>a=b
 | .map es,.map es'=>(es'=es∧allX es=true)∨∃ l,es'=entriesL l∧DecL (mcells es) l∧underL n l=true
 | .fam fs sz e,.fam fs' sz' e'=>fs=fs'∧sz=sz'∧e=e'
 | .mit mid m left _ t,.mit mid' m' left' cur t'=>mid=mid'∧m=m'∧left=left'∧t=t'∧mid < n∧cur=none
 | .siter l p,.siter l' p'=>l'=l∧p'=p
 | .gro es sz e,.gro es' sz' e'=>sz'=sz∧e'=e∧DecL es es'∧underL n es'=true
 | _,.dead=>True
 | _,_=>False
def LOk:GO→GO→GO→Prop
 | .loop _ _ fn sl n ps asn bd d _,.loop b p _ _ _ _ _ _ _ dn,go=>go=.loop b p fn sl n ps asn bd d dn
 | _,_,_=>False
theorem keepIs_ok {n:Nat} {o o':GO} (h:keepIs o o'=true):GOk n o' o:=by
 cases o with
 | tok f sz e=>
  cases o' with
  | tok f' sz' e'=>
   simp only [keepIs,Bool.and_eq_true] at h
   exact ⟨of_decide_eq_true h.1,Nat.eq_of_beq_eq_true h.2.1,Nat.eq_of_beq_eq_true h.2.2⟩
  | _=>cases h
 | defers a=>
  cases o' with
  | defers b=>cases a <;> cases b <;> first | rfl | cases h
  | _=>cases h
 | dead=>cases o' <;> trivial
 | _=>cases h
theorem lpIs_ok {k:LPK} {o o':GO} (h:lpIs k o o'=true):LOk o o' (lpPut k o):=by
 cases o with
 | loop b p fn sl n ps asn bd d dn=>
  cases o' with
  | loop b' p' fn' sl' n' ps' asn' bd' d' dn'=>
   obtain ⟨rfl,rfl,rfl⟩:=LPK.is_eq (show k.is b' p' dn'=true from h)
   rfl
  | _=>cases h
 | _=>cases h
theorem entries_listD (a:AV):a.entries=entriesL a.listD:=by cases a <;> rfl
theorem getG_ok {n:Nat} {vs:List AV}:∀ {g:List GL} {B G:List GO} {l l':List AV},getG g G=some l→WeakL l l'→ExL l l'→GroC n g l'∧mitP n g=true→underL n l'=true→toksOk vs g B G=true →
  ∀ id go,nth (putG vs g B l') id=some go→∃ go',nth G id=some go'∧(GOk n go' go∨∃ go0,nth B id=some go0∧LOk go0 go' go)
 | [],B,G,l,l',_,_,_,_,_,_,id,go,h=>by simp [putG,nth] at h
 | x :: g,[],G,l,l',_,_,_,_,_,ht,_,_,_=>by cases x <;> cases G <;> cases ht
 | x :: g,_ :: _,[],l,l',_,_,_,_,_,ht,_,_,_=>by cases x <;> cases ht
 | .row m :: g,b :: B,o :: G,l,l',hg,hw,hx,hgc,hu,ht,id,go,h=>by
   obtain ⟨hty,ht'⟩:rowTy b o=true∧toksOk vs g B G=true:=by
    rw [← Bool.and_eq_true]
    cases o <;> exact ht
   cases o with
   | row cs el=>
    have hel:elOf b=el:=by
     cases b <;> first | (cases hty; done) | exact Nat.eq_of_beq_eq_true hty
    change (match getG g G with
     | some r=>bif Nat.beq cs.length m then some (cs++r) else none
     | none=>none)=some l at hg
    split at hg
    ·rename_i r hr
     cases hm:Nat.beq cs.length m with
     | false=>rw [hm] at hg; cases hg
     | true=>
      rw [hm] at hg
      cases hg
      have hm:=Nat.eq_of_beq_eq_true hm
      obtain ⟨x,y,rfl,k1,k2,k3⟩:=hw.split
      rw [underL_append,Bool.and_eq_true] at hu
      have e1:(x++y).take m=x:=by rw [← hm,← k3,List.take_left]
      have e2:(x++y).drop m=y:=by rw [← hm,← k3,List.drop_left]
      simp only [putG,e1,e2] at h
      cases id with
      | zero=>simp only [nth] at h; cases h; exact ⟨.row cs el,rfl,.inl ⟨hel,k1,hu.1⟩⟩
      | succ id=>exact getG_ok hr k2 (by obtain ⟨x',y',e1',k1',k2',k3'⟩:=hx.split; have:=List.append_inj e1' (by rw [k3,k3']); rw [this.2]; exact k2') (by rw [← e2]; exact hgc) hu.2 ht' id go h
    ·cases hg
   | _=>cases hg
 | .tok loc sz e :: g,b :: B,o :: G,l,l',hg,hw,hx,hgc,hu,ht,id,go,h=>by
   cases o with
   | tok f sz' e'=>
    change (bif Nat.beq sz sz'&&Nat.beq e e' then getG g G else none)=some l at hg
    change (decide (f=lenAt vs loc)&&toksOk vs g B G)=true at ht
    rw [Bool.and_eq_true] at ht
    cases hm:(Nat.beq sz sz'&&Nat.beq e e') with
    | false=>rw [hm] at hg; cases hg
    | true=>
     rw [hm] at hg
     rw [Bool.and_eq_true] at hm
     have q1:=Nat.eq_of_beq_eq_true hm.1
     have q2:=Nat.eq_of_beq_eq_true hm.2
     simp only [putG] at h
     cases id with
     | zero=>
      simp only [nth] at h
      cases h
      exact ⟨.tok f sz' e',rfl,.inl ⟨of_decide_eq_true ht.1,q1.symm,q2.symm⟩⟩
     | succ id=>exact getG_ok hg hw hx hgc hu ht.2 id go h
   | _=>cases hg
 | .dead :: g,b :: B,o :: G,l,l',hg,hw,hx,hgc,hu,ht,id,go,h=>by
   simp only [putG] at h
   have hg':getG g G=some l:=by cases o <;> exact hg
   have ht':toksOk vs g B G=true:=by cases o <;> exact ht
   cases id with
   | zero=>
    simp only [nth] at h
    cases h
    exact ⟨o,rfl,.inl (by cases o <;> trivial)⟩
   | succ id=>exact getG_ok hg' hw hx hgc hu ht' id go h
 | .lp k :: g,b :: B,o :: G,l,l',hg,hw,hx,hgc,hu,ht,id,go,h=>by
   simp only [putG] at h
   have hg':getG g G=some l:=by cases o <;> exact hg
   change (lpIs k b o&&toksOk vs g B G)=true at ht
   rw [Bool.and_eq_true] at ht
   cases id with
   | zero=>
    simp only [nth] at h
    cases h
    exact ⟨o,rfl,.inr ⟨b,rfl,lpIs_ok ht.1⟩⟩
   | succ id=>exact getG_ok hg' hw hx hgc hu ht.2 id go h
 | .keep :: g,b :: B,o :: G,l,l',hg,hw,hx,hgc,hu,ht,id,go,h=>by
   simp only [putG] at h
   have hg':getG g G=some l:=by cases o <;> exact hg
   change (keepIs b o&&toksOk vs g B G)=true at ht
   rw [Bool.and_eq_true] at ht
   cases id with
   | zero=>
    simp only [nth] at h
    cases h
    exact ⟨o,rfl,.inl (keepIs_ok ht.1)⟩
   | succ id=>exact getG_ok hg' hw hx hgc hu ht.2 id go h
 | .map :: g,b :: B,o :: G,l,l',hg,hw,hx,hgc,hu,ht,id,go,h=>by
   cases o with
   | map es=>
    change (match getG g G with
     | some r=>some (AV.list .opn 2 (mcells es) :: r)
     | none=>none)=some l at hg
    change (allX es&&toksOk vs g B G)=true at ht
    rw [Bool.and_eq_true] at ht
    split at hg
    ·rename_i r hr
     cases hg
     cases l' with
     | nil=>exact hw.elim
     | cons a l'=>
      simp only [underL,Bool.and_eq_true] at hu
      simp only [putG,headA,List.tail_cons] at h
      cases id with
      | zero=>
       simp only [nth] at h
       cases h
       refine ⟨.map es,rfl,.inl (.inl ⟨?_,ht.1⟩)⟩
       rw [entries_listD,hx.2.1 ht.1]
       exact entriesL_mcells es
      | succ id=>exact getG_ok hr hw.2 hx.2.2.2 hgc hu.2 ht.2 id go h
    ·cases hg
   | _=>cases hg
 | .sit :: g,b :: B,o :: G,l,l',hg,hw,hx,hgc,hu,ht,id,go,h=>by
   have ht':toksOk vs g B G=true:=by cases o <;> exact ht
   cases o with
   | siter s pos=>
    change (match getG g G with
     | some r=>some (AV.str s :: AV.int .i64 pos :: r)
     | none=>none)=some l at hg
    split at hg
    ·rename_i r hr
     cases hg
     match l',hw,hx,hu,h with
     | [],hw,_,_,_=>exact hw.elim
     | [_],hw,_,_,_=>exact hw.2.elim
     | a :: a' :: l',hw,hx,hu,h=>
      simp only [underL,Bool.and_eq_true] at hu
      simp only [putG,headA,List.tail_cons] at h
      have e1:=hx.1 (by simp [AV.exact])
      have e2:=hx.2.2.2.1 (by simp [AV.exact])
      subst e1 e2
      cases id with
      | zero=>
       simp only [nth] at h
       cases h
       exact ⟨.siter s pos,rfl,.inl ⟨rfl,by simp [AV.intD]⟩⟩
      | succ id=>exact getG_ok hr hw.2.2 hx.2.2.2.2.2.2 hgc hu.2.2 ht' id go h
    ·cases hg
   | _=>cases hg
 | .gro sz e :: g,b :: B,o :: G,l,l',hg,hw,hx,hgc,hu,ht,id,go,h=>by
   have ht':toksOk vs g B G=true:=by cases o <;> exact ht
   cases o with
   | gro es sz' e'=>
    change (match getG g G with
     | some r=>bif Nat.beq sz sz'&&Nat.beq e e' then some (AV.list .opn sz' es :: r) else none
     | none=>none)=some l at hg
    split at hg
    ·rename_i r hr
     cases hm:(Nat.beq sz sz'&&Nat.beq e e') with
     | false=>rw [hm] at hg; cases hg
     | true=>
     rw [hm] at hg
     rw [Bool.and_eq_true] at hm
     have q1:=Nat.eq_of_beq_eq_true hm.1
     have q2:=Nat.eq_of_beq_eq_true hm.2
     cases hg
     cases l' with
     | nil=>exact hw.elim
     | cons a l'=>
      simp only [underL,Bool.and_eq_true] at hu
      simp only [putG,headA,List.tail_cons] at h
      cases id with
      | zero=>
       simp only [nth] at h
       cases h
       exact ⟨.gro es sz' e',rfl,.inl ⟨q1,q2,hx.2.2.1,hgc.1.1⟩⟩
      | succ id=>exact getG_ok hr hw.2 hx.2.2.2 ⟨hgc.1.2,hgc.2⟩ hu.2 ht' id go h
    ·cases hg
   | _=>cases hg
 | .fam sz e :: g,b :: B,o :: G,l,l',hg,hw,hx,hgc,hu,ht,id,go,h=>by
   have ht':toksOk vs g B G=true:=by cases o <;> exact ht
   cases o with
   | fam fs sz' e'=>
    change (match getG g G with
     | some r=>bif Nat.beq sz sz'&&Nat.beq e e' then some (AV.list .opn 1 (famL fs) :: r) else none
     | none=>none)=some l at hg
    split at hg
    ·rename_i r hr
     cases hm:(Nat.beq sz sz'&&Nat.beq e e') with
     | false=>rw [hm] at hg; cases hg
     | true=>
     rw [hm] at hg
     rw [Bool.and_eq_true] at hm
     have q1:=Nat.eq_of_beq_eq_true hm.1
     have q2:=Nat.eq_of_beq_eq_true hm.2
     cases hg
     cases l' with
     | nil=>exact hw.elim
     | cons a l'=>
      simp only [underL,Bool.and_eq_true] at hu
      simp only [putG,headA,List.tail_cons] at h
      cases id with
      | zero=>
       simp only [nth] at h
       cases h
       refine ⟨.fam fs sz' e',rfl,.inl ⟨?_,q1.symm,q2.symm⟩⟩
       rw [hx.2.1 (exact_famL fs)]
       exact (unfamL_famL fs).symm
      | succ id=>exact getG_ok hr hw.2 hx.2.2.2 hgc hu.2 ht' id go h
    ·cases hg
   | _=>cases hg
 | .mapF :: g,b :: B,o :: G,l,l',hg,hw,hx,hgc,hu,ht,id,go,h=>by
   have ht':toksOk vs g B G=true:=by cases o <;> exact ht
   cases o with
   | map es=>
    change (match getG g G with
     | some r=>some (AV.list .opn 2 (mcells es) :: r)
     | none=>none)=some l at hg
    split at hg
    ·rename_i r hr
     cases hg
     cases l' with
     | nil=>exact hw.elim
     | cons a l'=>
      simp only [underL,Bool.and_eq_true] at hu
      simp only [putG,headA,List.tail_cons] at h
      cases id with
      | zero=>
       simp only [nth] at h
       cases h
       exact ⟨.map es,rfl,.inl (.inr ⟨a.listD,entries_listD a,hx.2.2.1,hgc.1.1⟩)⟩
      | succ id=>exact getG_ok hr hw.2 hx.2.2.2 ⟨hgc.1.2,hgc.2⟩ hu.2 ht' id go h
    ·cases hg
   | _=>cases hg
 | .mit mid :: g,b :: B,o :: G,l,l',hg,hw,hx,hgc,hu,ht,id,go,h=>by
   obtain ⟨hty,ht'⟩:mitTy b o=true∧toksOk vs g B G=true:=by
    rw [← Bool.and_eq_true]
    cases o <;> exact ht
   cases o with
   | mit mid' k left cur t=>
    have hel:mitT b=t:=by
     cases b <;> first | (cases hty; done) | exact Nat.eq_of_beq_eq_true hty
    change (match getG g G with
     | some r=>bif Nat.beq mid mid' then some (AV.int .i64 k :: AV.list .opn 1 (famL left) :: r) else none
     | none=>none)=some l at hg
    split at hg
    ·rename_i r hr
     cases hm:Nat.beq mid mid' with
     | false=>rw [hm] at hg; cases hg
     | true=>
     rw [hm] at hg
     have q1:=Nat.eq_of_beq_eq_true hm
     subst q1
     cases hg
     have hmp:=hgc.2
     simp only [mitP,Bool.and_eq_true] at hmp
     match l',hw,hx,hu,h with
     | [],hw,_,_,_=>exact hw.elim
     | [_],hw,_,_,_=>exact hw.2.elim
     | a :: a' :: l',hw,hx,hu,h=>
      simp only [underL,Bool.and_eq_true] at hu
      simp only [putG,headA,List.tail_cons] at h
      have e1:=hx.1 (by simp [AV.exact])
      have e2:=hx.2.2.2.2.1 (exact_famL left)
      subst e1
      cases id with
      | zero=>
       simp only [nth] at h
       cases h
       refine ⟨.mit mid k left cur t,rfl,.inl ⟨rfl,by simp [AV.intD],?_,hel.symm,blt_lt hmp.1,rfl⟩⟩
       rw [e2]
       exact (unfamL_famL left).symm
      | succ id=>exact getG_ok hr hw.2.2 hx.2.2.2.2.2.2 ⟨hgc.1,hmp.2⟩ hu.2.2 ht' id go h
    ·cases hg
   | _=>cases hg
theorem length_putG {vs:List AV}:∀ {g:List GL} {B:List GO} {l:List AV},(putG vs g B l).length=g.length
 | [],_,_=>rfl
 | .row m :: g,B,l=>by simp [putG,length_putG (g:=g)]
 | .tok _ _ _ :: g,B,l=>by simp [putG,length_putG (g:=g)]
 | .dead :: g,B,l=>by simp [putG,length_putG (g:=g)]
 | .lp _ :: g,B,l=>by simp [putG,length_putG (g:=g)]
 | .keep :: g,B,l=>by simp [putG,length_putG (g:=g)]
 | .map :: g,B,l=>by simp [putG,length_putG (g:=g)]
 | .gro _ _ :: g,B,l=>by simp [putG,length_putG (g:=g)]
 | .sit :: g,B,l=>by simp [putG,length_putG (g:=g)]
 | .fam _ _ :: g,B,l=>by simp [putG,length_putG (g:=g)]
 | .mapF :: g,B,l=>by simp [putG,length_putG (g:=g)]
 | .mit _ :: g,B,l=>by simp [putG,length_putG (g:=g)]
theorem RepO.lok {R0:Realm} {w0:World} {ro0:RO} {go0 go' go:GO} {ro:RO} (e:Ext R0 w0 R w) (h0:RepO R0 w0 go0 ro0) (hle:RoLe ro0 ro) (h:RepO R' w go' ro) (k:LOk go0 go' go):RepO R w go ro:=by
 cases go0 with
 | loop b p fn sl n ps asn bd d dn=>
  cases go' with
  | loop b' p' fn' sl' n' ps' asn' bd' d' dn'=>
   change go=_ at k
   subst k
   cases ro0 with
   | blk bb=>
    simp only [RoLe] at hle
    subst hle
    obtain ⟨⟨r0,db0,l1,l2,l3,l4,l5,l6,l7,l8,l9,l10⟩,l11⟩:=h0
    obtain ⟨⟨r,db,m1,m2,m3,m4,m5,m6,m7,m8,m9,m10⟩,m11⟩:=h
    obtain ⟨r1,q1,q2,q3,q4,q5,q6⟩:=e.lp bb r0 l1
    have hr:r1=r:=by
     have:=q1.symm.trans m1
     injection this with this
     injection this with this
    subst hr
    exact ⟨⟨r1,db0,q1,m2,m3,by rw [q2]; exact RelT.mono e l4,by rw [q2]; exact l5,by rw [q3]; exact l6,by rw [q4]; exact l7,by rw [q5]; exact l8,by rw [q6]; exact l9,e.blk l10⟩,l11⟩
   | none=>exact h0.elim
   | nil0=>exact h0.elim
   | tok _ _ _=>exact h0.elim
   | fam _=>exact h0.elim
  | _=>exact k.elim
 | _=>exact k.elim
theorem RelM.cut {n:Nat}:∀ {es:List (AV × AV)} {ents:List MapEntry},exactL (mcells es)=true→RelM R w es ents→RelM (R.cut n) w es ents
 | [],[],_,_=>trivial
 | [],_ :: _,_,h=>h.elim
 | _ :: _,[],_,h=>h.elim
 | (k,v) :: es,en :: ents,he,h=>by
  simp only [mcells,exactL,AV.exact,Bool.and_true,Bool.and_eq_true] at he
  exact ⟨h.1.move (cut_mv R n) (closed_under n (exact_closed he.1.1)),h.2.1.move (cut_mv R n) (closed_under n (exact_closed he.1.2)),RelM.cut he.2 h.2.2⟩
theorem under_cells {n:Nat} {v:AV} (h:v.under n=true) (k:v.notTup=true):underL n v.cells=true:=by
 cases v <;> first | exact h | (simp [AV.notTup] at k; done) | (simp only [AV.cells,underL,Bool.and_true]; exact h)
theorem decL_cells {n sz:Nat}:∀ {es es':List AV},DecL es es'→ElOkG sz es→underL n es'=true→ElOkG sz es'∧WeakL (cellsL es) (cellsL es')∧underL n (cellsL es')=true
 | [],[],_,_,_=>⟨(fun e he=>by simp at he),trivial,rfl⟩
 | e :: es,e' :: es',h,k,hc'=>by
  obtain ⟨h1,h2⟩:=h
  simp only [underL,Bool.and_eq_true] at hc'
  obtain ⟨q1,q2⟩:=k e (by simp)
  obtain ⟨i1,i2,i3⟩:=decL_cells h2 (fun x hx=>k x (by simp [hx])) hc'.2
  have hc:=h1.cells q2
  have ht:e'.notTup=true:=by rw [h1.tup,q2]
  refine ⟨fun x hx=>?_,hc.append i2,by show underL n (e'.cells++cellsL es')=true; rw [underL_append,under_cells hc'.1 ht,i3]; rfl⟩
  rcases List.mem_cons.1 hx with rfl | hx
  ·exact ⟨by rw [← hc.length,q1],ht⟩
  ·exact i1 x hx
 | [],_ :: _,h,_,_=>h.elim
 | _ :: _,[],h,_,_=>h.elim
theorem LenE.head {l r:List AV} (h:LenE l r):(AV.listD (headA l)).length=(AV.listD (headA r)).length:=by
 cases l <;> cases r <;> first | rfl | exact h.1 | exact h.elim
theorem LenE.tail {l r:List AV} (h:LenE l r):LenE l.tail r.tail:=by
 cases l <;> cases r <;> first | exact h | exact h.2 | exact h.elim
theorem lensV_congr:∀ (g:List GL) {l r:List AV} (i:Nat),LenE l r→lensV g l i=lensV g r i
 | [],_,_,_,_=>rfl
 | .gro _ _ :: g,l,r,0,h=>h.head
 | .gro _ _ :: g,l,r,i+1,h=>lensV_congr g i h.tail
 | .row _ :: g,l,r,0,h=>rfl
 | .row n :: g,l,r,i+1,h=>lensV_congr g i (h.drop n)
 | .map :: g,l,r,0,h=>rfl
 | .map :: g,l,r,i+1,h=>lensV_congr g i h.tail
 | .sit :: g,l,r,0,h=>rfl
 | .sit :: g,l,r,i+1,h=>lensV_congr g i h.tail.tail
 | .fam _ _ :: g,l,r,0,h=>rfl
 | .fam _ _ :: g,l,r,i+1,h=>lensV_congr g i h.tail
 | .mapF :: g,l,r,0,h=>rfl
 | .mapF :: g,l,r,i+1,h=>lensV_congr g i h.tail
 | .mit _ :: g,l,r,0,h=>rfl
 | .mit _ :: g,l,r,i+1,h=>lensV_congr g i h.tail.tail
 | .tok _ _ _ :: g,l,r,0,h=>rfl
 | .tok _ _ _ :: g,l,r,i+1,h=>lensV_congr g i h
 | .dead :: g,l,r,0,h=>rfl
 | .dead :: g,l,r,i+1,h=>lensV_congr g i h
 | .lp _ :: g,l,r,0,h=>rfl
 | .lp _ :: g,l,r,i+1,h=>lensV_congr g i h
 | .keep :: g,l,r,0,h=>rfl
 | .keep :: g,l,r,i+1,h=>lensV_congr g i h
theorem RelM.cutF {n:Nat}:∀ {es:List (AV × AV)} {l:List AV} {ents:List MapEntry},DecL (mcells es) l→underL n l=true→RelM R w es ents→RelM (R.cut n) w (entriesL l) ents
 | [],[],[],_,_,_=>trivial
 | [],[],_ :: _,_,_,h=>h.elim
 | [],_ :: _,_,h,_,_=>h.elim
 | (_,_) :: _,[],_,h,_,_=>h.elim
 | (_,_) :: _,_ :: _,[],_,_,h=>h.elim
 | (k,v) :: es,a :: l,en :: ents,hd,hu,h=>by
  obtain ⟨d1,d2⟩:=hd
  simp only [underL,Bool.and_eq_true] at hu
  have hc:=d1.cells rfl
  have hl:[k,v].length=a.cells.length:=hc.length
  cases a with
  | agg cs=>
   match cs,hc,hl with
   | [k',v'],hc,_=>
    have hua:underL n [k',v']=true:=hu.1
    simp only [underL,Bool.and_true,Bool.and_eq_true] at hua
    exact ⟨(hc.1 _ _ _ h.1).move (cut_mv R n) hua.1,(hc.2.1 _ _ _ h.2.1).move (cut_mv R n) hua.2,RelM.cutF d2 hu.2 h.2.2⟩
   | [],_,hl=>simp [AV.cells] at hl
   | [_],_,hl=>simp [AV.cells] at hl
   | _ :: _ :: _ :: _,_,hl=>simp [AV.cells] at hl
  | _=>simp [AV.cells] at hl
theorem RepO.gok {n:Nat} {go go':GO} {ro:RO} (h:RepO R w go' ro) (k:GOk n go' go):RepO (R.cut n) w go ro:=by
 cases go with
 | dead=>
  cases ro with
  | none=>trivial
  | nil0=>trivial
  | blk b=>exact h.lt rfl
  | tok f b c=>exact h.lt rfl
  | fam ts=>exact fun j f b c hj=>h.lt ⟨j,f,c,hj⟩
 | row cs el=>
  cases go' with
  | row cs' el'=>
   cases ro with
   | blk b=>
    obtain ⟨vs,h1,h2,h3,h4⟩:=h
    obtain ⟨rfl,k⟩:=k
    exact ⟨vs,h1,(k.1.rel h2).move (cut_mv R n) k.2,h3,h4⟩
   | none=>exact h.elim
   | nil0=>exact h.elim
   | tok _ _ _=>exact h.elim
   | fam _=>exact h.elim
  | _=>exact k.elim
 | tok f sz e=>
  cases go' with
  | tok f' sz' e'=>
   obtain ⟨rfl,rfl,rfl⟩:=k
   cases ro with
   | blk b=>exact h.elim
   | none=>exact h.elim
   | nil0=>exact h
   | tok _ _ _=>exact h
   | fam _=>exact h.elim
  | _=>exact k.elim
 | defers a=>
  cases go' with
  | defers b=>
   change b=a at k
   subst k
   cases ro <;> exact h
  | _=>exact k.elim
 | map es=>
  cases go' with
  | map es'=>
   cases ro with
   | blk b=>
    obtain ⟨ents,clock,h1,h2,h3⟩:=h
    rcases k with ⟨rfl,k2⟩ | ⟨l,rfl,k2,k3⟩
    ·exact ⟨ents,clock,h1,RelM.cut k2 h2,h3⟩
    ·exact ⟨ents,clock,h1,RelM.cutF k2 k3 h2,h3⟩
   | none=>exact h.elim
   | nil0=>exact h.elim
   | tok _ _ _=>exact h.elim
   | fam _=>exact h.elim
  | _=>exact k.elim
 | fam fs sz e=>
  cases go' with
  | fam fs' sz' e'=>
   obtain ⟨rfl,rfl,rfl⟩:=k
   cases ro <;> exact h
  | _=>exact k.elim
 | mit mid m left cur t=>
  cases go' with
  | mit mid' m' left' cur' t'=>
   obtain ⟨rfl,rfl,rfl,rfl,k,rfl⟩:=k
   cases ro with
   | blk b=>obtain ⟨bm,seen,c0,h1,h2,h3,h4,h5,h6,_⟩:=h; exact ⟨bm,seen,c0,cut_nth.2 ⟨k,h1⟩,h2,h3,h4,h5,h6,fun i hi=>by cases hi⟩
   | none=>exact h.elim
   | nil0=>exact h.elim
   | tok _ _ _=>exact h.elim
   | fam _=>exact h.elim
  | _=>exact k.elim
 | siter l p=>
  cases go' with
  | siter l' p'=>
   obtain ⟨rfl,rfl⟩:=k
   cases ro <;> exact h
  | _=>exact k.elim
 | gro es sz e=>
  cases go' with
  | gro es' sz' e'=>
   obtain ⟨rfl,rfl,k,kc⟩:=k
   cases ro with
   | blk b=>exact h.elim
   | none=>exact h.elim
   | fam _=>exact h.elim
   | nil0=>
    have he:es'=[]:=h
    subst he
    exact List.eq_nil_of_length_eq_zero k.length.symm
   | tok f b c=>
    obtain ⟨h0,h1,cur,vs,h2,h3,h4,h5,h6,h7,h8,h9⟩:=h
    obtain ⟨k1,k2,k3⟩:=decL_cells k h1 kc
    exact ⟨h0.trans k.length,k1,cur,vs,h2,h3,h4,h5,h6,(k2.rel h7).move (cut_mv R n) k3,h8,h9⟩
  | _=>exact k.elim
 | _=>cases go' <;> exact k.elim
theorem RelD.ids:∀ {l:List Nat} {ds:List Deferred},RelD R l ds→∀ id∈l,id < R.obj.length
 | [],[],_,id,hi=>by simp at hi
 | x :: l,d :: ds,h,id,hi=>by
  obtain ⟨⟨b,h1,_⟩,h2⟩:=h
  rcases List.mem_cons.1 hi with rfl | hi
  ·exact nth_lt h1
  ·exact RelD.ids h2 id hi
 | [],_ :: _,h,_,_=>h.elim
 | _ :: _,[],h,_,_=>h.elim
theorem RelD.cut {n:Nat}:∀ {l:List Nat} {ds:List Deferred},RelD R l ds→(∀ id∈l,id < n)→RelD (R.cut n) l ds
 | [],[],_,_=>trivial
 | x :: l,d :: ds,h,hi=>by
  obtain ⟨⟨b,h1,h3⟩,h2⟩:=h
  exact ⟨⟨b,cut_nth.2 ⟨hi x (by simp),h1⟩,h3⟩,RelD.cut h2 fun id hm=>hi id (by simp [hm])⟩
 | [],_ :: _,h,_=>h.elim
 | _ :: _,[],h,_=>h.elim
theorem relT_putLps {n:Nat} {tmps:Array Value} {slots base:Slots} (hT:RelT R w β slots tmps):∀ {l:List (Tmp × Nat × Nat)},lpsOk slots l=true→RelT (R.cut n) w β base tmps→RelT (R.cut n) w β (putLps l base) tmps
 | [],_,h=>h
 | (t,k,o) :: l,hl,h=>fun i hi=>by
  simp only [lpsOk,Bool.and_eq_true] at hl
  simp only [putLps] at hi ⊢
  by_cases e:t=i
  ·subst e
   rw [lk_put_self]
   have h1:=hl.1
   split at h1
   ·rename_i k' o' hk
    rw [Bool.and_eq_true] at h1
    have e1:=Nat.eq_of_beq_eq_true h1.1
    have e2:=Nat.eq_of_beq_eq_true h1.2
    subst e1 e2
    obtain ⟨c,q1,q2⟩:=hT t (by rw [hk]; simp)
    rw [hk] at q2
    exact ⟨c,q1,q2⟩
   ·cases h1
  ·rw [lk_put_ne e] at hi ⊢
   exact relT_putLps hT hl.2 h i hi
theorem Tmpl.rep {t:Tmpl} {v:t.ps.T} (hs:Ext0 s s') (h0:Rep E R w β s a) (h:Rep E R' w' β' s' a') (st:Step R w β s.boxes R' w' β' s'.boxes) (hd:t.dec s s'=some v) :
  Rep E (R'.cut s.G.length) w' β' (t.st s v) a'∧Step R w β s.boxes (R'.cut s.G.length) w' β' (t.st s v).boxes:=by
 have hlen:=h0.g.len
 unfold Tmpl.dec at hd
 cases hok:t.ok s s' with
 | false=>rw [hok] at hd; cases hd
 | true=>
 rw [hok] at hd
 simp only [cond_true] at hd
 unfold Tmpl.ok at hok
 simp only [Bool.and_eq_true] at hok
 obtain ⟨⟨⟨⟨⟨k1,k2⟩,k3⟩,k4⟩,k5,k7,k8⟩,k6⟩:=hok
 obtain ⟨pre,hpre⟩:=hs.sl
 obtain ⟨preB,hpreB⟩:=hs.bx
 rw [hpre,take_pre] at k1
 rw [hpreB,take_pre] at k2
 have k3:=eqNL_eq k3
 have k4:=Nat.eq_of_beq_eq_true k4
 split at hd
 ·rename_i la lb lc g1 g2 g3
  cases hv:t.ps.decL (lensV t.g lc) (la++(lb++lc)) with
  | none=>rw [hv] at hd; cases hd
  | some v'=>
  rw [hv] at hd
  simp only [Option.bind_some] at hd
  cases htk:toksOk (t.vals v') t.g s.G s'.G with
  | false=>rw [htk] at hd; cases hd
  | true=>
  rw [htk] at hd
  cases hd
  have lsl:∀ {ts:List Tmp} {l:List AV},getSl s'.slots ts=some l→l.length=ts.length:=by
   intro ts
   induction ts with
   | nil=>intro l hl; simp only [getSl] at hl; cases hl; rfl
   | cons t ts ih=>
    intro l hl
    unfold getSl at hl
    split at hl
    ·split at hl
     ·rename_i hr
      cases hl
      simp [ih hr]
     ·cases hl
    ·cases hl
  have lbx:∀ {bx:List (Nat × Nat)} {l:List AV},getBx s'.boxes bx=some l→l.length=sumB bx:=by
   intro bx
   induction bx with
   | nil=>intro l hl; simp only [getBx] at hl; cases hl; rfl
   | cons x bx ih=>
    obtain ⟨k,m⟩:=x
    intro l hl
    unfold getBx at hl
    split at hl
    ·split at hl
     ·rename_i cs _ _ r hr
      cases hm:Nat.beq cs.length m with
      | false=>rw [hm] at hl; cases hl
      | true=>
       rw [hm] at hl
       cases hl
       simp only [sumB,List.length_append,ih hr,Nat.eq_of_beq_eq_true hm]
     ·cases hl
    ·cases hl
  obtain ⟨hw,hex⟩:=t.ps.decL_ok _ hv
  have hvals:t.vals v=t.ps.encL (lensV t.g lc) v:=by
   unfold Tmpl.vals
   congr 1
   funext i
   have hl:=hex.lenE.trans (t.ps.encL_len (lensV t.g lc) (fun _=>0) v)
   have hl2:=(hl.drop t.sl.length).drop (sumB t.bx)
   rw [← lsl g1,List.drop_left,← lbx g2,List.drop_left,lsl g1,lbx g2] at hl2
   exact (lensV_congr t.g i hl2).symm
  have hu:underL s.G.length (t.vals v)=true:=by
   rw [hvals,t.ps.decL_decD _ hv]
   exact t.ps.decL_under _ k5 _
  rw [← hvals] at hw hex
  have hvs:∃ xa xb xc,t.vals v=xa++(xb++xc)∧WeakL la xa∧WeakL lb xb∧WeakL lc xc∧xa.length=la.length∧xb.length=lb.length∧ExL lc xc:=by
   obtain ⟨xa,r,h1,h2,h3,h4⟩:=hw.split
   obtain ⟨xb,xc,rfl,h6,h7,h8⟩:=h3.split
   rw [h1] at hex
   obtain ⟨ya,yr,g1,_,g3,g4⟩:=hex.split
   obtain ⟨_,rfl⟩:=List.append_inj g1 (by rw [h4,g4])
   obtain ⟨yb,yc,k1,_,k3,k4⟩:=g3.split
   obtain ⟨_,rfl⟩:=List.append_inj k1 (by rw [h8,k4])
   exact ⟨xa,xb,xc,h1,h2,h6,h7,h4,h8,k3⟩
  obtain ⟨xa,xb,xc,hx,wa,wb,wc,la1,lb1,exc⟩:=hvs
  have hu':underL s.G.length xa=true∧underL s.G.length xb=true∧underL s.G.length xc=true:=by
   rw [hx,underL_append,underL_append] at hu
   simp only [Bool.and_eq_true] at hu
   exact ⟨hu.1,hu.2.1,hu.2.2⟩
  have e1:(t.vals v).drop t.sl.length=xb++xc:=by rw [hx,← lsl g1,← la1,List.drop_left]
  have e2:(xb++xc).drop (sumB t.bx)=xc:=by rw [← lbx g2,← lb1,List.drop_left]
  have hgc:GroC s.G.length t.g xc:=by
   have hf:=((Pats.flags_ok s.G.length _ t.ps v).drop t.sl.length).drop (sumB t.bx) (l:=(t.vals v).drop t.sl.length)
   rw [e1,e2] at hf
   exact groP_ok t.g k7 hf
  have old:∀ {l:List AV} {cs:List Value},RelL R w l cs→underL s.G.length l=true:=fun hr=>hr.under (by omega)
  have mv:=cut_mv R' s.G.length
  have hbx:∀ k cs,lkB s'.boxes k=some cs→BoxOk R' w' β' k cs:=fun k cs hk=>h.b.box k cs hk
  have bok:∀ k cs,lkB (putBx t.bx (xb++xc) s.boxes) k=some cs→BoxOk (R'.cut s.G.length) w' β' k cs∧∃ cs',lkB s'.boxes k=some cs':=fun k cs hk=>by
   refine putBx_ok (K:=fun _=>False) hbx g2 wb hu'.2.1 (fun k cs _ h1 h2=>?_) k cs (fun h=>h) hk
   refine ⟨by rw [hpreB]; exact lkB_keys h1 h2 k2,?_⟩
   obtain ⟨⟨vs,el,_,h4,_⟩,_⟩:=h0.b.box k cs h2
   exact old h4
  have stG:(t.st s v).G=putG (t.vals v) t.g s.G xc:=by simp only [Tmpl.st,e1,e2]
  have stB:(t.st s v).boxes=putBx t.bx (xb++xc) s.boxes:=by simp only [Tmpl.st,e1]
  have stS:(t.st s v).slots=putLps t.lps (putSl t.sl (xa++(xb++xc)) (putW t.W s.slots)):=by simp only [Tmpl.st,hx]
  have ext:Ext R w (R'.cut s.G.length) w':=⟨st.ext.I,st.ext.cell,fun id ro hi=>by
   obtain ⟨ro',h1,h2⟩:=st.ext.obj id ro hi
   exact ⟨ro',cut_nth.2 ⟨by have:=nth_lt hi; omega,h1⟩,h2⟩,st.ext.lp⟩
  refine ⟨⟨⟨?_,fun id go ro h1 h2=>?_,fun i j ri rj b h1 h2=>h.g.inj i j ri rj b (cut_nth.1 h1).2 (cut_nth.1 h2).2,h.g.wf,fun g cs hg=>(h.g.glob g cs hg).move mv (closedL_under _ (E.globOk g cs hg)),h.g.lo⟩,?_,?_,?_,?_⟩,?_⟩
  ·rw [stG,length_putG,k4]
   have:=h.g.len
   have h3:s.G.length≤R'.obj.length:=by
    rcases Nat.lt_or_ge R'.obj.length s.G.length with hlt | hge
    ·exfalso
     have hx:R'.obj.length < R.obj.length:=by omega
     obtain ⟨ro',h1,_⟩:=st.ext.obj R'.obj.length R.obj[R'.obj.length] (by rw [nth_eq]; exact List.getElem?_eq_getElem hx)
     have:=nth_lt h1
     omega
    ·exact hge
   simp [Realm.cut]
   omega
  ·rw [stG] at h1
   obtain ⟨go',h3,h4⟩:=getG_ok g3 wc exc ⟨hgc,k8⟩ hu'.2.2 htk id go h1
   rcases h4 with h4 | ⟨go0,h5,h4⟩
   ·exact (h.g.obj id go' ro h3 (cut_nth.1 h2).2).gok h4
   ·have hlt:=nth_lt h5
    rw [← hlen] at hlt
    obtain ⟨ro0,h6⟩:∃ ro0,nth R.obj id=some ro0:=⟨R.obj[id],by rw [nth_eq]; exact List.getElem?_eq_getElem hlt⟩
    obtain ⟨ro',h7,h8⟩:=ext.obj id ro0 h6
    have:ro'=ro:=Option.some.inj (h7.symm.trans h2)
    subst this
    exact RepO.lok ext (h0.g.obj id go0 ro0 h5 h6) h8 (h.g.obj id go' ro' h3 (cut_nth.1 h2).2) h4
  ·rw [stB]
   refine ⟨fun k cs hk=>(bok k cs hk).1,fun k k' cs cs' hk hk' he=>?_⟩
   obtain ⟨_,c1,hc1⟩:=bok k cs hk
   obtain ⟨_,c2,hc2⟩:=bok k' cs' hk'
   exact h.b.inj k k' c1 c2 hc1 hc2 he
  ·rw [stS]
   have hT:RelTK (R'.cut s.G.length) w' β' (fun _=>False) (putSl t.sl (xa++(xb++xc)) (putW t.W s.slots)) a'.tmps:=by
    refine relTK_putSl mv h.t g1 (l':=xa) (r:=lb++lc) (r':=xb++xc) (wa.append (wb.append wc)) la1.symm hu'.1 (relTK_putW fun i hi hn=>?_)
    have hi1:inK t.sl t.W i=false:=by
     simp only [inK,Bool.or_eq_false_iff]
     refine ⟨?_,?_⟩
     ·cases hc:inL t.sl i with
      | false=>rfl
      | true=>exact absurd (.inr (.inl (inL_mem.1 hc))) hi
     ·cases hc:inL t.W i with
      | false=>rfl
      | true=>exact absurd (.inl (inL_mem.1 hc)) hi
    have hk:=lk_keys hi1 k1
    rw [← hpre] at hk
    obtain ⟨c,h1,h2⟩:=h.t i (by rw [hk]; exact hn)
    rw [hk] at h2
    refine ⟨c,h1,?_⟩
    obtain ⟨c0,_,h4⟩:=h0.t i hn
    revert h2 h4
    cases lk s.slots i with
    | none=>exact fun _ _=>trivial
    | lp k off=>exact fun h2 _=>h2
    | v x=>exact fun h2 h4=>Rel.move mv (Rel.under (by omega) h4) h2
   exact relT_putLps h.t k6 (fun i hi=>hT i (fun h=>h) hi)
  ·show a'.tmps.size=s.n
   rw [h.n,hs.n]
  ·show RelD _ s.marks a'.defers
   have:=h.d
   rw [k3] at this
   exact this.cut fun id hid=>by have:=h0.d.ids id hid; omega
  ·refine ⟨ext,st.os,st.tape,st.output,st.size,st.keep,fun b hb ho=>st.own b hb ?_,st.im⟩
   rcases ho with ho | ⟨k,cs,hk,rfl⟩
   ·exact .inl (live_cut ho)
   ·rw [stB] at hk
    obtain ⟨_,c1,hc1⟩:=bok k cs hk
    exact .inr ⟨k,c1,hc1,rfl⟩
 ·cases hd
end rep
end Go.Am
namespace Go.Am
open Go
def dropLp:Slots→Slots
 | []=>[]
 | .put d (.lp _ _) :: l=>.put d .none :: dropLp l
 | .put d x :: l=>.put d x :: dropLp l
 | .kill _ :: l=>dropLp l
def SV.noLp:SV→SV
 | .lp _ _=>.none
 | x=>x
theorem lk_dropLp (t:Nat):∀ l:Slots,lk (dropLp l) t=(lk l t).noLp
 | []=>rfl
 | .put d x :: l=>by
  cases x <;> simp only [dropLp] <;> by_cases e:d=t <;> first | (subst e; rw [lk_put_self,lk_put_self]; rfl) | (rw [lk_put_ne e,lk_put_ne e]; exact lk_dropLp t l)
 | .kill d :: l=>by
  simp only [dropLp,lk]
  rw [lk_dropLp t l]
  cases lk l t with
  | lp k off=>
   by_cases e:k=d
   ·subst e; simp [SV.noLp]
   ·simp [beq_ne e,SV.noLp]
  | _=>rfl
theorem noLps_dropLp:∀ l:Slots,noLps (dropLp l)=true
 | []=>rfl
 | .put d x :: l=>by
  cases x <;> simp only [dropLp,noLps] <;> exact noLps_dropLp l
 | .kill d :: l=>by simp only [dropLp]; exact noLps_dropLp l
def rfQ (E:Env) (Q:Exit→St→Prop) (s:St) (G':List GO):Prop:=
 match nth G' (s.G.length+1) with
 | some (.loop busy pending _ _ _ _ _ _ _ done)=>(busy=false∨done=true) ∧
  match pending with
  | none=>Q .normal ⟨s.slots,s.boxes,setN G' (s.G.length+1) .dead,s.G.length :: s.marks,s.ro,s.n⟩
  | some c=>AWp E c Q ⟨s.slots,s.boxes,setN G' (s.G.length+1) .dead,s.G.length :: s.marks,s.ro,s.n⟩
 | _=>False
theorem loop_state {busy done:Bool} (h:busy=false∨done=true):(if done=true then LoopState.done else if busy=true then LoopState.busy else LoopState.ready)≠LoopState.busy:=by
 rcases h with rfl | rfl
 ·cases done <;> simp
 ·simp
theorem AWp.rangeFunc {E:Env} {Q:Exit→St→Prop} {s:St} (fp:Nat) {g:Operand} {ps:Array Tmp} {assign body:Code} (hro:s.ro=none) {f:FuncId} {first cap:List AV} (hg:evO E s.slots g=.v (.fn f first cap))
  (h:ACalls E f (first++[.yield (s.G.length+1)]++cap) (s.G++[.defers true]++[.loop false none fp (dropLp s.slots) s.n ps.toList assign body s.G.length false]) (fun _ G'=>rfQ E Q s G')) :
  AWp E (.rangeFunc g ps assign body) Q s:=fun R w β a F hr hf=>by
 rw [hro] at hf
 have hf':F=Fence.wide:=hf
 subst hf'
 refine wpIn_rangeFunc fun fn _=>?_
 have rg:=evO_rel hr g
 rw [hg] at rg
 have rg':Rel R w (.fn f first cap) (a.eval g):=rg
 -- the block for the deferred calls
 have hd1:RepO (R.add (.blk w.heap.size)) (w.alloc (.deferred (some []))) (.defers true) (.blk w.heap.size):=heap_alloc_new w _
 have h1:=hr.addObj (.deferred (some [])) (.defers true) (.blk w.heap.size) (by exact fun _ h=>h) hd1
 have s1:=step_addObj hr (.deferred (some [])) (.blk w.heap.size) (by exact fun _ h=>h)
 have hsz:(w.alloc (.deferred (some []))).heap.size=w.heap.size+1:=by simp
 generalize hw1:w.alloc (.deferred (some []))=w1 at *
 generalize hR1:R.add (.blk w.heap.size)=R1 at *
 -- the loop's record
 let rec_:Loop:={ state:=.ready,pending:=none,fn:=fn,tmps:=a.tmps,params:=ps,assign:=assign,body:=body,defers:=w.heap.size }
 have hid0:nth R1.obj s.G.length=some (.blk w.heap.size):=by rw [← hR1]; exact nth_new hr _
 have e2:Ext R1 w1 (R1.add (.blk w1.heap.size)) (w1.alloc (.loop rec_)):=ext_add h1.g.wf _ _
 have hd2:RepO (R1.add (.blk w1.heap.size)) (w1.alloc (.loop rec_)) (.loop false none fp (dropLp s.slots) s.n ps.toList assign body s.G.length false) (.blk w1.heap.size):=by
  refine ⟨⟨rec_,w.heap.size,heap_alloc_new w1 _,rfl,rfl,fun i hi=>?_,hr.n,by simp [rec_],rfl,rfl,rfl,e2.blk hid0⟩,noLps_dropLp _⟩
  rw [lk_dropLp] at hi ⊢
  have hne:lk s.slots i≠.none:=fun e=>hi (by rw [e]; rfl)
  obtain ⟨c,k1,k2⟩:=hr.t i hne
  refine ⟨c,k1,?_⟩
  cases hx:lk s.slots i with
  | none=>exact absurd hx hne
  | lp k off=>rw [hx] at hi; exact absurd rfl hi
  | v x=>
   rw [hx] at k2
   exact Rel.mono (s1.ext.trans e2) (show Rel R w x c from k2)
 have h2:=h1.addObj (.loop rec_) (.loop false none fp (dropLp s.slots) s.n ps.toList assign body s.G.length false) (.blk w1.heap.size) (by exact fun _ h=>h) hd2
 have s2:=step_addObj h1 (.loop rec_) (.blk w1.heap.size) (by exact fun _ h=>h)
 have hid1:nth (R1.add (.blk w1.heap.size)).obj (s.G.length+1)=some (.blk w1.heap.size):=by
  have:=nth_new h1 (.blk w1.heap.size)
  simpa [St.addG] using this
 have st:=s1.trans s2
 generalize hR2:R1.add (.blk w1.heap.size)=R2 at *
 generalize hfv:a.eval g=fv at rg'
 cases rg' with
 | @fn _ _ _ vs us q1 q2=>
 refine ⟨w.heap.size+1,[{ target:=.collected w.heap.size,args:=#[] }],w1.alloc (.loop rec_),{ target:=.fn (.func f) ⟨us⟩,args:=⟨vs⟩++#[.func (.yield (w.heap.size+1)) #[] #[]] },w1.alloc (.loop rec_),f,
  ⟨vs++[.func (.yield (w.heap.size+1)) #[] #[]]++us⟩,w1.alloc (.loop rec_),?_,?_,?_,?_,?_,?_⟩
 ·have:Fence.wide.round=none:=rfl
  rw [this,run_enterLoop_outer,hw1]
 ·simp only [resolve,hfv,Deferred.ofValue,Sem.run_pure]
  simp [Act.eval]
 ·intro f' _
  exact trivial
 ·have:=run_callFunc (P:=E.P) h.1 (⟨vs++[.func (.yield (w.heap.size+1)) #[] #[]]++us⟩) (w1.alloc (.loop rec_))
  simpa [invoke] using this
 ·intro hc; cases hc
 ·have hG:(s.addG (.defers true)).addG (.loop false none fp (dropLp s.slots) s.n ps.toList assign body s.G.length false)=s.inG (s.G++[.defers true]++[.loop false none fp (dropLp s.slots) s.n ps.toList assign body s.G.length false]):=rfl
  have hyl:Rel R2 (w1.alloc (.loop rec_)) (.yield (s.G.length+1)) (.func (.yield (w.heap.size+1)) #[] #[]):=by
   rw [← hsz]
   exact .yield hid1
  refine (h.2 R2 (w1.alloc (.loop rec_)) _ h2.g ((((q1.mono st.ext).append (.one hyl)).append (q2.mono st.ext)))).mono ?_
  intro e w3 he
  cases e with
  | panicked c=>exact he.elim
  | outgrown=>exact he.elim
  | returned c=>
   obtain ⟨r,G',R3,hQ,hrel,hg3,st3⟩:=he
   obtain ⟨p1,p2⟩:=h2.afterCall hg3 st3
   unfold rfQ at hQ
   split at hQ
   ·rename_i busy pending ff sl nn pp asn bd dd done hnth
    obtain ⟨hbd,hQ⟩:=hQ
    have hid3:nth R3.obj (s.G.length+1)=some (.blk w1.heap.size):=st3.ext.blk hid1
    obtain ⟨⟨r3,db,l1,l2,l3,_,_,_,_,_,_,_⟩,_⟩:=p1.g.obj _ _ _ hnth hid3
    have hstate:r3.state≠.busy:=by rw [l2]; exact loop_state hbd
    have l1':w3.heap[w.heap.size+1]?=some (.loop r3):=by rw [← hsz]; exact l1
    refine ⟨r3.pending,_,run_endLoop l1' hstate,?_⟩
    rw [l3]
    -- the record is dead
    have hid0':nth R3.obj s.G.length=some (.blk w.heap.size):=st3.ext.blk (by rw [← hR2] at e2 ⊢; exact e2.blk hid0)
    have key:∀ x:Obj,NoCells x→(∀ r,Obj.loop r3=.loop r→∃ r',x=.loop r'∧SameLoop r r')→Rep E R3 (World.put w3 w1.heap.size x) β ⟨s.slots,s.boxes,setN G' (s.G.length+1) .dead,s.G.length :: s.marks,s.ro,s.n⟩ { a with defers:=[{ target:=.collected w.heap.size,args:=#[] }]++a.defers }∧Step R w β s.boxes R3 (World.put w3 w1.heap.size x) β s.boxes:=fun x hx hlx=>by
     obtain ⟨z1,z2⟩:=p1.setObj (x':=x) (go':=.dead) hid3 l1 trivial hx hlx (show w1.heap.size < _ by simp [World.put]; exact block_lt l1)
     exact ⟨⟨z1.g,z1.b,z1.t,z1.n,⟨⟨w.heap.size,hid0',rfl⟩,z1.d⟩⟩,(st.trans p2).trans z2⟩
    obtain ⟨z1,z2⟩:=key (.loop { r3 with state:=.exhausted,pending:=pending }) trivial (fun r e=>⟨_,rfl,by cases e; exact ⟨rfl,rfl,rfl,rfl,rfl⟩⟩)
    rw [hsz] at z1 z2
    cases pending with
    | none=>exact ⟨_,R3,β,hQ,z1,z2,rfl⟩
    | some c=>
     refine wpIn_mono (hQ R3 _ β _ Fence.wide z1 (by show FenceOk R3 s.ro Fence.wide; rw [hro]; rfl)) ?_
     rintro e a'' w'' ⟨s'',R'',β'',hq'',hr'',hst'',hro''⟩
     exact ⟨s'',R'',β'',hq'',hr'',z2.trans hst'',hro''⟩
   ·exact hQ.elim
def roundQ (id:Nat) (Q:Bool→List GO→Prop):Exit→St→Prop:=fun e s=>match nth s.G id with
 | some (.loop _ _ fn sl n ps asn bd d _)=>match e with
  | .normal=>Q true (setN s.G id (.loop false none fn sl n ps asn bd d false))
  | .ret=>Q false (setN s.G id (.loop false (some .ret) fn sl n ps asn bd d true))
  | .exit i=>Q false (setN s.G id (.loop false (some (.exit i)) fn sl n ps asn bd d true))
  | _=>False
 | _=>False
def assignQ (E:Env) (id:Nat) (body:Code) (Q:Bool→List GO→Prop):Exit→St→Prop:=fun e s=>match e with
 | .normal=>match nth s.G id with
  | some (.loop false p fn sl n ps asn bd d false)=>AWp E body (roundQ id Q) (s.inG (setN s.G id (.loop true p fn sl n ps asn bd d false)))
  | _=>False
 | _=>False
def putPs:List Tmp→List AV→Slots→Slots
 | t :: ts,a :: l,r=>putPs ts l (.put t (.v a) :: r)
 | _,_,r=>r
def St.round (id:Nat) (slots:Slots) (n:Nat) (G:List GO):St:=⟨slots,[],G,[],some id,n⟩
theorem relT_putPs {R:Realm} {w:World} {β:Nat→Nat}:∀ {ts:List Tmp} {l:List AV} {cs:List Value} {r:Slots} {tmps:Array Value},RelT R w β r tmps→RelL R w l cs→l.length=ts.length→(∀ t∈ts,t < tmps.size) →
  RelT R w β (putPs ts l r) ((ts.zip cs).foldl (fun tmps (t,a)=>tmps.setIfInBounds t a) tmps)
 | [],[],_,_,_,h,.nil,_,_=>h
 | t :: ts,a :: l,c :: cs,r,tmps,h,.cons hx hl,hlen,ht=>by
  have hsz:t < tmps.size:=ht t (by simp)
  simp only [putPs,List.zip_cons_cons,List.foldl_cons]
  refine relT_putPs ?_ hl (by simpa using hlen) (fun t' h'=>by simpa using ht t' (by simp [h']))
  have:=RelT.put (a:={ tmps:=tmps,defers:=[] }) h (d:=t) (x:=.v a) (c:=c) hsz hx
  simpa [Act.put] using this
 | [],_ :: _,_,_,_,_,_,hlen,_=>by simp at hlen
 | _ :: _,[],_,_,_,_,_,hlen,_=>by simp at hlen
theorem foldl_size (l:List (Tmp × Value)):∀ tmps:Array Value,(l.foldl (fun (tmps:Array Value) (x:Tmp × Value)=>tmps.setIfInBounds x.1 x.2) tmps).size=tmps.size:=by
 induction l with
 | nil=>intro _; rfl
 | cons x l ih=>intro tmps; rw [List.foldl_cons,ih]; simp
theorem ARound.intro {E:Env} {id:Nat} {args:List AV} {G:List GO} {Q:Bool→List GO→Prop} {fn:FuncId} {slots:Slots} {n:Nat} {ps:List Tmp} {assign body:Code} {d:Nat} {p:Option Code}
  (hG:nth G id=some (.loop false p fn slots n ps assign body d false)) (hl:args.length=ps.length) (hps:∀ t∈ps,t < n)
  (h:AWp E assign (assignQ E id body Q) (St.round id (putPs ps args slots) n G)):ARound E id args G Q:=fun R w cs b hg hr hb=>by
 obtain ⟨⟨r,db,l1,l2,l3,l4,l5,l6,l7,l8,l9,l10⟩,l11⟩:=hg.obj id _ _ hG hb
 have hlen:=hr.length
 refine ⟨r,l1,by rw [l6]; simp; omega,?_⟩
 have hstep0:Step R w (fun _=>0) noBox R w (fun _=>0) noBox:=Step.refl _ _ _ _
 have hRep:Rep E R w (fun _=>0) (St.round id (putPs ps args slots) n G) { tmps:=(r.params.zip ⟨cs⟩).foldl (fun tmps (t,a)=>tmps.setIfInBounds t a) r.tmps,defers:=[] }:=by
  have hzip:(r.params.zip ⟨cs⟩).foldl (fun (tmps:Array Value) (x:Tmp × Value)=>tmps.setIfInBounds x.1 x.2) r.tmps=(ps.zip cs).foldl (fun (tmps:Array Value) (x:Tmp × Value)=>tmps.setIfInBounds x.1 x.2) r.tmps:=by
   rw [← Array.foldl_toList]
   simp [l6]
  refine ⟨hg,⟨fun k cs hk=>?_,fun k k' c c' hk=>?_⟩,?_,?_,trivial⟩
  ·simp [St.round,lkB] at hk
  ·simp [St.round,lkB] at hk
  ·show RelT _ _ _ _ _
   have:=relT_putPs (ts:=ps) (l:=args) (cs:=cs) l4 hr hl (fun t ht=>by rw [l5]; exact hps t ht)
   rw [← hzip] at this
   exact this
  ·show _=n
   have:=foldl_size (ps.zip cs) r.tmps
   rw [← hzip] at this
   exact this.trans l5
 have hnb:∀ (k:Nat) (cs:List AV),lkB (St.round id (putPs ps args slots) n G).boxes k≠some cs:=fun k cs hk=>by simp [St.round,lkB] at hk
 rw [l7,l8]
 refine roundIn_of_wpIn trivial (wpIn_mono (h R w (fun _=>0) _ (Fence.wide.inRound b) hRep ⟨b,hb,rfl⟩) ?_)
 rintro e a1 w1 ⟨s1,R1,β1,hq,hr1,st1,hro1⟩
 unfold assignQ at hq
 cases e with
 | normal=>
  simp only at hq
  split at hq
  ·rename_i p' fn' sl' n' ps' asn' bd' d' hG1
   have hb1:nth R1.obj id=some (.blk b):=st1.ext.blk hb
   obtain ⟨⟨r1,db1,m1,m2,m3,m4,m5,m6,m7,m8,m9,m10⟩,m11⟩:=hr1.g.obj id _ _ hG1 hb1
   refine ⟨_,run_beginRound m1 m2,?_⟩
   obtain ⟨z1,z2⟩:=hr1.setObj (x':=.loop { r1 with state:=.busy }) (go':=.loop true p' fn' sl' n' ps' asn' bd' d' false) hb1 m1 trivial trivial (fun r e=>⟨_,rfl,by cases e; exact ⟨rfl,rfl,rfl,rfl,rfl⟩⟩)
    ⟨⟨{ r1 with state:=.busy },db1,put_self _ _ _ (block_lt m1),rfl,m3,m4.mono (ext_put (x':=.loop { r1 with state:=.busy }) m1 trivial trivial (fun r e=>⟨_,rfl,by cases e; exact ⟨rfl,rfl,rfl,rfl,rfl⟩⟩)),m5,m6,m7,m8,m9,m10⟩,m11⟩
   refine wpIn_mono (hq R1 _ β1 a1 (Fence.wide.inRound b) z1 (by show FenceOk R1 s1.ro _; rw [hro1]; exact ⟨b,hb1,rfl⟩)) ?_
   rintro e2 a2 w2 ⟨s2,R2,β2,hq2,hr2,st2,hro2⟩
   unfold roundQ at hq2
   split at hq2
   ·rename_i bu2 p2 fn2 sl2 n2 ps2 as2 bd2 d2 dn2 hG2
    have st12:=(st1.trans z2).trans st2
    have hb2:nth R2.obj id=some (.blk b):=st12.ext.blk hb
    obtain ⟨⟨r2,db2,o1,o2,o3,o4,o5,o6,o7,o8,o9,o10⟩,o11⟩:=hr2.g.obj id _ _ hG2 hb2
    have fin:∀ (j:Option Code),RoundOk E R w (fun b' G'=>G'=setN s2.G id (.loop false j fn2 sl2 n2 ps2 as2 bd2 d2 (!j.isNone))∧b'=j.isNone) (.returned (.bool j.isNone)) (w2.putObj b (.loop { r2 with state:=if j.isNone then .ready else .done,pending:=j })):=fun j=>by
     obtain ⟨y1,y2⟩:=hr2.setObj (x':=.loop { r2 with state:=if j.isNone then .ready else .done,pending:=j }) (go':=.loop false j fn2 sl2 n2 ps2 as2 bd2 d2 (!j.isNone)) hb2 o1 trivial trivial (fun r e=>⟨_,rfl,by cases e; exact ⟨rfl,rfl,rfl,rfl,rfl⟩⟩)
      ⟨⟨{ r2 with state:=if j.isNone then .ready else .done,pending:=j },db2,put_self _ _ _ (block_lt o1),by cases j <;> rfl,rfl,o4.mono (ext_put (x':=.loop { r2 with state:=if j.isNone then .ready else .done,pending:=j }) o1 trivial trivial (fun r e=>⟨_,rfl,by cases e; exact ⟨rfl,rfl,rfl,rfl,rfl⟩⟩)),o5,o6,o7,o8,o9,o10⟩,o11⟩
     exact ⟨_,_,R2,⟨rfl,rfl⟩,rfl,y1.g,step_noBox (st12.trans y2) hnb⟩
    have mk:∀ (j:Option Code),Q j.isNone (setN s2.G id (.loop false j fn2 sl2 n2 ps2 as2 bd2 d2 (!j.isNone)))→∃ v w',(Instr.endRound b j).run E.P w2=.ok v w'∧RoundOk E R w Q (.returned v) w':=fun j hQ=>by
     refine ⟨_,_,run_endRound j o1,?_⟩
     obtain ⟨r',G',R',⟨h1,h2⟩,h3⟩:=fin j
     subst h1; subst h2
     exact ⟨_,_,R',hQ,h3⟩
    cases e2 with
    | normal=>exact mk none hq2
    | ret=>exact mk (some .ret) hq2
    | exit i=>exact mk (some (.exit i)) hq2
    | _=>exact hq2.elim
   ·exact hq2.elim
  ·exact hq.elim
 | _=>exact hq.elim
end Go.Am
namespace Go.Am
open Go
section
variable {E:Env} {R R':Realm} {w w':World} {β β':Nat→Nat} {s s':St} {a a':Act}
def PCalls (E:Env) (g:FuncId) (args:List AV) (Q:AV→Prop):Prop:=∀ G,ACalls E g args G (fun r G'=>G'=G∧Q r)
theorem PCalls.mono {g:FuncId} {args:List AV} {Q Q':AV→Prop} (h:PCalls E g args Q) (hq:∀ r,Q r→Q' r):PCalls E g args Q':=
 fun G=>(h G).mono fun r _ hh=>⟨hh.1,hq r hh.2⟩
theorem PCalls.of {g:FuncId} {args:List AV} {p:Pat} {Q:p.T→Prop} (hc:underL 0 args=true) (hp:p.under 0=true)
  (h:ACalls E g args [] (fun r _=>∃ y,p.dec r=some y∧Q y)):PCalls E g args (fun r=>∃ y,r=p.enc y∧Q y):=fun G=>by
 refine ⟨h.1,fun R w cs hg hl=>?_⟩
 let R0:Realm:=⟨R.I,[]⟩
 have m0:Mv R R0 0:=⟨fun _ _ h=>h,fun _ _ h=>absurd h (Nat.not_lt_zero _)⟩
 have hg0:RepG E R0 w []:=⟨rfl,fun id go ro h1 _=>by simp [nth] at h1,fun i j ri rj b h1=>by simp [R0,nth] at h1,hg.wf,fun g cs hgl=>(hg.glob g cs hgl).move m0 (closedL_under _ (E.globOk g cs hgl)),hg.lo⟩
 have hl0:RelL R0 w args cs:=hl.move m0 hc
 refine (h.2 R0 w cs hg0 hl0).mono fun e w' he=>?_
 cases e with
 | panicked c=>exact he.elim
 | outgrown=>exact he.elim
 | returned c=>
  obtain ⟨r,G',R1,⟨y,hy,hQ⟩,hrel,hg1,st⟩:=he
  have hfree:∀ b,¬ Own R0 (fun _=>0) noBox b:=fun b ho=>by
   obtain ⟨id,ro,h1,_⟩:=own_noBox ho
   simp [R0,nth] at h1
  let R2:Realm:=⟨R1.I,R.obj⟩
  have e:Ext R w R2 w':=⟨st.ext.I,st.ext.cell,fun id ro h=>⟨ro,h,RoLe.refl ro⟩,st.ext.lp⟩
  have keep:∀ b,b < w.heap.size→w'.heap[b]?=w.heap[b]?:=fun b hb=>st.keep b hb (hfree b)
  have im:∀ b o,b < w.heap.size→R1.I b o→R.I b o:=fun b o hb hi=>st.im b o hi hb (hfree b)
  have hd:=p.dec_ok hy
  have m:Mv R1 R2 0:=⟨fun _ _ h=>h,fun _ _ h=>absurd h (Nat.not_lt_zero _)⟩
  refine ⟨p.enc y,G,R2,⟨rfl,y,rfl,hQ⟩,Rel.move m (p.enc_under y hp) (hd.weak _ _ _ hrel),⟨hg.len,fun id go ro h1 h2=>?_,hg.inj,hg1.wf,fun g cs hgl=>(hg.glob g cs hgl).mono e,hg1.lo⟩,⟨e,st.os,st.tape,st.output,st.size,fun b hb _=>keep b hb,fun b _ ho=>?_,fun b o hi hb _=>im b o hb hi⟩⟩
  ·refine (hg.obj id go ro h1 h2).mono e (fun b hb=>keep b ?_) (fun b o hb hi=>im b o ?_ hi)
   ·exact (hg.obj id go ro h1 h2).lt hb
   ·exact (hg.obj id go ro h1 h2).lt hb
  ·exact ho
theorem AWp.tmpl {c:Code} {Q Q':Exit→St→Prop} (h:AWp E c (fun e s'=>Ext0 s s'∧Q' e s') s)
  (hq:∀ e s',Q' e s'→∃ (t:Tmpl) (v:t.ps.T),t.dec s s'=some v∧Q e (t.st s v)):AWp E c Q s:=fun R w β a F hr hf=>by
 refine wpIn_mono (h R w β a F hr hf) ?_
 rintro e a' w' ⟨s',R',β',⟨hx,hq'⟩,hr',hst,hro⟩
 obtain ⟨t,v,hd,hQ⟩:=hq e s' hq'
 obtain ⟨h1,h2⟩:=Tmpl.rep hx hr hr' hst hd
 exact ⟨_,_,β',hQ,h1,h2,rfl⟩
theorem AWp.ghosts {c:Code} {Q:Exit→St→Prop} {l:List (Loc × Nat × TypeId)} (hs:Am.ghosts l s=some s') (h:AWp E c Q s'):AWp E c Q s:=fun R w β a F hr hf=>by
 obtain ⟨R1,k1,k2,k3,_⟩:=ghosts_rep hr hs
 refine wpIn_mono (h R1 w β a F k1 (by rw [k3]; exact hf.mono k2.ext)) ?_
 rintro e a' w' ⟨s2,R2,β2,hq,hr2,st2,hro2⟩
 exact ⟨s2,R2,β2,hq,hr2,k2.trans st2,hro2.trans k3⟩
end
end Go.Am
namespace Go.Am
open Go
def nextB (s:St) (dst:Option Tmp) (x:SV):Option (Bool × St × St):=match x with
 | .v (.ptr id 0)=>match nth s.G id with
  | some (.siter l pos)=>some (Nat.blt pos l.length,(s.inG (setN s.G id (.siter l (pos+(decodeA l pos).2)))).put dst (.v (.tup [.bool true,.int .i64 pos,.int .i32 (decodeA l pos).1])),s.put dst (.v (.tup [.bool false])))
  | _=>none
 | _=>none
theorem nextB_spec {s:St} {dst:Option Tmp} {x:SV} {b:Bool} {s1 s2:St} (h:nextB s dst x=some (b,s1,s2)):nextA s dst x=some (bif b then s1 else s2):=by
 unfold nextB at h
 split at h
 ·split at h
  ·rename_i l pos hg
   cases h
   simp only [nextA,hg]
   cases Nat.blt pos l.length <;> rfl
  ·cases h
 ·cases h
theorem mfind_T {e:EK} {k:AV}:∀ {es:List (AV × AV)},mkeys e k es=true→mfind e k es=some (mgetT e k es)
 | [],_=>rfl
 | (k',v) :: l,h=>by
  simp only [mkeys,Bool.and_eq_true] at h
  obtain ⟨b,hb⟩:=Option.isSome_iff_exists.1 h.1
  simp only [mfind,mgetT,eqT,hb]
  cases b
  ·simp only [cond_false]; exact mfind_T h.2
  ·rfl
theorem mput_T {e:EK} {k v:AV}:∀ {es:List (AV × AV)},mkeys e k es=true→mput e k v es=some (mputT e k v es)
 | [],_=>rfl
 | (k',v') :: l,h=>by
  simp only [mkeys,Bool.and_eq_true] at h
  obtain ⟨b,hb⟩:=Option.isSome_iff_exists.1 h.1
  simp only [mput,mputT,eqT,hb]
  cases b
  ·simp only [cond_false,mput_T h.2]
  ·rfl
mutual
def Pat.flat:Pat→Bool
 | .int _=>true
 | .bool=>true
 | .str=>true
 | .agg ps=>ps.flat
 | .fam _ _ p=>p.flat
 | _=>false
def Pats.flat:Pats→Bool
 | .nil=>true
 | .cons p ps=>p.flat&&ps.flat
end
theorem map_back {α:Type} {f:AV→Bool} {d:AV→α} {g:α→AV} (h:∀ a,f a=true→g (d a)=a):∀ {es:List AV},allFit f es=true→(es.map d).map g=es
 | [],_=>rfl
 | a :: l,hl=>by
  simp only [allFit,Bool.and_eq_true] at hl
  rw [List.map_cons,List.map_cons,h a hl.1,map_back h hl.2]
mutual
theorem Pat.flat_enc:∀ {p:Pat},p.flat=true→∀ {a:AV},p.fits a=true→p.enc (p.decD a)=a
 | .int k,_,a,h=>by
  cases a <;> first | (cases h; done) | skip
  have hk:kEq _ _=true:=h
  rw [kEq_eq hk]; rfl
 | .bool,_,a,h=>by cases a <;> first | (cases h; done) | rfl
 | .str,_,a,h=>by cases a <;> first | (cases h; done) | rfl
 | .agg ps,hp,a,h=>by
  cases a <;> first | (cases h; done) | skip
  exact congrArg AV.agg (Pats.flat_enc (ps:=ps) hp h)
 | .tup _,hp,_,_=>by cases hp
 | .list _ _,hp,_,_=>by cases hp
 | .own _ _ _,hp,_,_=>by cases hp
 | .fam id sz p,hp,a,h=>by
  cases a <;> first | (cases h; done) | skip
  rename_i k sz' es
  cases k <;> first | (cases h; done) | skip
  rename_i id' j
  simp only [Pat.fits,Bool.and_eq_true] at h
  have e1:=Nat.eq_of_beq_eq_true h.1.1
  have e2:=Nat.eq_of_beq_eq_true h.1.2
  subst e1 e2
  have hp:p.flat=true:=hp
  show AV.list (.fam id j) sz ((es.map p.decD).map p.enc)=_
  rw [map_back (fun a ha=>Pat.flat_enc hp ha) h.2]
 | .cst _,hp,_,_=>by cases hp
 | .two _ _,hp,_,_=>by cases hp
theorem Pats.flat_enc:∀ {ps:Pats},ps.flat=true→∀ {l:List AV},ps.fits l=true→ps.enc (ps.decD l)=l
 | .nil,_,l,h=>by
  cases l with
  | nil=>rfl
  | cons _ _=>cases h
 | .cons p .nil,hp,l,h=>by
  simp only [Pats.flat,Bool.and_eq_true] at hp
  cases l with
  | nil=>cases h
  | cons a l=>
   simp only [Pats.fits,Bool.and_eq_true] at h
   cases l with
   | nil=>exact congrArg (fun x=>[x]) (Pat.flat_enc hp.1 h.1)
   | cons _ _=>cases h.2
 | .cons p (.cons q ps),hp,l,h=>by
  rw [Pats.flat,Bool.and_eq_true] at hp
  cases l with
  | nil=>cases h
  | cons a l=>
   rw [Pats.fits,Bool.and_eq_true] at h
   have h1:=Pat.flat_enc hp.1 h.1
   have h2:=Pats.flat_enc (ps:=.cons q ps) hp.2 h.2
   show p.enc (p.decD a) :: (Pats.cons q ps).enc ((Pats.cons q ps).decD l)=a :: l
   rw [h1,h2]
end
def lookupB (E:Env) (s:St) (t:TypeId) (m k:SV):Option (Bool × AV × Bool):=match elgOf E s.G t,E.ti t,mapOf s m,k with
 | some p,some i,some es,.v k=>match i.k with
  | .map kt _ (some z)=>match E.ti kt with
   | some j=>if j.ek.plain&&keyFits j.ek k&&p.flat then
     some (mkeys j.ek k es&&p.fits (mgetD j.ek k (zeroF E s.G t z) es),p.enc (p.decD (mgetD j.ek k (zeroF E s.G t z) es)),(mgetT j.ek k es).isSome)
    else none
   | none=>none
  | _=>none
 | _,_,_,_=>none
theorem lookupB_spec {E:Env} {s:St} {t:TypeId} {m k:SV} {v:AV} {b:Bool} (h:lookupB E s t m k=some (true,v,b)):lookupA E s t m k=some (v,b):=by
 unfold lookupB at h
 split at h
 ·rename_i p i es k h1 h2 h3
  split at h
  ·rename_i kt et z hk
   split at h
   ·rename_i j hj
    split at h
    ·rename_i hc
     simp only [Bool.and_eq_true] at hc
     injection h with h
     injection h with h4 h
     injection h with h5 h6
     rw [Bool.and_eq_true] at h4
     rw [Pat.flat_enc hc.2 h4.2] at h5
     have e:mfind j.ek k es=some (mgetT j.ek k es):=mfind_T h4.1
     have hc':(j.ek.plain&&keyFits j.ek k)=true:=by rw [hc.1.1,hc.1.2]; rfl
     have e0:lookupA0 E s t m (.v k)=some ((mgetT j.ek k es).getD z,(mgetT j.ek k es).isSome):=by
      simp only [lookupA0,h2,h3,hk,hj,hc',if_true,e]
      cases mgetT j.ek k es <;> rfl
     unfold lookupA
     rw [e0]
     unfold mgetD at h5
     cases hg:mgetT j.ek k es with
     | none=>
      rw [hg] at h5 h6
      subst h5 h6
      rfl
     | some v'=>
      rw [hg] at h5 h6
      subst h5 h6
      rfl
    ·cases h
   ·cases h
  ·cases h
 ·cases h
def updateB (E:Env) (s:St) (t:TypeId) (m k x:SV):Option (Bool × St):=match E.ti t,m,k,x with
 | some i,.v (.map id),.v k,.v x=>match i.k,nth s.G id with
  | .map kt _ _,some (.map es)=>match E.ti kt with
   | some j=>if j.ek.plain&&keyFits j.ek k then some (mkeys j.ek k es,s.inG (setN s.G id (.map (mputT j.ek k x es)))) else none
   | none=>none
  | _,_=>none
 | _,_,_,_=>none
theorem updateB_spec {E:Env} {s s':St} {t:TypeId} {m k x:SV} (h:updateB E s t m k x=some (true,s')):updateA E s t m k x=some s':=by
 unfold updateB at h
 split at h
 ·rename_i i id k x h1
  split at h
  ·rename_i kt _ _ es hk hg
   split at h
   ·rename_i j hj
    split at h
    ·rename_i hc
     injection h with h
     injection h with h4 h5
     simp only [updateA,h1,hk,hg,hj,hc,if_true,mput_T h4,h5]
    ·cases h
   ·cases h
  ·cases h
 ·cases h
def copyB (E:Env) (s:St) (dst:Option Tmp) (l:List AV) (tys:List TypeId):Option (Bool × St):=match l,tys with
 | [.msl id off sz len _,.str bs],t :: _=>match E.ti t,nth s.G id with
  | some i,some (.row cs el)=>match i.k with
   | .sl _ esz _ _ _=>if Nat.beq sz esz&&Nat.beq esz 1 then
     some (Nat.ble (off+(bs.take (Nat.min bs.length len)).length) cs.length,
      (s.inG (setN s.G id (.row (splice cs off ((bs.take (Nat.min bs.length len)).map byteA)) el))).put dst (.v (.int .i64 (Nat.min bs.length len))))
    else none
   | _=>none
  | _,_=>none
 | [.msl id off sz len _,.list _ sz' es],t :: _=>match E.ti t,nth s.G id with
  | some i,some (.row cs el)=>match i.k with
   | .sl _ esz _ _ _=>if Nat.beq sz esz&&Nat.beq sz' esz then
     some (Nat.ble (off+(cellsL (es.take (Nat.min es.length len))).length) cs.length,
      (s.inG (setN s.G id (.row (splice cs off (cellsL (es.take (Nat.min es.length len)))) el))).put dst (.v (.int .i64 (Nat.min es.length len))))
    else none
   | _=>none
  | _,_=>none
 | [.gsl id f off sz len,.list _ sz' xs],t :: _=>match E.ti t,nth s.G id with
  | some i,some (.gro es szo el)=>match i.k with
   | .sl _ esz _ _ _=>if Nat.beq sz esz&&Nat.beq szo sz&&Nat.beq sz' esz then
     some (decide (f=es.length)&&decide (off+Nat.min xs.length len≤es.length),
      (s.inG (setN s.G id (.gro (splice es off (xs.take (Nat.min xs.length len))) szo el))).put dst (.v (.int .i64 (Nat.min xs.length len))))
    else none
   | _=>none
  | _,_=>none
 | _,_=>none
theorem copyB_spec {E:Env} {s s':St} {dst:Option Tmp} {l:List AV} {tys:List TypeId} (h:copyB E s dst l tys=some (true,s')):builtinA E s dst .copy l tys=some (true,s'):=by
 unfold copyB at h
 split at h
 ·rename_i id off sz len cap bs t ts
  split at h
  ·rename_i i cs el hi hid
   split at h
   ·rename_i a1 esz a2 a3 a4 hk
    split at h
    ·rename_i hc
     rw [Bool.and_eq_true] at hc
     injection h with h
     injection h with h1 h2
     have h1':(Nat.beq esz 1&&Nat.ble (off+(bs.take (Nat.min bs.length len)).length) cs.length)=true:=by rw [hc.2,h1]; rfl
     simp only [builtinA,hi,hk,copyA,hid,hc.1,if_true,h1',h2]
    ·cases h
   ·cases h
  ·cases h
 ·rename_i id off sz len cap k sz' es t ts
  split at h
  ·rename_i i cs el hi hid
   split at h
   ·rename_i a1 esz a2 a3 a4 hk
    split at h
    ·rename_i hc
     rw [Bool.and_eq_true] at hc
     injection h with h
     injection h with h1 h2
     have e2:(Nat.beq sz' esz || es.isEmpty)=true:=by rw [hc.2]; rfl
     simp only [builtinA,hi,hk,copyA,hid,hc.1,if_true,e2,h1,h2]
    ·cases h
   ·cases h
  ·cases h
 ·rename_i id f off sz len k sz' xs t ts
  split at h
  ·rename_i i es szo el hi hid
   split at h
   ·rename_i a1 esz a2 a3 a4 hk
    split at h
    ·rename_i hc
     rw [Bool.and_eq_true] at hc
     injection h with h
     injection h with h1 h2
     rw [Bool.and_eq_true,decide_eq_true_eq,decide_eq_true_eq] at h1
     obtain ⟨rfl,h1⟩:=h1
     have e2:(Nat.beq sz esz&&Nat.beq szo sz&&(Nat.beq sz' esz || xs.isEmpty)&&Nat.ble es.length es.length&&Nat.ble es.length es.length&&Nat.ble (off+Nat.min xs.length len) es.length)=true:=by
      rw [hc.1,hc.2]
      simp only [Bool.true_or,Bool.true_and,Bool.and_eq_true]
      exact ⟨⟨Nat.ble_eq_true_of_le (Nat.le_refl _),Nat.ble_eq_true_of_le (Nat.le_refl _)⟩,Nat.ble_eq_true_of_le h1⟩
     simp only [builtinA,hi,hk,copyA,hid,e2,if_true,h2]
    ·cases h
   ·cases h
  ·cases h
 ·cases h
def appendU (s:St) (dst:Option Tmp) (elem esz ebytes:Nat) (k:LK) (sz:Nat) (es ys:List AV):Option (Bool × St × Bool × St):=
 match k with
 | .nil=>some (ys.isEmpty,s.put dst (.v (.list .nil sz es)),decide ((es.length+ys.length) * ebytes≤140737488355328),
   (s.inG (s.G++[.tok (es.length+ys.length) esz elem])).put dst (.v (.list (.own s.G.length) esz (es++ys))))
 | .full=>if Nat.beq sz esz then some (ys.isEmpty,s.put dst (.v (.list .full sz es)),decide ((es.length+ys.length) * ebytes≤140737488355328),
   (s.inG (s.G++[.tok (es.length+ys.length) esz elem])).put dst (.v (.list (.own s.G.length) esz (es++ys)))) else none
 | .own id=>match nth s.G id with
  | some (.tok f sz' e')=>if Nat.beq sz' esz&&Nat.beq e' elem&&Nat.beq sz esz then
    some (false,s,decide (f=es.length)&&decide ((es.length+ys.length) * ebytes≤140737488355328),
     (s.inG (tokUp s.G id ys.length f esz elem)).put dst (.v (.list (.own id) esz (es++ys)))) else none
  | _=>none
 | .fam id j=>match nth s.G id with
  | some (.fam fs sz' e')=>if Nat.beq sz' esz&&Nat.beq e' elem&&Nat.beq sz esz then
    some (ys.isEmpty,s.put dst (.v (.list (.fam id j) sz es)),memA fs j es.length&&decide ((es.length+ys.length) * ebytes≤140737488355328),
     (s.inG (setN s.G id (.fam (setA fs j (es.length+ys.length)) esz elem))).put dst (.v (.list (.fam id j) esz (es++ys)))) else none
  | _=>none
 | .opn=>none
def appendV (s:St) (dst:Option Tmp) (elem esz ebytes id f off sz len:Nat) (ys:List AV):Option (Bool × St × Bool × St):=match nth s.G id with
 | some (.gro es sz' e')=>if Nat.beq sz' esz&&Nat.beq e' elem&&Nat.beq sz esz then
   some (false,s,decide (f=es.length)&&decide (off=0)&&decide (len=f)&&decide ((es.length+ys.length) * ebytes≤140737488355328),
    (s.inG (setN s.G id (.gro (es++ys) esz elem))).put dst (.v (.gsl id (es.length+ys.length) 0 esz (es.length+ys.length)))) else none
 | _=>none
def appendB (E:Env) (s:St) (dst:Option Tmp) (l:List AV) (tys:List TypeId):Option (Bool × St × Bool × St):=match l,tys with
 | [.list k sz es,.list _ sz' ys],[t,u]=>match E.ti t with
  | some i=>match i.k with
   | .sl elem esz _ ebytes (some z)=>
    if Nat.beq sz' esz&&Nat.beq t u&&Nat.ble 1 esz&&Nat.ble 1 ebytes&&Nat.beq z.cells.length esz&&z.notTup then
     appendU s dst elem esz ebytes k sz es ys
    else none
   | _=>none
  | none=>none
 | [.gsl id f off sz len,.list _ sz' ys],[t,u]=>match E.ti t with
  | some i=>match i.k with
   | .sl elem esz _ ebytes (some z)=>
    if Nat.beq sz' esz&&Nat.beq t u&&Nat.ble 1 esz&&Nat.ble 1 ebytes&&Nat.beq z.cells.length esz&&z.notTup then appendV s dst elem esz ebytes id f off sz len ys else none
   | _=>none
  | none=>none
 | [.list k sz es,.str bs],[t,u]=>match E.ti t,E.ti u with
  | some i,some j=>match i.k,j.k with
   | .sl elem esz _ ebytes (some z),.str=>
    if Nat.beq esz 1&&Nat.ble 1 ebytes&&Nat.beq z.cells.length esz&&z.notTup then appendU s dst elem esz ebytes k sz es (bs.map byteA) else none
   | _,_=>none
  | _,_=>none
 | _,_=>none
theorem appendU_spec {s s1 s2:St} {dst:Option Tmp} {elem esz ebytes:Nat} {k:LK} {sz:Nat} {es ys:List AV} {b c:Bool} (h:appendU s dst elem esz ebytes k sz es ys=some (b,s1,c,s2)) (hc:b=false→c=true) :
  ∃ v G',appendA s.G elem esz ebytes (.list k sz es) ys=some (true,v,G')∧(s.inG G').put dst (.v v)=bif b then s1 else s2:=by
 unfold appendU at h
 cases k with
 | nil=>
  cases h
  cases ys with
  | nil=>exact ⟨_,_,rfl,rfl⟩
  | cons y ys=>
   have hc:=hc rfl
   exact ⟨_,_,by simp only [appendA,hc],rfl⟩
 | full=>
  simp only at h
  cases hs:Nat.beq sz esz with
  | false=>rw [hs] at h; cases h
  | true=>
   rw [hs] at h
   cases h
   cases ys with
   | nil=>exact ⟨_,_,rfl,rfl⟩
   | cons y ys=>
    have hc:=hc rfl
    exact ⟨_,_,by simp only [appendA,hs,if_true,hc],rfl⟩
 | own id=>
  simp only at h
  split at h
  ·rename_i f sz' e' hg
   split at h
   ·rename_i hcnd
    cases h
    have hc:=hc rfl
    cases ys with
    | nil=>
     simp only [Bool.and_eq_true] at hcnd
     have e1:=Nat.eq_of_beq_eq_true hcnd.1.1
     have e2:=Nat.eq_of_beq_eq_true hcnd.1.2
     have e3:=Nat.eq_of_beq_eq_true hcnd.2
     subst e1; subst e2; subst e3
     refine ⟨_,_,rfl,?_⟩
     simp only [cond_false,tokUp,List.length_nil,Nat.add_zero,setN_nth hg,List.append_nil]
    | cons y ys=>exact ⟨_,_,by simp only [appendA,hg,hcnd,if_true,hc],rfl⟩
   ·cases h
  ·cases h
 | fam id j=>
  simp only at h
  split at h
  ·rename_i fs sz' e' hg
   split at h
   ·rename_i hcnd
    cases h
    cases ys with
    | nil=>exact ⟨_,_,rfl,rfl⟩
    | cons y ys=>
     have hc:=hc rfl
     exact ⟨_,_,by simp only [appendA,hg,hcnd,if_true,hc],rfl⟩
   ·cases h
  ·cases h
 | opn=>cases h
theorem appendV_spec {s s1 s2:St} {dst:Option Tmp} {elem esz ebytes id f off sz len:Nat} {ys:List AV} {b c:Bool} (h:appendV s dst elem esz ebytes id f off sz len ys=some (b,s1,c,s2)) (hc:b=false→c=true) :
  ∃ v G',appendA s.G elem esz ebytes (.gsl id f off sz len) ys=some (true,v,G')∧(s.inG G').put dst (.v v)=bif b then s1 else s2:=by
 unfold appendV at h
 split at h
 ·rename_i es sz' e' hg
  split at h
  ·rename_i hcnd
   cases h
   have hc:=hc rfl
   cases ys with
   | nil=>
    simp only [Bool.and_eq_true,decide_eq_true_eq] at hc hcnd
    have e1:=Nat.eq_of_beq_eq_true hcnd.1.1
    have e2:=Nat.eq_of_beq_eq_true hcnd.1.2
    have e3:=Nat.eq_of_beq_eq_true hcnd.2
    obtain ⟨⟨⟨h1,h2⟩,h3⟩,_⟩:=hc
    subst e1; subst e2; subst e3; subst h1; subst h2; subst h3
    refine ⟨_,_,rfl,?_⟩
    simp only [cond_false,List.length_nil,Nat.add_zero,setN_nth hg,List.append_nil]
   | cons y ys=>exact ⟨_,_,by simp only [appendA,hg,hcnd,if_true,hc],rfl⟩
  ·cases h
 ·cases h
theorem appendB_spec {E:Env} {s s1 s2:St} {dst:Option Tmp} {l:List AV} {tys:List TypeId} {b c:Bool} (h:appendB E s dst l tys=some (b,s1,c,s2)) (hcc:b=false→c=true):builtinA E s dst .append l tys=some (true,bif b then s1 else s2):=by
 unfold appendB at h
 split at h
 ·rename_i k sz es k' sz' ys t u
  split at h
  ·rename_i i hi
   split at h
   ·rename_i elem esz a1 ebytes z hk
    split at h
    ·rename_i hc
     have hc':((Nat.beq sz' esz || ys.isEmpty)&&Nat.beq t u&&Nat.ble 1 esz&&Nat.ble 1 ebytes&&Nat.beq z.cells.length esz&&z.notTup)=true:=by
      simp only [Bool.and_eq_true] at hc ⊢
      obtain ⟨⟨⟨⟨⟨c1,c2⟩,c3⟩,c4⟩,c5⟩,c6⟩:=hc
      exact ⟨⟨⟨⟨⟨by rw [c1]; rfl,c2⟩,c3⟩,c4⟩,c5⟩,c6⟩
     obtain ⟨v,G',h1,h2⟩:=appendU_spec h hcc
     simp only [builtinA,hi,hk,hc',if_true,h1,h2]
    ·cases h
   ·cases h
  ·cases h
 ·rename_i id f off sz len k' sz' ys t u
  split at h
  ·rename_i i hi
   split at h
   ·rename_i elem esz a1 ebytes z hk
    split at h
    ·rename_i hc
     have hc':((Nat.beq sz' esz || ys.isEmpty)&&Nat.beq t u&&Nat.ble 1 esz&&Nat.ble 1 ebytes&&Nat.beq z.cells.length esz&&z.notTup)=true:=by
      simp only [Bool.and_eq_true] at hc ⊢
      obtain ⟨⟨⟨⟨⟨c1,c2⟩,c3⟩,c4⟩,c5⟩,c6⟩:=hc
      exact ⟨⟨⟨⟨⟨by rw [c1]; rfl,c2⟩,c3⟩,c4⟩,c5⟩,c6⟩
     obtain ⟨v,G',h1,h2⟩:=appendV_spec h hcc
     simp only [builtinA,hi,hk,hc',if_true,h1,h2]
    ·cases h
   ·cases h
  ·cases h
 ·rename_i k sz es bs t u
  split at h
  ·rename_i i j hi hj
   split at h
   ·rename_i elem esz a1 ebytes z hk hjk
    split at h
    ·rename_i hc
     obtain ⟨v,G',h1,h2⟩:=appendU_spec h hcc
     simp only [builtinA,hi,hj,hk,hjk,hc,if_true,h1,h2]
    ·cases h
   ·cases h
  ·cases h
 ·cases h
end Go.Am
