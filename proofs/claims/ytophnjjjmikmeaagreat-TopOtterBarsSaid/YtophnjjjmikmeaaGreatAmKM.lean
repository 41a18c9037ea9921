/- The abstract machine: what a call's arguments read as. -/
import Derived.Test.YtophnjjjmikmeaaGreatAmKL
import GoSem.ClaimJoined
import Derived.Below
import Derived.ChangeSame
import Derived.Carry
import Derived.RowKit
import Derived.FnData
import Derived.Lib.Builder
import Derived.Lib.UnsafeStr
import Derived.IntWalk
import Derived.Shelf.SlSortCmp.NoneTotal
set_option linter.all false
namespace Go.Am
open Go
def pQ (w:World):af:=⟨fun b _=>b < w.heap.size,[]⟩
mutual
def aj.wf:(p:aj)→p.T→Prop
 | .int k,(n:Int)=>k.min≤n∧n≤k.max
 | .bool,_=>True
 | .str,(s:List UInt8)=>s.length≤maxLen
 | .agg ps,x=>ps.wf x
 | .bF ps,x=>ps.wf x
 | .list _ p,(xs:List p.T)=>xs.length≤maxLen∧∀ x∈xs,p.wf x
 | .own _ _ p,(xs:List p.T)=>xs.length≤maxLen∧∀ x∈xs,p.wf x
 | .aM _ _ p,(x:Nat × List p.T)=>x.2.length≤maxLen∧∀ y∈x.2,p.wf y
 | .gk _ _,_=>True
 | .mN _,_=>True
 | .two _ _,_=>True
def aK.wf:(ps:aK)→ps.T→Prop
 | .nil,_=>True
 | .cons p .nil,x=>p.wf x
 | .cons p (.cons q ps),x=>p.wf x.1∧(aK.cons q ps).wf x.2
end
def ku:List aj→aK
 | []=>.nil
 | p :: l=>.cons p (ku l)
def Ik {β:Type} (g:β→Option (List aj)):List β→Option (List aj)
 | []=>some []
 | x :: l=>match g x,Ik g l with
  | some a,some b=>some (a++b)
  | _,_=>none
def rB {β:Type} (off len:β→Nat):Nat→List β→Option Nat
 | o,[]=>some o
 | o,x :: l=>bif Nat.beq (off x) o then rB off len (o+len x) l else none
def isSome (n:Nat):Option Nat→Bool
 | some m=>Nat.beq m n
 | none=>false
def rC (ag:Bool) (ps:List aj):Option aj:=match ag,ps with
 | true,ps=>some (.agg (ku ps))
 | false,[p]=>some p
 | _,_=>none
def Il (P:Program):Nat→TypeId→Option (List aj)
 | 0,_=>none
 | n+1,t=>match P.underlying t with
  | some .bool=>some [.bool]
  | some (.int k)=>some [.int k]
  | some .string=>some [.str]
  | some (.slice e)=>match Il P n e,P.underlying e with
   | some ps,some u=>match rC (Go.Am.jk u) ps with
    | some pe=>bif Nat.blt 0 (P.cellsOf e) then some [.list (P.cellsOf e) pe] else none
    | none=>none
   | _,_=>none
  | some (.struct fs)=>bif isSome (P.cellsOf t) (rB Field.offset (fun f=>P.cellsOf f.type) 0 fs.toList) then Ik (fun f=>Il P n f.type) fs.toList else none
  | some (.array m e)=>bif isSome (P.cellsOf t) (rB (fun i=>i * P.cellsOf e) (fun _=>P.cellsOf e) 0 (List.range m)) then Ik (fun _=>Il P n e) (List.range m) else none
  | _=>none
def YS (a:AV):Prop:=a.aN=true∧a.cells=[a]∧a.closed=true
def pR:List aj→List AV→Prop
 | [],[]=>True
 | p :: ps,a :: kZ=>p.fits a=true∧(p.wf (p.bh a)∧YS a)∧pR ps kZ
 | _,_=>False
theorem pR.append:∀ {ps qs:List aj} {kZ bs:List AV},pR ps kZ→pR qs bs→pR (ps++qs) (kZ++bs)
 | [],_,[],_,_,h=>h
 | _ :: _,_,_ :: _,_,k,h=>⟨k.1,k.2.1,pR.append k.2.2 h⟩
 | [],_,_ :: _,_,h,_=>h.elim
 | _ :: _,_,[],_,h,_=>h.elim
theorem pR.mk:∀ {ps:List aj} {kZ:List AV},pR ps kZ→(ku ps).fits kZ=true∧(ku ps).wf ((ku ps).bh kZ)
 | [],[],_=>⟨rfl,trivial⟩
 | [p],[a],h=>⟨by
   change (p.fits a&&(List.isEmpty ([]:List AV)))=true
   rw [h.1]
   rfl,h.2.1.1⟩
 | p :: q :: ps,a :: kZ,h=>by
  obtain ⟨h1,h2⟩:=pR.mk (ps:=q :: ps) h.2.2
  refine ⟨?_,h.2.1.1,h2⟩
  change (p.fits a&&(ku (q :: ps)).fits kZ)=true
  rw [h.1,h1]
  rfl
 | [],_ :: _,h=>h.elim
 | _ :: _,[],h=>h.elim
 | [_],_ :: _ :: _,h=>h.2.2.elim
theorem C5 {ag:Bool} {ps:List aj} {pe:aj} (h:rC ag ps=some pe) {kZ:List AV} (hf:pR ps kZ) :
  ∃ e,(if ag then e=.agg kZ else kZ=[e])∧pe.fits e=true∧pe.wf (pe.bh e):=by
 unfold rC at h
 split at h
 ·cases h
  obtain ⟨h1,h2⟩:=hf.mk
  exact ⟨.agg kZ,rfl,h1,h2⟩
 ·rename_i p
  cases h
  match kZ,hf with
  | [a],hf=>exact ⟨a,rfl,hf.1,hf.2.1.1⟩
  | [],hf=>exact hf.elim
  | _ :: _ :: _,hf=>exact hf.2.2.elim
 ·cases h
theorem GF:∀ {ps:List aj} {kZ:List AV},pR ps kZ→∀ a∈kZ,a.aN=true∧a.cells=[a]∧a.closed=true
 | [],[],_,a,ha=>by simp at ha
 | _ :: _,b :: kZ,hf,a,ha=>by
  rcases List.mem_cons.1 ha with rfl | ha
  ·exact hf.2.1.2
  ·exact GF hf.2.2 a ha
 | [],_ :: _,h,_,_=>h.elim
 | _ :: _,[],h,_,_=>h.elim
theorem GG {pe:aj}:∀ {es:List AV},(∀ x∈es,pe.fits x=true∧pe.wf (pe.bh x))→allFit pe.fits es=true∧∀ x∈es.map pe.bh,pe.wf x
 | [],_=>⟨rfl,by simp⟩
 | a :: es,h=>by
  obtain ⟨h1,h2⟩:=GG (es:=es) fun x hx=>h x (by simp [hx])
  refine ⟨by simp only [allFit,Bool.and_eq_true]; exact ⟨(h a (by simp)).1,h1⟩,fun x hx=>?_⟩
  rcases List.mem_cons.1 hx with rfl | hx
  ·exact (h a (by simp)).2
  ·exact h2 x hx
section read
variable {H:Type} {enc:TypeId × Value→H} {P:Program} {w:World} {R:af} {base:Nat} {spare:Nat→Bool} {held:Bool}
theorem kv {α β:Type} {f:α→Option β} {x:α} {l:List α} {r:List β} (h:(x :: l).mapM f=some r):∃ y ys,f x=some y∧l.mapM f=some ys∧r=y :: ys:=by
 rw [List.mapM_cons] at h
 cases hx:f x with
 | none=>rw [hx] at h; cases h
 | some y=>
  rw [hx] at h
  cases hl:l.mapM f with
  | none=>rw [hl] at h; cases h
  | some ys=>rw [hl] at h; cases h; exact ⟨y,ys,rfl,rfl,rfl⟩
theorem xx {β:Type} {off len:β→Nat} {g:β→Option (List aj)} {cs:List Value} {f:β→Option (DataW H × List MemPlace)}
  (hf:∀ x ps y,g x=some ps→f x=some y→∃ kZ,aC R w kZ ((cs.drop (off x)).take (len x))∧pR ps kZ∧∀ v∈(cs.drop (off x)).take (len x),v.oneCell'=true) :
  ∀ {L:List β} {o m:Nat} {ps:List aj} {ys:List (DataW H × List MemPlace)},rB off len o L=some m→Ik g L=some ps→L.mapM f=some ys →
   o≤m∧∃ kZ,aC R w kZ ((cs.drop o).take (m - o))∧pR ps kZ∧∀ v∈(cs.drop o).take (m - o),v.oneCell'=true
 | [],o,m,ps,ys,ht,hp,_=>by
  simp only [rB] at ht
  simp only [Ik] at hp
  cases ht; cases hp
  exact ⟨Nat.le_refl _,[],by simpa using aC.nil,trivial,by simp⟩
 | x :: L,o,m,ps,ys,ht,hp,hm=>by
  unfold rB at ht
  cases hb:Nat.beq (off x) o with
  | false=>rw [hb] at ht; cases ht
  | true=>
   rw [hb] at ht
   have hb:=Nat.eq_of_beq_eq_true hb
   unfold Ik at hp
   split at hp
   ·rename_i pa pb h1 h2
    cases hp
    obtain ⟨y,Hm,k1,k2,rfl⟩:=kv hm
    obtain ⟨kZ,q1,q2,q3⟩:=hf x pa y h1 k1
    obtain ⟨hle,bs,r1,r2,r3⟩:=xx hf (show rB off len (o+len x) L=some m from ht) h2 k2
    have e:(cs.drop o).take (m - o)=(cs.drop (off x)).take (len x)++(cs.drop (o+len x)).take (m - (o+len x)):=by
     rw [hb,show m - o=len x+(m - (o+len x)) by omega,List.take_add,List.drop_drop]
    rw [e]
    refine ⟨by omega,kZ++bs,q1.append r1,q2.append r2,fun v hv=>?_⟩
    rcases List.mem_append.1 hv with hv | hv
    ·exact q3 v hv
    ·exact r3 v hv
   ·cases hp
theorem lY {α β:Type} {f:α→Option β}:∀ {l:List α} {r:List β},l.mapM f=some r→∀ (i:Nat) (x:α),l[i]?=some x→∃ y,r[i]?=some y∧f x=some y
 | [],r,_,i,x,hx=>by simp at hx
 | a :: l,r,h,i,x,hx=>by
  obtain ⟨y,ys,h1,h2,rfl⟩:=kv h
  cases i with
  | zero=>simp at hx; subst hx; exact ⟨y,by simp,h1⟩
  | succ i=>obtain ⟨z,h3,h4⟩:=lY h2 i x (by simpa using hx); exact ⟨z,by simpa using h3,h4⟩
theorem tX {α β:Type} {f:α→Option β}:∀ {l:List α} {r:List β},l.mapM f=some r→r.length=l.length
 | [],r,h=>by simp at h; subst h; rfl
 | a :: l,r,h=>by
  obtain ⟨y,ys,h1,h2,rfl⟩:=kv h
  simp [tX h2]
theorem Nc {a:Addr} {v:Value} (h:w.cell? a=some v):a.block < w.heap.size:=by
 unfold World.cell? at h
 split at h
 ·rename_i hb; exact bj hb
 ·cases h
theorem zT {e:TypeId} {ps:List aj} {pe:aj} {ag:Bool} {rD:Nat} (hp:∀ (cs:List Value) (y:DataW H × List MemPlace),DataW.trod enc P w base spare held rD e cs=some y→∃ kZ,aC (pQ w) w kZ cs∧pR ps kZ∧∀ v∈cs,v.oneCell'=true) (he:rC ag ps=some pe) {b off len:Nat} {r:List (DataW H × List MemPlace)}
  (h:(List.range len).mapM (fun i=>(w.cells? base ((⟨b,off,none⟩:Addr).add (i * P.cellsOf e)) (P.cellsOf e)).bind (DataW.trod enc P w base spare held rD e))=some r) :
  ∀ (m i:Nat),i+m=len→∃ es,fM (pQ w) w b (off+i * P.cellsOf e) (P.cellsOf e) es∧es.length=m∧∀ x∈es,pe.fits x=true∧pe.wf (pe.bh x)
 | 0,i,_=>⟨[],.nil,rfl,by simp⟩
 | m+1,i,hi=>by
  obtain ⟨es,h1,h2,h3⟩:=zT hp he h m (i+1) (by omega)
  obtain ⟨y,_,hy⟩:=lY h i i (by rw [List.getElem?_range (by omega)])
  obtain ⟨cs,hc,hy⟩:=bind_some hy
  obtain ⟨kZ,q1,q2,q3⟩:=hp _ _ hy
  obtain ⟨x,hx,f1,f2⟩:=C5 he q2
  have lq:w.cells? base ((⟨b,off,none⟩:Addr).add (i * P.cellsOf e)) (P.cellsOf e)=some cs:=hc
  unfold World.cells? at lq
  split at lq
  ·have hlen:=tX lq
   rw [List.length_range] at hlen
   have gi:x.cells=kZ∧x.aN=true∧x.closed=true:=by
    have nI:=GF q2
    cases ag with
    | true=>
     simp only [if_true] at hx
     subst hx
     refine ⟨rfl,rfl,?_⟩
     show ay kZ=true
     clear h1 h2 h3 q1 q2 f1 f2
     induction kZ with
     | nil=>rfl
     | cons a kZ ih=>simp only [ay,Bool.and_eq_true]; exact ⟨(nI a (by simp)).2.2,ih (fun z hz=>nI z (by simp [hz]))⟩
    | false=>
     simp only [Bool.false_eq_true,if_false] at hx
     subst hx
     obtain ⟨k1,k2,k3⟩:=nI x (by simp)
     exact ⟨k2,k1,k3⟩
   have jH:∀ j v,cs[j]?=some v→w.cell? ⟨b,off+i * P.cellsOf e+j,none⟩=some v:=fun j v hv=>by
    have hj:j < P.cellsOf e:=by have:=(List.getElem?_eq_some_iff.1 hv).1; omega
    obtain ⟨v',k1,k2⟩:=lY lq j j (by rw [List.getElem?_range hj])
    rw [hv] at k1
    cases k1
    rw [bZ,bZ] at k2
    exact k2
   refine ⟨x :: es,.cons ?_ gi.2.1 gi.2.2 ?_ ?_,by simp [h2],fun z hz=>?_⟩
   ·rw [gi.1,q1.length,hlen]
   ·rw [gi.1]
    refine dZ.make q1 q3 jH (fun j hj=>?_)
    have DD:j < cs.length:=by rw [← q1.length]; exact hj
    exact Nc (jH j cs[j] (List.getElem?_eq_getElem DD))
   ·rw [show off+i * P.cellsOf e+P.cellsOf e=off+(i+1) * P.cellsOf e by rw [Nat.add_mul]; omega]
    exact h1
   ·rcases List.mem_cons.1 hz with rfl | hz
    ·exact ⟨f1,f2⟩
    ·exact h3 z hz
  ·cases lq
theorem rE (yz:∀ b,spare b=true):∀ (n:Nat) {t:TypeId} {ps:List aj},Il P n t=some ps→∀ {rD:Nat} {cs:List Value} {y:DataW H × List MemPlace},DataW.trod enc P w base spare held rD t cs=some y →
  ∃ kZ,aC (pQ w) w kZ cs∧pR ps kZ∧∀ v∈cs,v.oneCell'=true
 | 0,_,_,h,_,_,_,_=>by cases h
 | n+1,t,ps,h,0,_,_,hy=>by cases hy
 | n+1,t,ps,h,rD+1,cs,y,hy=>by
  unfold Il at h
  unfold DataW.trod at hy
  split at h
  ·rename_i hu
   cases h
   rw [hu] at hy
   cases cs with
   | nil=>cases hy
   | cons v l=>
    cases l with
    | cons v2 l=>(cases v <;> first | (cases hy; done) | (rename_i a; cases a <;> cases hy; done) | (rename_i a b; cases a <;> cases hy; done) | (rename_i a b c; cases a <;> first | (cases hy; done) | (cases b <;> first | (cases hy; done) | (cases c <;> cases hy))))
    | nil=>
     cases v with
     | bool b=>exact ⟨[.bool b],.one (.bool b),⟨rfl,⟨trivial,rfl,rfl,rfl⟩,trivial⟩,by simp [Value.oneCell']⟩
     | pointer a=>cases a <;> cases hy
     | slice a b c=>cases a <;> first | (cases hy; done) | (cases b <;> first | (cases hy; done) | (cases c <;> cases hy))
     | map a=>cases a <;> cases hy
     | chan a=>cases a <;> cases hy
     | _=>cases hy
  ·rename_i k hu
   cases h
   rw [hu] at hy
   cases cs with
   | nil=>cases hy
   | cons v l=>
    cases l with
    | cons v2 l=>(cases v <;> first | (cases hy; done) | (rename_i a; cases a <;> cases hy; done) | (rename_i a b; cases a <;> cases hy; done) | (rename_i a b c; cases a <;> first | (cases hy; done) | (cases b <;> first | (cases hy; done) | (cases c <;> cases hy))))
    | nil=>
     cases v with
     | int k' i=>
      have hy:(if k'=k∧(Lit.int k i).wf=true then some (.lit (.int k i),[]) else none)=some y:=hy
      split at hy
      ·rename_i hc
       obtain ⟨rfl,hw⟩:=hc
       exact ⟨[.int k' i],.one (.int k' i),⟨decide_eq_true rfl,⟨by have h:=hw; simp [Lit.wf] at h; exact h,rfl,rfl,rfl⟩,trivial⟩,by simp [Value.oneCell']⟩
      ·cases hy
     | pointer a=>cases a <;> cases hy
     | slice a b c=>cases a <;> first | (cases hy; done) | (cases b <;> first | (cases hy; done) | (cases c <;> cases hy))
     | map a=>cases a <;> cases hy
     | chan a=>cases a <;> cases hy
     | _=>cases hy
  ·rename_i hu
   cases h
   rw [hu] at hy
   cases cs with
   | nil=>cases hy
   | cons v l=>
    cases l with
    | cons v2 l=>(cases v <;> first | (cases hy; done) | (rename_i a; cases a <;> cases hy; done) | (rename_i a b; cases a <;> cases hy; done) | (rename_i a b c; cases a <;> first | (cases hy; done) | (cases b <;> first | (cases hy; done) | (cases c <;> cases hy))))
    | nil=>
     cases v with
     | string s=>
      have hy:(if s.size≤maxLen then some (.lit (.string s.data.toList),[]) else none)=some y:=hy
      split at hy
      ·rename_i hc
       exact ⟨[.str s.data.toList],.one (.str s.data.toList),⟨rfl,⟨by simpa [aj.wf,aj.bh,AV.PM] using hc,rfl,rfl,rfl⟩,trivial⟩,by simp [Value.oneCell']⟩
      ·cases hy
     | pointer a=>cases a <;> cases hy
     | slice a b c=>cases a <;> first | (cases hy; done) | (cases b <;> first | (cases hy; done) | (cases c <;> cases hy))
     | map a=>cases a <;> cases hy
     | chan a=>cases a <;> cases hy
     | _=>cases hy
  ·rename_i e hu
   rw [hu] at hy
   split at h
   ·rename_i UY u h1 h2
    split at h
    ·rename_i pe h3
     obtain ⟨hz,h⟩:=bc h
     cases h
     have hz:=Nat.le_of_ble_eq_true hz
     cases cs with
     | nil=>cases hy
     | cons v l=>
      cases l with
      | cons v2 l=>(cases v <;> first | (cases hy; done) | (rename_i a; cases a <;> cases hy; done) | (rename_i a b; cases a <;> cases hy; done) | (rename_i a b c; cases a <;> first | (cases hy; done) | (cases b <;> first | (cases hy; done) | (cases c <;> cases hy))))
      | nil=>
       cases v with
       | slice a len cap=>
        cases a with
        | none=>
         have hz:len=0∧cap=0:=by
          cases len with
          | zero=>cases cap with
           | zero=>exact ⟨rfl,rfl⟩
           | succ _=>cases hy
          | succ _=>cases hy
         obtain ⟨rfl,rfl⟩:=hz
         exact ⟨[.list .gX (P.cellsOf e) []],.one .hZ,⟨by simp [aj.fits,allFit],⟨⟨Nat.zero_le _,fun x hx=>by change x∈([]:List pe.T) at hx; cases hx⟩,rfl,rfl,rfl⟩,trivial⟩,by simp [Value.oneCell']⟩
        | some a=>
         have hy:(if base≤a.block∧len≤cap∧cap≤maxLen then
          ((List.range len).mapM (fun i=>(w.cells? base (a.add (i * P.cellsOf e)) (P.cellsOf e)).bind (DataW.trod enc P w base spare held rD e))).bind fun GH=>
           (if spare a.block then (List.range (cap - len)).mapM (fun j=>(w.cells? base (a.add ((len+j) * P.cellsOf e)) (P.cellsOf e)).bind (DataW.trod enc P w base spare held rD e)) else some []).map fun rest=>
            (DataW.slice (GH.map (·.1)) (rest.map (·.1)),MemPlace.row a ((GH.length+rest.length) * P.cellsOf e)++(GH++rest).flatMap (·.2))
          else none)=some y:=hy
         split at hy
         ·rename_i hc
          obtain ⟨GH,k1,hy⟩:=bind_some hy
          rw [if_pos (yz _)] at hy
          by_cases eh:cap=0
          ·subst eh
           have r7:len=0:=Nat.le_zero.1 hc.2.1
           subst r7
           exact ⟨[.list .gX (P.cellsOf e) []],.one .lj,⟨by simp [aj.fits,allFit],⟨⟨Nat.zero_le _,fun x hx=>by change x∈([]:List pe.T) at hx; cases hx⟩,rfl,rfl,rfl⟩,trivial⟩,by simp [Value.oneCell']⟩
          ·have Kv:a.spot=none:=by
            have J2:∃ y,(w.cells? base (a.add (0 * P.cellsOf e)) (P.cellsOf e)).bind (DataW.trod enc P w base spare held rD e)=some y:=by
             by_cases r7:len=0
             ·subst r7
              cases hr:(List.range (cap - 0)).mapM (fun j=>(w.cells? base (a.add ((0+j) * P.cellsOf e)) (P.cellsOf e)).bind (DataW.trod enc P w base spare held rD e)) with
              | none=>rw [hr] at hy; cases hy
              | some r=>
               obtain ⟨z,_,hz⟩:=lY hr 0 0 (by rw [List.getElem?_range (by omega)])
               exact ⟨z,hz⟩
             ·obtain ⟨z,_,hz⟩:=lY k1 0 0 (by rw [List.getElem?_range (by omega)])
              exact ⟨z,hz⟩
            obtain ⟨z,hz'⟩:=J2
            obtain ⟨cs,mX,_⟩:=bind_some hz'
            unfold World.cells? at mX
            split at mX
            ·obtain ⟨v,_,hv⟩:=lY mX 0 0 (by rw [List.getElem?_range (by omega)])
             rw [Nat.zero_mul] at hv
             unfold World.cell? at hv
             split at hv
             ·split at hv
              ·cases hv
              ·rename_i hs
               simpa [Addr.add] using hs
             ·cases hv
            ·cases mX
           obtain ⟨b,off,spot⟩:=a
           have Kv:spot=none:=Kv
           subst Kv
           obtain ⟨es,q1,q2,q3⟩:=zT (fun cs y hy=>rE yz n h1 hy) h3 k1 len 0 (by omega)
           rw [Nat.zero_mul,Nat.add_zero] at q1
           obtain ⟨f1,f2⟩:=GG q3
           refine ⟨[.list .gX (P.cellsOf e) es],.one (.list q1 q2.symm hc.2.1 trivial),⟨?_,⟨⟨?_,f2⟩,rfl,rfl,rfl⟩,trivial⟩,by simp [Value.oneCell']⟩
           ·simp only [aj.fits,Bool.and_eq_true,Bool.or_eq_true]
            exact ⟨.inl (Nat.beq_refl _),f1⟩
           ·have:es.length≤maxLen:=by rw [q2]; omega
            show (es.map pe.bh).length≤maxLen
            rw [List.length_map]
            exact this
         ·cases hy
       | pointer a=>cases a <;> cases hy
       | map a=>cases a <;> cases hy
       | chan a=>cases a <;> cases hy
       | _=>cases hy
    ·cases h
   ·cases h
  ·rename_i fs hu
   rw [hu] at hy
   have hy:(if cs.length=P.cellsOf t then (fs.toList.mapM fun f=>DataW.trod enc P w base spare held rD f.type ((cs.drop f.offset).take (P.cellsOf f.type))).map fun xs=>(.agg (xs.map (·.1)),xs.flatMap (·.2)) else none)=some y:=hy
   split at hy
   ·rename_i hl
    obtain ⟨h1,h2⟩:=bc h
    cases hm:fs.toList.mapM fun f=>DataW.trod enc P w base spare held rD f.type ((cs.drop f.offset).take (P.cellsOf f.type)) with
    | none=>rw [hm] at hy; cases hy
    | some ys=>
     cases ht:rB Field.offset (fun f=>P.cellsOf f.type) 0 fs.toList with
     | none=>rw [ht] at h1; cases h1
     | some m=>
      rw [ht] at h1
      have h1:=Nat.eq_of_beq_eq_true (show Nat.beq m (P.cellsOf t)=true from h1)
      obtain ⟨_,kZ,q1,q2,q3⟩:=xx (R:=pQ w) (w:=w) (off:=Field.offset) (len:=fun f=>P.cellsOf f.type) (cs:=cs) (fun x ps y hx Q4=>rE yz n hx Q4) ht h2 hm
      rw [h1,← hl] at q1 q3
      simp only [List.drop_zero,Nat.sub_zero,List.take_length] at q1 q3
      exact ⟨kZ,q1,q2,q3⟩
   ·cases hy
  ·rename_i m e hu
   rw [hu] at hy
   have hy:(if cs.length=P.cellsOf t then ((List.range m).mapM fun i=>DataW.trod enc P w base spare held rD e ((cs.drop (i * P.cellsOf e)).take (P.cellsOf e))).map fun xs=>(.agg (xs.map (·.1)),xs.flatMap (·.2)) else none)=some y:=hy
   split at hy
   ·rename_i hl
    obtain ⟨h1,h2⟩:=bc h
    cases hm:(List.range m).mapM fun i=>DataW.trod enc P w base spare held rD e ((cs.drop (i * P.cellsOf e)).take (P.cellsOf e)) with
    | none=>rw [hm] at hy; cases hy
    | some ys=>
     cases ht:rB (fun i=>i * P.cellsOf e) (fun _=>P.cellsOf e) 0 (List.range m) with
     | none=>rw [ht] at h1; cases h1
     | some k=>
      rw [ht] at h1
      have h1:=Nat.eq_of_beq_eq_true (show Nat.beq k (P.cellsOf t)=true from h1)
      obtain ⟨_,kZ,q1,q2,q3⟩:=xx (R:=pQ w) (w:=w) (off:=fun i=>i * P.cellsOf e) (len:=fun _=>P.cellsOf e) (cs:=cs) (fun x ps y hx Q4=>rE yz n hx Q4) ht h2 hm
      rw [h1,← hl] at q1 q3
      simp only [List.drop_zero,Nat.sub_zero,List.take_length] at q1 q3
      exact ⟨kZ,q1,q2,q3⟩
   ·cases hy
  ·cases h
def Q5 (P:Program) (n:Nat) (t:TypeId):Option aj:=match P.underlying t with
 | some u=>match Il P n t with
  | some ps=>rC (Go.Am.jk u) ps
  | none=>none
 | none=>none
theorem Nd (yz:∀ b,spare b=true) {n:Nat} {t:TypeId} {p:aj} (hp:Q5 P n t=some p) {v:Value} {d:DataW H} {pl:List MemPlace} {r:Reach} {base':Nat} (ht:DataW.Trod enc P w base spare held t v d pl) (cS:Value.okWide P w r base' t v) :
  ∃ x:p.T,Rel (pQ w) w (p.enc x) v∧p.wf x:=by
 obtain ⟨rD,ht⟩:=ht
 have fin:∀ {a:AV},p.fits a=true→p.wf (p.bh a)→Rel (pQ w) w a v→∃ x:p.T,Rel (pQ w) w (p.enc x) v∧p.wf x:=fun {a} h1 h2 h3=>⟨p.bh a,(p.cD h1).gq _ _ _ h3,h2⟩
 unfold Q5 at hp
 split at hp
 ·rename_i u hu
  split at hp
  ·rename_i ps h1
   obtain ⟨kZ,q1,q2,q3⟩:=rE yz n h1 ht
   obtain ⟨x,hx,f1,f2⟩:=C5 hp q2
   cases Aw:Go.Am.jk u with
   | true=>
    rw [Aw] at hx
    simp only [if_true] at hx
    subst hx
    have:∃ cs,v=.agg cs:=by
     unfold Value.okWide at cS
     rw [hu] at cS
     cases u <;> first | (cases Aw; done) | (obtain ⟨cs,h,_⟩:=cS; exact ⟨cs,h⟩)
    obtain ⟨⟨cs⟩,rfl⟩:=this
    exact fin f1 f2 (.agg q1 q3)
   | false=>
    rw [Aw] at hx
    simp only [Bool.false_eq_true,if_false] at hx
    subst hx
    have hv:v.cells.toList=[v]:=by
     cases v with
     | agg cs=>
      exfalso
      unfold Value.okWide at cS
      rw [hu] at cS
      cases u <;> first | (cases Aw; done) | (simp [Cell.okWide,Cell.ok,hu] at cS)
     | _=>rfl
    rw [hv] at q1
    cases q1 with
    | cons q1 _=>exact fin f1 f2 q1
  ·cases hp
 ·cases hp
def C6 (P:Program) (n:Nat):List TypeId→Option (List aj)
 | []=>some []
 | t :: l=>match Q5 P n t,C6 P n l with
  | some p,some r=>some (p :: r)
  | _,_=>none
theorem C7 (yz:∀ b,spare b=true) {n:Nat} {r:Reach} {base':Nat}:∀ {ts:List TypeId} {ps:List aj} {vs:List Value} {ds:List (DataW H)} {pl:List MemPlace},C6 P n ts=some ps→DataW.TrodAll enc P w base spare held ts vs ds pl →
  (∀ (j:Nat) t v,ts[j]?=some t→vs[j]?=some v→Value.okWide P w r base' t v)→∃ x:(ku ps).T,aC (pQ w) w ((ku ps).enc x) vs∧(ku ps).wf x
 | [],ps,vs,ds,pl,hp,ht,_=>by
  simp only [C6] at hp
  cases hp
  cases vs with
  | nil=>exact ⟨(),.nil,trivial⟩
  | cons _ _=>cases ds <;> exact ht.elim
 | t :: ts,ps,vs,ds,pl,hp,ht,cS=>by
  unfold C6 at hp
  split at hp
  ·rename_i p r h1 h2
   cases hp
   cases vs with
   | nil=>cases ds <;> exact ht.elim
   | cons v vs=>
    cases ds with
    | nil=>exact ht.elim
    | cons d ds=>
     obtain ⟨p1,p2,k1,k2,_⟩:=ht
     obtain ⟨x,q1,q2⟩:=Nd yz h1 k1 (cS 0 t v rfl rfl)
     obtain ⟨y,q3,q4⟩:=C7 yz h2 k2 (fun j t v hj hv=>cS (j+1) t v (by simpa using hj) (by simpa using hv))
     cases r with
     | nil=>
      cases q3
      exact ⟨x,.one q1,q2⟩
     | cons p' r=>exact ⟨(x,y),.cons q1 q3,q2,q4⟩
  ·cases hp
end read
end Go.Am
namespace Go.Am
open Go Go.RowKit Go.WideShapes Go.ChangeShapes
section
variable {H:Type} {enc:TypeId × Value→H} {P:Program}
theorem Fz {f:Func} {s:ChangeSpec} {apart fresh handsOn again:Bool} {W W':World} {args:Array Value} {v:Value} {ds gs:List (DataW H)} {before pa pv:List MemPlace}
  (hW:DataW.Whole enc P f.params.toList s.vars apart W args.toList ds gs before)
  (AT:∀ (b:Nat) (sp:Nat→Bool) (hd:Bool),DataW.TrodAll enc P W' b sp hd f.resultTypes.toList (v.resultList f.resultTypes.size) (s.fn H (ds++gs)).results [])
  (mS:∀ sp:Nat→Bool,(∀ p∈before,sp p.block=true)→DataW.TrodAll enc P W' 0 sp true f.params.toList args.toList (s.fn H (ds++gs)).args pa)
  (C8:∀ sp:Nat→Bool,(∀ p∈before,sp p.block=true)→DataW.TrodVars enc P W' sp s.vars (s.fn H (ds++gs)).vars pv)
  (IQ:before=pa++pv) (hb:Below W.heap.size W W')
  (cS:∀ (j:Nat) (t:TypeId) (r:Value),f.resultTypes[j]?=some t→(v.resultList f.resultTypes.size)[j]?=some r→Value.okWide P W' .any 0 t r) :
  s.post enc P f apart fresh handsOn again W args v W':=by
 have bK:∀ p∈before,p.block < W.heap.size:=fun p hp=>hW.lt p hp
 have hold:∀ p∈before,(fun b=>decide (b < W.heap.size)) p.block=true:=fun p hp=>by simpa using bK p hp
 refine ⟨ds,gs,before,[],pa,pv,hW,AT _ _ _,mS _ hold,C8 _ hold,World.keptBut_mono (fun p hp=>⟨hp,?_⟩) (hb.frame (·∈before)),fun _=>?_⟩
 ·rw [IQ,List.mem_append] at hp
  exact Or.inr hp
 ·obtain ⟨_,_,_,_,_,hz,hn⟩:=hW
  refine ⟨cS,_,_,([]++pa)++pv,⟨[]++pa,pv,trodAll_append (mS _ (fun _ _=>rfl)) (AT _ _ _),C8 _ (fun _ _=>rfl),rfl,?_,?_⟩,?_⟩
  ·intro b off hp
   have yq:MemPlace.cell b off∈before:=by rw [IQ]; simpa using hp
   rw [hb.frozen (bK _ yq)]
   exact hz b off yq
  ·intro ha
   have:=hn ha
   rw [IQ] at this
   simpa using this
  ·intro p hp _
   rw [IQ]
   simpa using hp
theorem pg (hl:laidOutB P=true) {W W':World} (hb:Below W.heap.size W W') {sp:Nat→Bool}:∀ {ts:List TypeId} {vs:List Value} {ds:List (DataW H)} {pl:List MemPlace},
  (∀ t∈ts,P.readableRec t=true∧t < P.types.size)→DataW.TrodAll enc P W 0 (fun _=>true) true ts vs ds pl→(∀ p∈pl,p.block < W.heap.size)→(∀ p∈pl,sp p.block=true) →
  DataW.TrodAll enc P W' 0 sp true ts vs ds pl
 | [],[],[],_,_,h,_,_=>h
 | t :: ts,v :: vs,d :: ds,pl,hr,h,bK,yz=>by
  obtain ⟨p,q,h1,h2,rfl⟩:=h
  refine ⟨p,q,?_,pg hl hb (fun t ht=>hr t (by simp [ht])) h2 (fun x hx=>bK x (by simp [hx])) (fun x hx=>yz x (by simp [hx])),rfl⟩
  exact WideElems.Trod_stays hl (hr t (by simp)).1 (hr t (by simp)).2 h1 (fun x hx=>hb.same (bK x (by simp [hx]))) (fun x hx=>yz x (by simp [hx]))
 | [],[],_ :: _,_,_,h,_,_=>h.elim
 | [],_ :: _,_,_,_,h,_,_=>h.elim
 | _ :: _,[],_,_,_,h,_,_=>h.elim
 | _ :: _,_ :: _,[],_,_,h,_,_=>h.elim
theorem Im {E:Env} {f:FuncId} {fn:Func} {s:ChangeSpec} {ps:List aj} {apart fresh handsOn again:Bool} {W:World} {base:Nat} {args:Array Value} {ds gs:List (DataW H)} {before:List MemPlace} {n tb:Nat}
  (YT:∀ x,(ku ps).wf x→bz E f ((ku ps).enc x) (fun r=>r=.bool true)) (Vf:C6 E.P n fn.params.toList=some ps)
  (C9:∀ (j:Nat) t v,fn.params[j]?=some t→args[j]?=some v→Value.okWide E.P W .any base t v)
  (hW:DataW.Whole enc E.P fn.params.toList s.vars apart W args.toList ds gs before) (Vg:∀ g cs,E.ck g=some cs→dZ (pQ W) W g 0 cs)
  (C8:s.vars=[]) (yz:∀ ds:List (DataW H),ds.length=fn.params.toList.length→s.fn H ds={ results:=[.lit (.bool true)],args:=ds })
  (AT:fn.resultTypes=#[tb]) (hub:E.P.underlying tb=some .bool) (hl:laidOutB E.P=true) (hr:∀ t∈fn.params.toList,E.P.readableRec t=true∧t < E.P.types.size) (vH:E.lo=0:=by rfl) (Nb:∀ g cs,E.ck g=some cs→E.gx g=true→g < W.heap.size∧W.cell? ⟨g,cs.length,none⟩=none:=by intro _ _ _ h; exact Bool.noConfusion (show false=true from h)) :
  Calls E.P f args W fun e W'=>∃ v,e=.returned v∧s.post enc E.P fn apart fresh handsOn again W args v W':=by
 have YU:=hW
 obtain ⟨p,q,hA,hV,rfl,WU,hnd⟩:=hW
 obtain ⟨rfl,rfl⟩:gs=[]∧q=[]:=by
  rw [C8] at hV
  cases gs with
  | nil=>exact ⟨rfl,hV⟩
  | cons g r=>exact absurd hV (by intro h; cases h)
 obtain ⟨x,hx,hwf⟩:=C7 (fun _=>rfl) (n:=n) Vf hA (r:=.any) (base':=base) (fun j t v hj hv=>C9 j t v (by simpa using hj) (by simpa using hv))
 have hlen:ds.length=fn.params.toList.length:=by
  clear C9 WU hnd YU hx hwf yz Vf hr
  revert hA
  generalize fn.params.toList=ts
  generalize args.toList=vs
  generalize p=pl
  clear p
  intro hA
  induction ts generalizing vs ds pl with
  | nil=>cases vs <;> cases ds <;> first | rfl | exact hA.elim
  | cons t ts ih=>
   cases vs with
   | nil=>cases ds <;> exact hA.elim
   | cons v vs=>
    cases ds with
    | nil=>exact hA.elim
    | cons d ds=>
     obtain ⟨p,q,_,h2,_⟩:=hA
     simp [ih vs q h2]
 have hG:dN E (pQ W) W []:=⟨rfl,fun id go ro h=>by simp [nth] at h,fun i j ri rj b h=>by simp [pQ,nth] at h,fun b o h=>h,fun g cs hg=>⟨Vg g cs hg,fun hx=>Nb g cs hg hx⟩,by rw [vH]; exact Nat.zero_le _⟩
 have hc:=(YT x hwf [])
 refine (callsIn_wide.1 (hc.2 (pQ W) W args.toList hG hx)).mono fun e W' he=>?_
 cases e with
 | panicked c=>exact he.elim
 | outgrown=>exact he.elim
 | returned c=>
  obtain ⟨r,G',R',⟨_,rfl⟩,dh,_,st⟩:=he
  cases dh
  have hb:Below W.heap.size W W':=⟨st.os,st.tape,st.output,st.size,fun k hk=>st.bY k hk fun ho=>by
   obtain ⟨id,ro,h1,_⟩:=eC ho
   simp [pQ,nth] at h1⟩
  have bK:∀ y∈p,y.block < W.heap.size:=fun y hy=>by simpa using YU.lt y (by simpa using hy)
  have e1:s.fn H (ds++[])={ results:=[.lit (.bool true)],args:=ds }:=by rw [List.append_nil]; exact yz ds hlen
  refine ⟨_,rfl,Fz (pa:=p) (pv:=[]) YU ?_ ?_ ?_ rfl hb ?_⟩
  ·intro b sp hd
   rw [e1,AT]
   exact trodAll_mk1 (shut_bool hub true)
  ·intro sp YV
   rw [e1]
   exact pg hl hb hr hA bK (fun y hy=>YV y (by simpa using hy))
  ·intro sp _
   rw [e1,C8]
   rfl
  ·intro j t r hj iE
   rw [AT] at hj iE
   cases j with
   | succ j=>simp at hj
   | zero=>
    simp at hj
    subst hj
    have:r=.bool true:=by simpa [Value.resultList] using iE.symm
    subst this
    simp [Value.okWide,Cell.okWide,Cell.ok,hub]
end
end Go.Am
namespace Go.Am
open Go
section
variable {P:Program} {W:World}
end
end Go.Am
namespace Go.Am
open Go
theorem fG {p:aj} (hp:p.plain=true) (l:List p.T):allFit p.fits (List.map p.enc l)=true:=by
 induction l with
 | nil=>rfl
 | cons x l ih=>simp [allFit,ih,(p.bU x hp).1]
theorem kw {p:aj} (hp:p.plain=true) (l:List p.T):List.map p.bh (List.map p.enc l)=l:=by
 induction l with
 | nil=>rfl
 | cons x l ih=>simp [ih,(p.bU x hp).2]
end Go.Am
namespace Go.Am
open Go Go.RowKit
section
variable {E:Env} {R:af} {w w':World}
theorem Below.Q6 (h:Below w.heap.size w w') (wf:∀ b o,R.I b o→b < w.heap.size):Ext R w R w':=
 ⟨fun _ _ h=>h,fun b o hi=>bC (h.block b (wf b o hi)) o,fun _ ro h=>⟨ro,h,bQ.refl ro⟩,.old fun b hb=>h.block b hb⟩
theorem Below.Vh {G:List GO} (h:Below w.heap.size w w') (hg:dN E R w G) (hE:E.lo=0):dN E R w' G:=
 hg.bY (Below.Q6 h hg.wf) rfl (fun b hb=>h.block b (hg.bE hb)) (fun _ _ _ hi=>hi) (fun b o hi=>Nat.lt_of_lt_of_le (hg.wf b o hi) h.size) (fun _=>by rw [hE]; exact Nat.zero_le _)
theorem Below.Px {β:Nat→Nat} {bx:cp} (h:Below w.heap.size w w') (wf:∀ b o,R.I b o→b < w.heap.size):Step R w β bx R w' β bx:=
 ⟨Below.Q6 h wf,h.os,h.tape,h.output,h.size,fun b hb _=>h.block b hb,fun _ _ ho=>ho,fun _ _ hi _ _=>hi⟩
theorem bz.below {g:FuncId} {args:List AV} {r:AV} (hp:Plain E.P g)
  (h:∀ (R:af) (w:World) (cs:List Value),aC R w args cs→Calls E.P g ⟨cs⟩ w (fun e w'=>∃ v,e=.returned v∧(∀ R,Rel R w' r v)∧Below w.heap.size w w')) (hE:E.lo=0):bz E g args (fun r'=>r'=r):=fun G=>
 ⟨hp,fun R w cs hg hl=>callsIn_wide.2 ((h R w cs hl).mono fun e w' ⟨v,he,hv,hb⟩=>by
  subst he
  exact ⟨r,G,R,⟨rfl,rfl⟩,hv R,Below.Vh hb hg hE,Below.Px hb hg.wf⟩)⟩
theorem Plain.of {P : Program} {g : FuncId} {fn : Func} (h : P.funcs[g]? = some fn) (h1 : fn.body.isNone = false) (h2 : (fn.name == "runtime.NumGoroutine") = false) : Plain P g := ⟨fn, h, h1, h2⟩
end
def p2 (a b:aj):aK:=.cons a (.cons b .nil)
def p1 (a:aj):aK:=.cons a .nil
def dQ (s:List UInt8):Nat→List UInt8
 | 0=>[]
 | n+1=>s++dQ s n
def uZ (x:List UInt8 × Int):Option (List UInt8):=bif decide (0≤x.2)&&decide (x.2≤9223372036854775807)&&decide (x.1.length * x.2.toNat≤140737488355328) then some (dQ x.1 x.2.toNat) else none
def rF:List (List UInt8)→List UInt8→List UInt8
 | [],_=>[]
 | [a],_=>a
 | a :: l,sep=>a++sep++rF l sep
def Vi (x:List (List UInt8) × List UInt8):Option (List UInt8):=bif decide (x.1.length≤140737488355328)&&decide ((rF x.1 x.2).length≤140737488355328) then some (rF x.1 x.2) else none
def Bm:bl:=⟨p2 .str (.int .i64),.str,uZ⟩
def FA:bl:=⟨p2 (.list 1 .str) .str,.str,Vi⟩
section
variable {E:Env}
theorem xy {c:Bool} {a x:List UInt8} (h:(bif c then some a else none)=some x):c=true∧a=x:=by
 cases c
 ·cases h
 ·exact ⟨rfl,Option.some.inj h⟩
theorem Io {g:FuncId} (hp:Plain E.P g)
  (h:∀ (s:ByteArray) (c:Nat) (w:World),c≤9223372036854775807→s.size * c≤140737488355328→Calls E.P g #[.string s,.int .i64 c] w fun e w'=>e=.returned (.string ⟨(dQ s.data.toList c).toArray⟩)∧Below w.heap.size w w') (hE:E.lo=0:=by rfl):av E g Bm:=fun x y hT=>by
 obtain ⟨s,n,rfl⟩:∃ (s:List UInt8) (n:Int),x=(s,n):=⟨x.1,x.2,rfl⟩
 obtain ⟨h1,h2⟩:=xy (show (bif decide (0≤n)&&decide (n≤9223372036854775807)&&decide (s.length * n.toNat≤140737488355328) then some (dQ s n.toNat) else none)=some y from hT)
 subst h2
 rw [Bool.and_eq_true,Bool.and_eq_true] at h1
 have a:=of_decide_eq_true h1.1.1
 have b:=of_decide_eq_true h1.1.2
 have c:=of_decide_eq_true h1.2
 obtain ⟨i,rfl⟩:∃ i:Nat,n=i:=⟨n.toNat,by omega⟩
 refine bz.below hp (fun R w cs hl=>?_) hE
 cases hl with
 | cons a1 hl=>
 cases hl with
 | cons a2 hl=>
 cases hl
 cases a1; cases a2
 refine (h ⟨⟨s⟩⟩ i w (by omega) c).mono ?_
 rintro e w' ⟨rfl,hb⟩
 exact ⟨_,rfl,fun _=>Rel.str _,hb⟩
theorem zU {R:af} {w:World} {b:Nat}:∀ {xs:List (List UInt8)} {o:Nat},fM R w b o 1 (xs.map (fun l=>AV.str l))→∀ (j:Nat) x,(xs.map fun l=>(⟨⟨l⟩⟩:ByteArray))[j]?=some x→w.cell? ⟨b,o+j,none⟩=some (.string x)
 | [],_,_,j,x,h=>by simp at h
 | a :: xs,o,.cons _ _ _ hc t,0,x,h=>by
  cases hc with
  | cons h1 h2 h3 h4 h5=>
  cases h4
  simp only [List.map_cons,List.getElem?_cons_zero] at h
  cases h
  exact h1
 | a :: xs,o,.cons _ _ _ hc t,j+1,x,h=>by
  simp only [List.map_cons,List.getElem?_cons_succ] at h
  have:=zU t j x h
  rw [show o+(j+1)=o+1+j by omega]
  exact this
theorem Nf {g:FuncId} (hp:Plain E.P g)
  (h0:∀ (a:Option Addr) (c:Nat) (sep:ByteArray) (w:World),Calls E.P g #[.slice a 0 c,.string sep] w fun e w'=>e=.returned (.string ⟨#[]⟩)∧w'=w)
  (h:∀ (bk o c:Nat) (xs:List ByteArray) (sep:ByteArray) (w:World),(∀ (j:Nat) x,xs[j]?=some x→w.cell? ⟨bk,o+j,none⟩=some (.string x))→bk < w.heap.size→xs.length≤140737488355328→xs.length≤c→(rF (xs.map (·.data.toList)) sep.data.toList).length≤140737488355328 →
   Calls E.P g #[.slice (some ⟨bk,o,none⟩) xs.length c,.string sep] w fun e w'=>e=.returned (.string ⟨(rF (xs.map (·.data.toList)) sep.data.toList).toArray⟩)∧Below w.heap.size w w') (hE:E.lo=0:=by rfl):av E g FA:=fun x y hT=>by
 obtain ⟨xs,sep,rfl⟩:∃ (xs:List (List UInt8)) (sep:List UInt8),x=(xs,sep):=⟨x.1,x.2,rfl⟩
 obtain ⟨h1,h2⟩:=xy (show (bif decide (xs.length≤140737488355328)&&decide ((rF xs sep).length≤140737488355328) then some (rF xs sep) else none)=some y from hT)
 subst h2
 rw [Bool.and_eq_true] at h1
 have b1:=of_decide_eq_true h1.1
 have b2:=of_decide_eq_true h1.2
 refine bz.below hp (fun R w cs hl=>?_) hE
 cases hl with
 | @cons _ c1 _ _ a1 hl=>
 cases hl with
 | cons a2 hl=>
 cases hl
 cases a2
 have key:(xs=[]∧∃ a c',c1=.slice a 0 c')∨∃ bk o c',c1=.slice (some ⟨bk,o,none⟩) xs.length c'∧xs.length≤c'∧fM R w bk o 1 (xs.map (fun l=>AV.str l)):=by
  have a1':Rel R w (.list .gX 1 (xs.map (fun l=>AV.str l))) c1:=a1
  generalize he:xs.map (fun l=>AV.str l)=es at a1'
  cases a1' with
  | hZ=>exact .inl ⟨by simpa using he,none,0,rfl⟩
  | @lj _ ad=>exact .inl ⟨by simpa using he,some ad,0,rfl⟩
  | list h hl hc hk=>
   rw [← he,List.length_map] at hl
   subst hl
   exact .inr ⟨_,_,_,rfl,hc,h⟩
 by_cases hx:xs=[]
 ·subst hx
  obtain ⟨a,c',rfl⟩:∃ a c',c1=.slice a 0 c':=by
   rcases key with ⟨_,hk⟩ | ⟨bk,o,c',rfl,_⟩
   ·exact hk
   ·exact ⟨_,_,rfl⟩
  refine (h0 a c' ⟨⟨sep⟩⟩ w).mono ?_
  rintro e w' ⟨rfl,rfl⟩
  exact ⟨_,rfl,fun _=>Rel.str _,Below.refl _ _⟩
 ·rcases key with ⟨hk,_⟩ | ⟨bk,o,c',rfl,hc,hE⟩
  ·exact absurd hk hx
  ·have gj:=zU hE
   have XO:bk < w.heap.size:=by
    match xs,hx with
    | x :: xs,_=>
     have:=gj 0 ⟨⟨x⟩⟩ rfl
     unfold World.cell? at this
     rcases Nat.lt_or_ge bk w.heap.size with h' | h'
     ·exact h'
     ·rw [Array.getElem?_eq_none (by simpa using h')] at this
      cases this
   have hm:(xs.map fun l=>(⟨⟨l⟩⟩:ByteArray)).map (fun x=>x.data.toList)=xs:=by simp [List.map_map,Function.comp_def]
   have:=h bk o c' (xs.map fun l=>(⟨⟨l⟩⟩:ByteArray)) ⟨⟨sep⟩⟩ w gj XO (by rw [List.length_map]; exact b1) (by rw [List.length_map]; exact hc) (by rw [hm]; exact b2)
   rw [hm,List.length_map] at this
   refine this.mono ?_
   rintro e w' ⟨rfl,hb⟩
   exact ⟨_,rfl,fun _=>Rel.str _,hb⟩
end
end Go.Am
namespace Go.Am
open Go
theorem jA {x:Int} (h:-9223372036854775808≤x∧x≤9223372036854775807):IntKind.wrap .i64 x=x:=IntWalk.i64_in x (by omega)
def gU (N:Nat):Prop:=18446744073709551616≤N
theorem bf {V X:Type} (rd:V→Option (V ⊕ X)) (n:Nat) (v:V):aZ rd (n+1) v=(rd v).bind fun o=>Sum.elim (fun v'=>aZ rd n v') (fun x=>some x) o:=rfl
theorem gB {α:Type} (g:α→AV) (xs:List α) (k:Nat) (h:k < xs.length):aw (xs.map g) k=g xs[k]:=by
 unfold aw
 rw [aG,List.getElem?_map,List.getElem?_eq_getElem h]
 rfl
def low (a b:Int):Int × Int:=(a / (Int.gcd a b:Int),b / (Int.gcd a b:Int))
def foldI {S α Y:Type} (st:S→α→S ⊕ Y):S→List α→S ⊕ Y
 | s,[]=>.inl s
 | s,a :: l=>Sum.elim (fun s'=>foldI st s' l) (fun y=>.inr y) (st s a)
theorem ky {V X S α Y:Type} {rd:V→Option (V ⊕ X)} (l:List α) (E:S→Nat→V) (st:S→α→S ⊕ Y) (fin:S→X) (ex:Y→X) (P:S→Nat→Prop)
  (h:∀ s k (hk:k < l.length),P s k→rd (E s k)=some (Sum.map (fun s'=>E s' (k+1)) ex (st s l[k]))∧∀ s',st s l[k]=.inl s'→P s' (k+1))
  (h0:∀ s,P s l.length→rd (E s l.length)=some (.inr (fin s))) :
  ∀ n s k,k≤l.length→l.length < n+k→P s k→aZ rd n (E s k)=some (Sum.elim fin ex (foldI st s (l.drop k)))
 | 0,s,k,hk,hn,_=>by omega
 | n+1,s,k,hk,hn,hP=>by
  rw [bf]
  by_cases bK:k < l.length
  ·obtain ⟨h1,h2⟩:=h s k bK hP
   rw [h1,List.drop_eq_getElem_cons bK]
   simp only [Option.bind_some,foldI]
   cases hs:st s l[k] with
   | inl s'=>
    simp only [Sum.map_inl,Sum.elim_inl]
    exact ky l E st fin ex P h h0 n s' (k+1) (by omega) (by omega) (h2 s' hs)
   | inr y=>simp only [Sum.map_inr,Sum.elim_inr]
  ·have:k=l.length:=by omega
   subst this
   rw [h0 s hP,List.drop_eq_nil_of_le (Nat.le_refl _)]
   rfl
theorem lf {V X S α:Type} {rd:V→Option (V ⊕ X)} (l:List α) (E:S→Nat→V) (f:S→α→S) (fin:S→X) (P:S→Nat→Prop)
  (h:∀ s k (hk:k < l.length),P s k→rd (E s k)=some (.inl (E (f s l[k]) (k+1)))∧P (f s l[k]) (k+1))
  (h0:∀ s,P s l.length→rd (E s l.length)=some (.inr (fin s))) :
  ∀ n s k,k≤l.length→l.length < n+k→P s k→aZ rd n (E s k)=some (fin ((l.drop k).foldl f s))
 | 0,s,k,hk,hn,_=>by omega
 | n+1,s,k,hk,hn,hP=>by
  rw [bf]
  by_cases bK:k < l.length
  ·obtain ⟨h1,h2⟩:=h s k bK hP
   rw [h1,List.drop_eq_getElem_cons bK]
   simp only [Option.bind_some,Sum.elim_inl,List.foldl_cons]
   exact lf l E f fin P h h0 n _ (k+1) (by omega) (by omega) h2
  ·have:k=l.length:=by omega
   subst this
   rw [h0 s hP,List.drop_eq_nil_of_le (Nat.le_refl _)]
   rfl
theorem fH {V X:Type} {rd:V→Option (V ⊕ X)} (m:Nat) (E:Nat→V) (x:X) (h:∀ k,k < m→rd (E k)=some (.inl (E (k+1)))) (h0:rd (E m)=some (.inr x)) :
  ∀ n k,k≤m→m < n+k→aZ rd n (E k)=some x
 | 0,k,hk,hn=>by omega
 | n+1,k,hk,hn=>by
  rw [bf]
  by_cases bK:k < m
  ·rw [h k bK]
   simp only [Option.bind_some,Sum.elim_inl]
   exact fH m E x h h0 n (k+1) (by omega) (by omega)
  ·have:k=m:=by omega
   subst this
   rw [h0]
   rfl
theorem bP {k n:Nat} (h:k < n):decide (0≤(k:Int)∧(k:Int) < (n:Int))=true:=by simp; omega
theorem cu {k n:Nat} (h:k < n):decide ((k:Int) < (n:Int))=true:=by simpa using h
theorem du (n:Nat):decide ((n:Int) < (n:Int))=false:=by simp
theorem dy {k:Nat} (h:k < 9223372036854775807):IntKind.wrap .i64 ((k:Int)+1)=((k+1:Nat):Int):=by rw [jA (by omega)]; simp
def uz (n lo hi:Int):Int:=if n < lo∨n > hi then 3 else 0
def bg:List Int→Int
 | []=>0
 | x :: l=>if x=0 then bg l else x
theorem xz (a b:List Int):bg (a++b)=if bg a=0 then bg b else bg a:=by
 induction a with
 | nil=>simp [bg]
 | cons x a ih=>
  simp only [List.cons_append,bg]
  by_cases h:x=0
  ·simp [h,ih]
  ·simp [h]
theorem iq {l:List Int}:bg l=0↔∀ x∈l,x=0:=by
 induction l with
 | nil=>simp [bg]
 | cons x l ih=>
  simp only [bg,List.mem_cons,forall_eq_or_imp]
  by_cases h:x=0
  ·simp [h,ih]
  ·simp [h]
theorem pS {rd:Int→Option (Int ⊕ (Int ⊕ Unit))} (l:List Int)
  (h:∀ k (hk:k < l.length),rd (k:Int)=some (if l[k]=0 then .inl ((k+1:Nat):Int) else .inr (.inl l[k]))) (h0:rd (l.length:Int)=some (.inr (.inr ()))) (n:Nat) (hn:l.length < n) :
  ∃ o,aZ rd n 0=some o∧Sum.elim (fun x=>x) (fun _=>0) o=bg l:=by
 have key:=ky (rd:=rd) (S:=Unit) (Y:=Int) l (fun _ k=>(k:Int)) (fun _ x=>if x=0 then .inl () else .inr x) (fun _=>.inr ()) (fun x=>.inl x) (fun _ _=>True)
  (fun s k hk _=>⟨by rw [h k hk]; by_cases e:l[k]=0 <;> simp [e],fun _ _=>trivial⟩) (fun _ _=>h0) n () 0 (Nat.zero_le _) (by omega) trivial
 refine ⟨_,key,?_⟩
 rw [List.drop_zero]
 clear key h h0 hn
 induction l with
 | nil=>rfl
 | cons x l ih=>
  simp only [foldI,bg]
  by_cases e:x=0
  ·simp only [e,if_true,Sum.elim_inl]; exact ih
  ·simp [e]
theorem tY {rd:Int→Option (Int ⊕ (Int ⊕ Unit))} (l:List Int)
  (h:∀ k (hk:k < l.length),rd (k:Int)=some (if l[k]=0 then .inl ((k+1:Nat):Int) else .inr (.inl l[k]))) (h0:rd (l.length:Int)=some (.inr (.inr ()))) (n:Nat) (hn:l.length < n) :
  aZ rd n 0=some (if bg l=0 then .inr () else .inl (bg l)):=by
 have key:=ky (rd:=rd) (S:=Unit) (Y:=Int) l (fun _ k=>(k:Int)) (fun _ x=>if x=0 then .inl () else .inr x) (fun _=>.inr ()) (fun x=>.inl x) (fun _ _=>True)
  (fun s k hk _=>⟨by rw [h k hk]; by_cases e:l[k]=0 <;> simp [e],fun _ _=>trivial⟩) (fun _ _=>h0) n () 0 (Nat.zero_le _) (by omega) trivial
 rw [List.drop_zero] at key
 refine key.trans (congrArg some ?_)
 clear key h h0 hn
 induction l with
 | nil=>rfl
 | cons x l ih=>
  simp only [foldI,bg]
  by_cases e:x=0
  ·simp only [e,if_true,Sum.elim_inl]; exact ih
  ·simp [e]
theorem Ng (s:List UInt8) (k:Nat) (hk:k < s.length):((s[k].toNat < 128)→bJ s k=(s[k].toNat,1))∧(128≤s[k].toNat→128≤(bJ s k).1):=by
 have e1:s.getD k 0=s[k]:=by simp [hk]
 constructor
 ·intro h
  have:Nat.blt s[k].toNat 128=true:=Nat.ble_eq_true_of_le h
  unfold bJ
  rw [e1,this]
  rfl
 ·intro h
  have:Nat.blt s[k].toNat 128=false:=by
   cases hb:Nat.blt s[k].toNat 128 with
   | false=>rfl
   | true=>have:=Nat.le_of_ble_eq_true hb; omega
  unfold bJ
  rw [e1,this]
  simp only [cond_false]
  have e2:((⟨⟨s⟩⟩:ByteArray).get! (k+0)).toNat=s[k].toNat:=by
   simp [ByteArray.get!,hk]
  unfold Utf8.decode
  simp only [e2,if_neg (by omega:¬ s[k].toNat < 128)]
  have hr:(128:Nat)≤Utf8.runeError:=by decide
  repeat' split
  all_goals first | exact hr | skip
  all_goals simp_all
  all_goals omega
theorem Vj {x:Int} (h:x≠0):(x == 0)=false:=by simpa using h
theorem Nh {x:Int} (h:x≠0):(x != 0)=true:=by simpa using h
end Go.Am
namespace Go.Am
open Go Go.RowKit Go.Proofs Go.Shelf Go.Sort
def FH:AV→Value
 | .bool b=>.bool b
 | .int k n=>.int k n
 | .str l=>.string ⟨⟨l⟩⟩
 | _=>.bool false
theorem Li {R:af} {w:World} {a:AV} {c:Value} (ha:gC a=true) (h:Rel R w a c):c=FH a:=by
 cases a <;> first | (cases ha; done) | (cases h; rfl)
theorem Lj {R:af} {w:World} {a:AV} (ha:gC a=true):Rel R w a (FH a):=by
 cases a <;> first | (cases ha; done) | constructor
theorem Ab {R:af} {w:World}:∀ {l:List AV} {vs:List Value},(∀ a∈l,gC a=true)→aC R w l vs→vs=l.map FH
 | [],_,_,h=>by cases h; rfl
 | a :: l,_,hs,.cons h t=>by
  rw [Li (hs a (by simp)) h,Ab (fun b hb=>hs b (by simp [hb])) t]
  rfl
theorem sT {R:af} {w:World}:∀ {l:List AV},(∀ a∈l,gC a=true)→aC R w l (l.map FH)
 | [],_=>.nil
 | a :: l,hs=>.cons (Lj (hs a (by simp))) (sT fun b hb=>hs b (by simp [hb]))
theorem xO {a:AV} (ha:gC a=true):(FH a).oneCell'=true:=by
 cases a <;> first | (cases ha; done) | rfl
structure rS (P:Program) (ck:Nat→Option (List AV)) (c:FuncId) (p:aj) (k:Nat) (cf:p.T→p.T→Int):Prop where
 flat:p.flat=true
 size:∀ x,(p.enc x).cells.length=k
 Ix:∀ x,∀ a∈(p.enc x).cells,gC a=true
 agg:∀ x,∃ cs,p.enc x=.agg cs
 calls:∀ (E:Env),E.P=P→E.ck=ck→E.gx=(fun _=>false)→∀ x y,bz E c [p.enc x,p.enc y] (fun r=>r=.int .i64 (cf x y))
 swo:SWO (ltOf cf)
 Zp:∀ x y,(ltOf cf) x y=false→(ltOf cf) y x=false→x=y
def dR (p:aj) (cf:p.T→p.T→Int) (es:List AV):List AV:=(((es.map p.bh).mergeSort fun x y=>!(ltOf cf) y x)).map p.enc
def GQ (p:aj) (cf:p.T→p.T→Int) (sz:Nat) (el:TypeId) (c:FuncId):List AV→List GO→Option (Bool × AV × List GO)
 | [.cT id f off sz1 len,.fn c' [] []],G=>match nth G id with
  | some (.cK es iu Qt)=>if Nat.beq c c'&&Nat.beq off 0&&Nat.beq sz1 sz&&Nat.beq iu sz&&Nat.beq Qt el then
    some (decide (f=es.length)&&decide (len=es.length)&&decide (es.length≤140737488355328)&&allFit p.fits es,.bF [],au G id (.cK (dR p cf es) sz el)) else none
  | _=>none
 | _,_=>none
theorem yW {W W':World} (h:Below W.heap.size W W') (hd:W.drawn≤W'.drawn):∃ q os,W'=Sort.grow (W.drewN q) os:=by
 refine ⟨W'.drawn - W.drawn,W'.heap.extract W.heap.size W'.heap.size,?_⟩
 have hh:W'.heap=W.heap++W'.heap.extract W.heap.size W'.heap.size:=by
  apply Array.ext_getElem?
  intro i
  by_cases hi:i < W.heap.size
  ·rw [Array.getElem?_append_left hi]
   exact h.block i hi
  ·rw [Array.getElem?_append_right (by omega),Array.getElem?_extract]
   have hs:=h.size
   by_cases hj:i < W'.heap.size
   ·rw [if_pos (by omega)]
    congr 1
    omega
   ·rw [if_neg (by omega),Array.getElem?_eq_none (by omega)]
 obtain ⟨hp,tp,dr,os,out⟩:=W'
 have h1:=h.os
 have h2:=h.tape
 have h3:=h.output
 simp only at hh h1 h2 h3 hd
 unfold Sort.grow World.drewN
 simp only
 rw [← hh,h1,h2,h3]
 congr 1
 omega
def ga (p:aj) (x:p.T):List Value:=((p.enc x).cells).map FH
theorem rT {α:Type} [Inhabited α] {enc:α→List Value} {k:Nat} (hk:∀ x,(enc x).length=k):∀ (l:List α) (t:Nat),t < l.length * k→(l.flatMap enc)[t]?=some ((enc l[t / k]!)[t % k]!)
 | [],t,h=>by simp at h
 | x :: l,t,h=>by
  have yx:0 < k:=by
   rcases Nat.eq_zero_or_pos k with h0 | h0
   ·rw [h0] at h; omega
   ·exact h0
  rw [List.flatMap_cons]
  by_cases ht:t < k
  ·rw [List.getElem?_append_left (by rw [hk]; exact ht),Nat.div_eq_of_lt ht,Nat.mod_eq_of_lt ht]
   have hl:t < (enc x).length:=by rw [hk]; exact ht
   simp [hl]
  ·have ht:k≤t:=Nat.le_of_not_lt ht
   rw [List.getElem?_append_right (by rw [hk]; exact ht),hk]
   have h':t - k < l.length * k:=by
    rw [List.length_cons,Nat.add_mul,Nat.one_mul] at h
    omega
   rw [rT hk l (t - k) h']
   have e1:t / k=(t - k) / k+1:=by
    rw [Nat.div_eq_sub_div yx ht]
   have e2:t % k=(t - k) % k:=Nat.mod_eq_sub_mod ht
   rw [e1,e2]
   simp
theorem Ac {α:Type} [Inhabited α] {enc:α→List Value} {k:Nat} (hk:∀ x,(enc x).length=k) (d:Array α):(flatK enc k d).toList=d.toList.flatMap enc:=by
 have hl:(d.toList.flatMap enc).length=d.size * k:=by
  obtain ⟨l⟩:=d
  show (l.flatMap enc).length=l.length * k
  induction l with
  | nil=>simp
  | cons x l ih=>rw [List.flatMap_cons,List.length_append,hk,ih,List.length_cons,Nat.add_mul,Nat.one_mul,Nat.add_comm]
 apply List.ext_getElem?
 intro t
 by_cases ht:t < d.size * k
 ·have h1:=rT hk d.toList t (by simpa using ht)
  rw [h1]
  have hs:t < (flatK enc k d).size:=by rw [size_flatK]; exact ht
  have h2:=get_flatK enc k d t ht
  rw [getElem!_pos (flatK enc k d) t hs] at h2
  have e:∀ i:Nat,d[i]! = d.toList[i]!:=fun i=>by rw [getElem!_def,getElem!_def,Array.getElem?_toList]
  rw [Array.getElem?_toList,Array.getElem?_eq_getElem hs,h2,e]
 ·rw [List.getElem?_eq_none (by rw [Array.length_toList,size_flatK]; omega),List.getElem?_eq_none (by rw [hl]; omega)]
theorem pV (p:aj):∀ (xs:List p.T),(ar (xs.map p.enc)).map FH=xs.flatMap (ga p)
 | []=>rfl
 | x :: xs=>by
  rw [List.map_cons,ar,List.map_append,pV p xs,List.flatMap_cons]
  rfl
theorem rU {w:World} {b:Nat} {cur:Array Value} {el:TypeId} (h:w.heap[b]?=some (.cells cur el (0,0))) (f:Array Value→Array Value):mapBlock w b f=w.setRow b (f cur):=by
 unfold mapBlock World.setRow
 congr 1
 apply Array.ext_getElem?
 intro i
 rw [Array.getElem?_modify,Array.getElem?_modify]
 by_cases e:b=i
 ·subst e
  rw [if_pos rfl,if_pos rfl,h]
  rfl
 ·rw [if_neg e,if_neg e]
section
variable {E:Env} {ρ:Ren} {c:FuncId} {p:aj} {k:Nat} {cf:p.T→p.T→Int} [Inhabited p.T]
theorem xP (hC:rS E.P E.ck c p k cf) (x:p.T):(ga p x).length=k:=by
 unfold ga
 rw [List.length_map,hC.size]
theorem Lk (Nb:E.gx=fun _=>false) (hC:rS E.P E.ck c p k cf) {R:af} {w:World} {G:List GO} (hg:dN E R w G) {b:Nat} {cur:Array Value} {el:TypeId} (hb:w.heap[b]?=some (.cells cur el (0,0))) (hI:∀ o,¬ R.I b o) (size:Nat) :
  CmpLays E.P c #[] (ga p) k cf b 0 size w:=by
 intro m os dk _ x y
 have e1:putRowK (ga p) k (Sort.ahead w m) b 0 dk=(Sort.ahead w m).setRow b (putCells id 0 (flatK (ga p) k dk) cur):=rU (w:=Sort.ahead w m) hb _
 have hW:sortWorldK (ga p) k w b 0 m dk os=Sort.grow ((Sort.ahead w m).setRow b (putCells id 0 (flatK (ga p) k dk) cur)) os:=by
  unfold sortWorldK
  rw [e1]
 rw [hW]
 generalize putCells id 0 (flatK (ga p) k dk) cur=cur2
 have eA:Ext R w R (Sort.ahead w m):=⟨fun _ _ h=>h,fun _ _ _=>rfl,fun _ ro h=>⟨ro,h,bQ.refl ro⟩,.old fun _ _=>rfl⟩
 have eS:Ext R (Sort.ahead w m) R ((Sort.ahead w m).setRow b cur2):=fy hI cur2
 have Ll:Below ((Sort.ahead w m).setRow b cur2).heap.size ((Sort.ahead w m).setRow b cur2) (Sort.grow ((Sort.ahead w m).setRow b cur2) os):=by
  refine ⟨rfl,rfl,rfl,?_,fun i hi=>?_⟩
  ·show _≤(((Sort.ahead w m).setRow b cur2).heap++os).size
   rw [Array.size_append]; exact Nat.le_add_right _ _
  ·show (((Sort.ahead w m).setRow b cur2).heap++os)[i]?=_
   rw [Array.getElem?_append_left hi]
 have dx:((Sort.ahead w m).setRow b cur2).heap.size=w.heap.size:=by unfold World.setRow; simp [Sort.ahead]
 have eG:Ext R ((Sort.ahead w m).setRow b cur2) R (Sort.grow ((Sort.ahead w m).setRow b cur2) os):=Below.Q6 Ll fun b' o hi=>by rw [dx]; exact hg.wf b' o hi
 have eW:=(eA.trans eS).trans eG
 generalize hWd:Sort.grow ((Sort.ahead w m).setRow b cur2) os=W at *
 have hWs:w.heap.size≤W.heap.size:=by rw [← dx]; exact Ll.size
 let E':Env:={ E with lo:=W.drawn }
 let R0:af:=⟨R.I,[]⟩
 have m0:Mv R R0 0:=⟨fun _ _ h=>h,fun _ _ h=>absurd h (Nat.not_lt_zero _)⟩
 have O3:dN E' R0 W []:=⟨rfl,fun id go ro h1 _=>by simp [nth] at h1,fun i j ri rj b h1=>by simp [R0,nth] at h1,fun b o h=>Nat.lt_of_lt_of_le (hg.wf b o h) hWs,
  fun g cs r8=>((hg.ck g cs r8).mono eW).move m0 (cm _ (E.vg g cs r8)),Nat.le_refl _⟩
 have dh:∀ z:p.T,Rel R0 W (p.enc z) (.agg (ga p z).toArray):=fun z=>by
  obtain ⟨cs,mX⟩:=hC.agg z
  have hs:=hC.Ix z
  unfold ga
  rw [mX] at hs ⊢
  refine Rel.agg (sT hs) fun v hv=>?_
  obtain ⟨a,ha,rfl⟩:=List.mem_map.1 hv
  exact xO (hs a ha)
 have hc:=(hC.calls E' rfl rfl Nb x y []).2 R0 W [.agg (ga p x).toArray,.agg (ga p y).toArray] O3 (.cons (dh x) (.one (dh y)))
 refine (callsIn_wide.1 hc).mono fun e w' he=>?_
 cases e with
 | panicked c=>exact he.elim
 | outgrown=>exact he.elim
 | returned cv=>
  obtain ⟨r,G',R1,⟨rfl,rfl⟩,hr,M2,st⟩:=he
  have PT:cv=.int .i64 (cf x y):=by cases hr; rfl
  subst PT
  have iX:∀ b,¬ Own R0 (fun _=>0) gN b:=fun b ho=>by
   obtain ⟨id,ro,h1,_⟩:=eC ho
   simp [R0,nth] at h1
  refine ⟨rfl,yW ⟨st.os,st.tape,st.output,st.size,fun i hi=>st.bY i hi (iX i)⟩ M2.lo⟩
theorem De {p:aj} (hp:p.flat=true):∀ es:List AV,allFit p.fits es=true→es=(es.map p.bh).map p.enc
 | [],_=>rfl
 | a :: es,h=>by
  simp only [allFit,Bool.and_eq_true] at h
  rw [List.map_cons,List.map_cons,← De hp es h.2,aj.jf hp h.1]
theorem Df (L:SlLaysF0.n6 E.P ρ) (hp:Plain E.P (ρ.f 6)) (hc:Plain E.P c) (aE:∀ w,(isAgg (ρ.t 24)).run E.P w=.ok true w) (zE:∀ w,(Go.sizeOf (ρ.t 24)).run E.P w=.ok k w) (hC:rS E.P E.ck c p k cf) (hE:E.lo=0) (yx:1≤k) {el:TypeId} (Nb:E.gx=fun _=>false:=by rfl) :
  ∀ (args:List AV) (G:List GO) (r:AV) (G':List GO),GQ p cf k el c args G=some (true,r,G')→cJ E (ρ.f 6) args G (fun r' Po=>r'=r∧Po=G'):=by
 intro args G r G' h
 unfold GQ at h
 split at h
 ·rename_i G1 oid f off sz1 len c'
  split at h
  ·rename_i es iu Qt aX
   split at h
   ·rename_i bH
    simp only [Bool.and_eq_true] at bH
    obtain ⟨⟨⟨⟨q1,q2⟩,q3⟩,q4⟩,q5⟩:=bH
    have q1:=Nat.eq_of_beq_eq_true q1
    have q2:=Nat.eq_of_beq_eq_true q2
    have q3:=Nat.eq_of_beq_eq_true q3
    have q4:=Nat.eq_of_beq_eq_true q4
    have q5:=Nat.eq_of_beq_eq_true q5
    subst q1; subst q2; subst q3; subst q4; subst q5
    injection h with h
    injection h with h1 h
    injection h with h2 h3
    subst h2; subst h3
    simp only [Bool.and_eq_true,decide_eq_true_eq] at h1
    obtain ⟨⟨⟨hf,GR⟩,hbig⟩,lO⟩:=h1
    refine ⟨hp,fun R w cs hg hl=>callsIn_wide.2 ?_⟩
    cases hl with
    | @cons _ cv _ _ r1 hl=>
    cases hl with
    | @cons _ fv _ _ r2 hl=>
    cases hl
    cases r2 with
    | fn x1 x2=>
    cases x1; cases x2
    by_cases he:es=[]
    ·subst he
     obtain ⟨pa,cap,rfl⟩:∃ pa cap,cv=.slice pa 0 cap:=by
      have GR:len=0:=GR
      subst GR
      cases r1 with
      | gT _ _=>exact ⟨_,_,rfl⟩
      | cT _ _ _=>exact ⟨_,_,rfl⟩
     refine (AnyF.slices_SortFunc_none (P:=E.P) (ρ:=ρ) L pa cap _ w).mono fun e w' ⟨e1,e2⟩=>?_
     subst e1; subst e2
     have IT:dR p cf []=[]:=by simp [dR]
     have hG:au G oid (.cK (dR p cf []) iu Qt)=G:=by rw [IT]; exact lJ aX
     rw [hG]
     exact ⟨.bF [],G,R,⟨rfl,rfl⟩,Rel.bF .nil,hg,Step.refl _ _ _ _⟩
    ·have lu:0 < es.length:=List.length_pos_iff.2 he
     cases r1 with
     | gT _ _=>omega
     | @cT _ _ _ _ _ cap b o' ro aU cS eh=>
     subst hf; subst GR
     obtain ⟨b',c',cur,vs,rfl,g1,g2,g3,g4,g5,g6,g7,g8,g9⟩:=kS hg aX aU (fun k=>by subst k; exact cS)
     obtain ⟨rfl,DE,mZ⟩:=cS.2 rfl
     have mY:o'=0:=by
      rcases mZ with mZ | mZ
      ·rw [mZ,Nat.zero_mul]
      ·omega
     subst mY
     -- the elements by their leaves
     have sx:=De hC.flat es lO
     generalize Wz:es.map p.bh=xs at sx
     have hlen:xs.length=es.length:=by rw [← Wz,List.length_map]
     have Wv:∀ (ys:List p.T),∀ a∈ar (ys.map p.enc),gC a=true:=fun ys=>by
      induction ys with
      | nil=>intro a ha; simp [ar] at ha
      | cons y ys ih=>
       intro a ha
       rw [List.map_cons,ar] at ha
       rcases List.mem_append.1 ha with ha | ha
       ·exact hC.Ix y a ha
       ·exact ih a ha
     have U0:vs=xs.flatMap (ga p):=by
      rw [sx] at g7
      rw [Ab (Wv xs) g7,pV]
     have hd:(xs.toArray).size=es.length:=by simpa using hlen
     have VV:(flatK (ga p) iu xs.toArray).toList=vs:=by rw [Ac (xP hC),U0]
     have JC:(flatK (ga p) iu xs.toArray).size=es.length * iu:=by rw [size_flatK,hd]
     have gi:cur.toList.length=c' * iu:=by rw [show cur.toList.length=cur.size from Array.length_toList,g5]
     have hle:es.length * iu≤c' * iu:=Nat.mul_le_mul_right _ g3
     have hH:HoldsK (ga p) iu w b 0 xs.toArray:=by
      intro j hj
      rw [JC] at hj
      refine ⟨?_,?_⟩
      ·have hj2:j < (flatK (ga p) iu xs.toArray).size:=by rw [JC]; exact hj
       rw [getElem!_pos (flatK (ga p) iu xs.toArray) j hj2,Nat.zero_add,cell_of_row w b j cur Qt (0,0) g2]
       have h1:cur[j]?=vs[j]?:=by
        rw [← g9,List.getElem?_take,if_pos hj,← Array.getElem?_toList]
       rw [h1,← VV,Array.getElem?_toList,Array.getElem?_eq_getElem hj2]
       rfl
      ·unfold World.frozen?
       rw [g2]
       simp
     have hCL:=Lk Nb hC hg g2 g6 xs.toArray.size
     have key:=AnyQ.slices_SortFunc_total L iu aE zE (ga p) (xP hC) (fun x v hv=>by
      obtain ⟨a,ha,rfl⟩:=List.mem_map.1 hv
      exact xO (hC.Ix x a ha)) cf hC.swo c #[] b 0 cap xs.toArray w (jL hc) hCL hH (bj g2) (by rw [hd]; omega) hC.Zp
     rw [hd] at key
     refine key.mono fun e w' ⟨e1,n,os,e2⟩=>?_
     subst e1
     -- the world behind
     have e3:putRowK (ga p) iu (Sort.ahead w n) b 0 (xs.mergeSort fun x y=>!(ltOf cf) y x).toArray=(Sort.ahead w n).setRow b (putCells (fun v=>v) 0 (flatK (ga p) iu (xs.mergeSort fun x y=>!(ltOf cf) y x).toArray) cur):=rU (w:=Sort.ahead w n) g2 _
     have e4:w'=Sort.grow ((Sort.ahead w n).setRow b (putCells (fun v=>v) 0 (flatK (ga p) iu (xs.mergeSort fun x y=>!(ltOf cf) y x).toArray) cur)) os:=by
      rw [e2]
      unfold sortWorldK
      rw [e3]
     clear e2 e3 key
     generalize TC:(xs.mergeSort fun x y=>!(ltOf cf) y x)=ys at e4
     have TL:ys.length=es.length:=by rw [← TC,List.length_mergeSort,hlen]
     have hso:dR p cf es=ys.map p.enc:=by unfold dR; rw [Wz,TC]
     rw [hso]
     have hfy:(flatK (ga p) iu ys.toArray).toList=ys.flatMap (ga p):=by rw [Ac (xP hC)]
     have VW:(flatK (ga p) iu ys.toArray).size=es.length * iu:=by rw [size_flatK]; simp [TL]
     have SL:(putCells (fun v=>v) 0 (flatK (ga p) iu ys.toArray) cur).size=cur.size:=by simp [putCells]
     have Em:(putCells (fun v=>v) 0 (flatK (ga p) iu ys.toArray) cur).toList.take (es.length * iu)=ys.flatMap (ga p):=by
      rw [← hfy]
      apply List.ext_getElem?
      intro t
      rw [List.getElem?_take]
      by_cases ht:t < es.length * iu
      ·have h1:t < (flatK (ga p) iu ys.toArray).size:=by rw [VW]; exact ht
       have h2:t < cur.size:=by rw [g5]; omega
       rw [if_pos ht,Array.getElem?_toList,Array.getElem?_toList,Array.getElem?_eq_getElem h1,Array.getElem?_eq_getElem (by rw [SL]; exact h2)]
       simp only [putCells,Array.getElem_mapIdx,Nat.zero_le,Nat.zero_add,h1,and_self,if_true,Nat.sub_zero]
       rw [getElem!_pos (flatK (ga p) iu ys.toArray) t h1]
      ·rw [if_neg ht,List.getElem?_eq_none (by rw [Array.length_toList,VW]; omega)]
     generalize putCells (fun v=>v) 0 (flatK (ga p) iu ys.toArray) cur=cur2 at e4 SL Em
     have QA:∀ v∈ys.flatMap (ga p),v.oneCell'=true:=fun v hv=>by
      obtain ⟨y,_,hy⟩:=List.mem_flatMap.1 hv
      obtain ⟨a,ha,rfl⟩:=List.mem_map.1 hy
      exact xO (hC.Ix y a ha)
     have jD:da iu (ys.map p.enc):=fun a ha=>by
      obtain ⟨y,_,rfl⟩:=List.mem_map.1 ha
      refine ⟨hC.size y,?_⟩
      obtain ⟨cs,mX⟩:=hC.agg y
      rw [mX]; rfl
     have dh:aC R w (ar (ys.map p.enc)) (ys.flatMap (ga p)):=by
      rw [← pV]
      exact sT (Wv ys)
     have bt:aQ E R w (fun _=>0) ⟨[],[],G,[],none,0⟩ (⟨#[],[]⟩:Act):=
      ⟨hg,⟨fun k cs h=>by simp [cX] at h,fun k k' cs dJ h=>by simp [cX] at h⟩,fun i hi=>absurd rfl hi,rfl,trivial⟩
     obtain ⟨k1,k2⟩:=bt.Ej (es':=ys.map p.enc) aX aU g2 (by rw [List.length_map,TL]) jD SL dh QA Em
     have Ll:Below (w.setRow b cur2).heap.size (w.setRow b cur2) w':=by
      rw [e4]
      refine ⟨rfl,rfl,rfl,?_,fun i hi=>?_⟩
      ·show _≤((w.setRow b cur2).heap++os).size
       rw [Array.size_append]; exact Nat.le_add_right _ _
      ·show ((w.setRow b cur2).heap++os)[i]?=_
       rw [Array.getElem?_append_left hi]
     exact ⟨.bF [],_,R,⟨rfl,rfl⟩,Rel.bF .nil,Below.Vh Ll k1.g hE,k2.trans (Below.Px Ll k1.g.wf)⟩
   ·cases h
  ·cases h
 ·cases h
end
end Go.Am
namespace Go.Am
open Go Go.Sort
section
variable {α:Type} [DecidableEq α] {lt:α→α→Bool}
def vb (lt:α→α→Bool) (l:List α):Prop:=l.Pairwise fun x y=>lt x y=true
omit [DecidableEq α] in
theorem BE (hw:SWO lt):∀ {a b:List α},vb lt a→vb lt b→(∀ x,x∈a↔x∈b)→a=b
 | [],[],_,_,_=>rfl
 | [],y :: b,_,_,h=>by have:=(h y).2 (by simp); simp at this
 | x :: a,[],_,_,h=>by have:=(h x).1 (by simp); simp at this
 | x :: a,y :: b,ha,hb,h=>by
  have VJ:=List.pairwise_cons.1 ha
  have jC:=List.pairwise_cons.1 hb
  have ZA:x=y:=by
   have h1:=(h x).1 (by simp)
   have h2:=(h y).2 (by simp)
   rcases List.mem_cons.1 h1 with h1 | h1
   ·exact h1
   ·rcases List.mem_cons.1 h2 with h2 | h2
    ·exact h2.symm
    ·have l1:=jC.1 x h1
     have l2:=VJ.1 y h2
     have:=hw.trans _ _ _ l1 l2
     rw [hw.irrefl] at this
     cases this
  subst ZA
  congr 1
  refine BE hw VJ.2 jC.2 fun z=>?_
  constructor
  ·intro hz
   rcases List.mem_cons.1 ((h z).1 (by simp [hz])) with rfl | h2
   ·have:=VJ.1 z hz
    rw [hw.irrefl] at this
    cases this
   ·exact h2
  ·intro hz
   rcases List.mem_cons.1 ((h z).2 (by simp [hz])) with rfl | h2
   ·have:=jC.1 z hz
    rw [hw.irrefl] at this
    cases this
   ·exact h2
def xW (d:α) (l:List α):Nat→List α
 | 0=>[]
 | m+1=>if 0 < m∧l.getD m d=l.getD (m - 1) d then xW d l m else xW d l m++[l.getD m d]
theorem rV (d:α) (l:List α):∀ m,m≤l.length→(∀ k,0 < k→k < m→l.getD k d≠l.getD (k - 1) d)→xW d l m=l.take m
 | 0,_,_=>by simp [xW]
 | m+1,hm,h=>by
  have e:l.getD m d=l[m]:=by simp [show m < l.length by omega]
  unfold xW
  rw [if_neg (fun c=>h m c.1 (by omega) c.2),rV d l m (by omega) fun k h1 h2=>h k h1 (by omega),e,List.take_succ,List.getElem?_eq_getElem (by omega)]
  rfl
theorem BF (d:α) (l:List α):∀ m,m≤l.length→∀ x,x∈xW d l m↔x∈l.take m
 | 0,_,x=>by simp [xW]
 | m+1,hm,x=>by
  have e:l.getD m d=l[m]:=by simp [show m < l.length by omega]
  have ih:=BF d l m (by omega)
  have et:l.take (m+1)=l.take m++[l[m]]:=by rw [List.take_succ,List.getElem?_eq_getElem (by omega)]; rfl
  unfold xW
  rw [et]
  split
  ·rename_i hc
   rw [ih,List.mem_append,List.mem_singleton]
   constructor
   ·exact .inl
   ·rintro (h | rfl)
    ·exact h
    ·have e2:l.getD (m - 1) d=l[m - 1]:=by simp [show m - 1 < l.length by omega]
     rw [e,e2] at hc
     rw [hc.2,List.mem_take_iff_getElem]
     exact ⟨m - 1,by omega,rfl⟩
  ·rw [List.mem_append,List.mem_append,ih,e]
theorem GV (hw:SWO lt) (ht:∀ x y,lt x y=false→lt y x=false→x=y) (d:α) (l:List α) (hs:l.Pairwise fun x y=>lt y x=false):∀ m,m≤l.length→vb lt (xW d l m)
 | 0,_=>List.Pairwise.nil
 | m+1,hm=>by
  have ih:=GV hw ht d l hs m (by omega)
  have e:l.getD m d=l[m]:=by simp [show m < l.length by omega]
  unfold xW
  split
  ·exact ih
  ·rename_i hc
   refine List.pairwise_append.2 ⟨ih,List.pairwise_singleton _ _,fun x hx y hy=>?_⟩
   rw [List.mem_singleton] at hy
   subst hy
   have oM:=(BF d l m (by omega) x).1 hx
   obtain ⟨k,hk,rfl⟩:=List.mem_take_iff_getElem.1 oM
   have DM:k < m:=by omega
   rw [e] at hc ⊢
   have h1:lt l[m] l[k]=false:=List.pairwise_iff_getElem.1 hs k m (by omega) (by omega) DM
   cases hl:lt l[k] l[m] with
   | true=>rfl
   | false=>
    exfalso
    have iP:=ht _ _ hl h1
    -- the one before is between
    have h0:0 < m:=by omega
    have e2:l.getD (m - 1) d=l[m - 1]:=by simp [show m - 1 < l.length by omega]
    rw [e2] at hc
    apply hc
    refine ⟨h0,?_⟩
    have h2:lt l[m] l[m - 1]=false:=List.pairwise_iff_getElem.1 hs (m - 1) m (by omega) (by omega) (by omega)
    refine ht _ _ h2 ?_
    by_cases hkm:k=m - 1
    ·subst hkm; exact hl
    ·have h3:lt l[m - 1] l[k]=false:=List.pairwise_iff_getElem.1 hs k (m - 1) (by omega) (by omega) (by omega)
     rw [← iP]
     exact h3
def uC (lt:α→α→Bool) (d:α) (k:α) (l:List α):List α:=
 let at_:=(l.takeWhile fun x=>lt x k).length
 if at_=l.length∨l.getD at_ d≠k then l.take at_++[k]++l.drop at_ else l
omit [DecidableEq α] in
theorem mU (p:α→Bool):∀ l:List α,(∀ x∈l.take (l.takeWhile p).length,p x=true)∧∀ h:(l.takeWhile p).length < l.length,p l[(l.takeWhile p).length]=false
 | []=>by simp
 | a :: l=>by
  obtain ⟨h1,h2⟩:=mU p l
  by_cases ha:p a=true
  ·simp only [List.takeWhile_cons,ha,if_true,List.length_cons,List.take_succ_cons,List.mem_cons,forall_eq_or_imp,true_and,List.getElem_cons_succ]
   exact ⟨h1,fun h=>h2 (by omega)⟩
  ·simp only [List.takeWhile_cons,if_neg ha,List.length_nil,List.take_zero]
   refine ⟨by simp,fun _=>?_⟩
   rw [List.getElem_cons_zero]
   exact Bool.eq_false_iff.2 ha
theorem Lq (d:α) (k:α) (l:List α) (x:α):x∈uC lt d k l↔x=k∨x∈l:=by
 unfold uC
 simp only
 have hle:(l.takeWhile fun x=>lt x k).length≤l.length:=(List.takeWhile_sublist _).length_le
 generalize (l.takeWhile fun x=>lt x k).length=a at *
 have e:x∈l↔x∈l.take a∨x∈l.drop a:=by rw [← List.mem_append,List.take_append_drop]
 split
 ·simp only [List.mem_append,List.mem_singleton]
  rw [e]
  constructor
  ·rintro ((h | h) | h)
   ·exact .inr (.inl h)
   ·exact .inl h
   ·exact .inr (.inr h)
  ·rintro (h | h | h)
   ·exact .inl (.inr h)
   ·exact .inl (.inl h)
   ·exact .inr h
 ·rename_i h
  rw [not_or,Decidable.not_not] at h
  constructor
  ·exact .inr
  ·rintro (rfl | h2)
   ·have hl:a < l.length:=by omega
    have e2:l.getD a d=l[a]:=by simp [hl]
    rw [e2] at h
    rw [← h.2]
    exact List.getElem_mem hl
   ·exact h2
theorem Lr (hw:SWO lt) (ht:∀ x y,lt x y=false→lt y x=false→x=y) (d:α) (k:α) (l:List α) (hl:vb lt l):vb lt (uC lt d k l):=by
 unfold uC
 simp only
 obtain ⟨h1,h2⟩:=mU (fun x=>lt x k) l
 have hle:(l.takeWhile fun x=>lt x k).length≤l.length:=(List.takeWhile_sublist _).length_le
 generalize (l.takeWhile fun x=>lt x k).length=a at *
 have hp:=List.pairwise_iff_getElem.1 hl
 split
 ·rename_i hc
  have Hw:∀ y∈l.drop a,lt k y=true:=by
   intro y hy
   obtain ⟨j,hj,rfl⟩:=List.getElem_of_mem hy
   rw [List.length_drop] at hj
   rw [List.getElem_drop]
   have CF:a < l.length:=by omega
   have e2:l.getD a d=l[a]:=by simp [CF]
   have hka:lt k l[a]=true:=by
    cases hh:lt k l[a] with
    | true=>rfl
    | false=>
     have:=ht _ _ (h2 CF) hh
     rcases hc with hc | hc
     ·omega
     ·rw [e2] at hc; exact absurd this hc
   by_cases h0:j=0
   ·subst h0; simpa using hka
   ·exact hw.trans _ _ _ hka (hp a (a+j) CF (by omega) (by omega))
  unfold vb
  rw [List.append_assoc,List.pairwise_append]
  refine ⟨hl.take,?_,fun x hx y hy=>?_⟩
  ·rw [List.singleton_append,List.pairwise_cons]
   exact ⟨Hw,hl.drop⟩
  ·rw [List.singleton_append] at hy
   have hxk:=h1 x hx
   rcases List.mem_cons.1 hy with rfl | hy
   ·exact hxk
   ·exact hw.trans _ _ _ hxk (Hw y hy)
 ·exact hl
def FO (lt:α→α→Bool) (d:α) (l:List α):List α:=l.foldl (fun s k=>uC lt d k s) []
theorem jV (hw:SWO lt) (ht:∀ x y,lt x y=false→lt y x=false→x=y) (d:α) (l:List α):vb lt (FO lt d l)∧∀ x,x∈FO lt d l↔x∈l:=by
 have gen:∀ (l s:List α),vb lt s→vb lt (l.foldl (fun s k=>uC lt d k s) s)∧∀ x,x∈l.foldl (fun s k=>uC lt d k s) s↔x∈s∨x∈l:=by
  intro l
  induction l with
  | nil=>intro s hs; exact ⟨hs,fun x=>by simp⟩
  | cons k l ih=>
   intro s hs
   rw [List.foldl_cons]
   obtain ⟨h1,h2⟩:=ih _ (Lr hw ht d k s hs)
   refine ⟨h1,fun x=>?_⟩
   rw [h2,Lq,List.mem_cons]
   constructor
   ·rintro ((h | h) | h)
    ·exact .inr (.inl h)
    ·exact .inl h
    ·exact .inr (.inr h)
   ·rintro (h | h | h)
    ·exact .inl (.inr h)
    ·exact .inl (.inl h)
    ·exact .inr h
 obtain ⟨h1,h2⟩:=gen l [] List.Pairwise.nil
 exact ⟨h1,fun x=>by rw [show FO lt d l=l.foldl (fun s k=>uC lt d k s) [] from rfl,h2]; simp⟩
theorem Ls (d:α) (k:α) (l:List α):(uC lt d k l).length≤l.length+1:=by
 unfold uC
 simp only
 split
 ·simp; omega
 ·omega
omit [DecidableEq α] in
theorem Dk (hw:SWO lt) (l:List α):(l.mergeSort fun x y=>!lt y x).Pairwise (fun x y=>lt y x=false)∧∀ x,x∈(l.mergeSort fun x y=>!lt y x)↔x∈l:=by
 refine ⟨?_,fun x=>(List.mergeSort_perm l _).mem_iff⟩
 have h:=List.pairwise_mergeSort (le:=fun x y=>!lt y x) (fun a b c h1 h2=>by
  simp only [Bool.not_eq_true'] at h1 h2 ⊢
  exact hw.ntrans _ _ _ h2 h1) (fun a b=>by
  simp only [Bool.or_eq_true,Bool.not_eq_true']
  cases h1:lt b a with
  | false=>exact .inl rfl
  | true=>
   right
   cases h2:lt a b with
   | false=>rfl
   | true=>
    have:=hw.trans _ _ _ h1 h2
    rw [hw.irrefl] at this
    cases this) l
 exact h.imp fun Dl=>by simpa using Dl
theorem To (hw:SWO lt) (ht:∀ x y,lt x y=false→lt y x=false→x=y) (d:α) (l:List α):xW d (l.mergeSort fun x y=>!lt y x) l.length=FO lt d l:=by
 obtain ⟨s1,s2⟩:=Dk hw l
 have hlen:(l.mergeSort fun x y=>!lt y x).length=l.length:=List.length_mergeSort _
 obtain ⟨i1,i2⟩:=jV hw ht d l
 refine BE hw (GV hw ht d _ s1 _ (Nat.le_of_eq hlen.symm)) i1 fun x=>?_
 rw [BF d _ _ (Nat.le_of_eq hlen.symm),List.take_of_length_le (Nat.le_of_eq hlen),s2,i2]
end
theorem sV {V X S:Type} {rd:V→Option (V ⊕ X)} (m:Nat) (E:S→Nat→V) (P:S→Nat→Prop) (Q:X→Prop)
  (h:∀ s k,k < m→P s k→∃ s',rd (E s k)=some (.inl (E s' (k+1)))∧P s' (k+1))
  (h0:∀ s,P s m→∃ x,rd (E s m)=some (.inr x)∧Q x) :
  ∀ n s k,k≤m→m < n+k→P s k→∃ x,aZ rd n (E s k)=some x∧Q x
 | 0,s,k,hk,hn,_=>by omega
 | n+1,s,k,hk,hn,hP=>by
  rw [bf]
  by_cases bK:k < m
  ·obtain ⟨s',e,V6⟩:=h s k bK hP
   rw [e]
   exact sV m E P Q h h0 n s' (k+1) bK (by omega) V6
  ·obtain rfl:k=m:=by omega
   obtain ⟨x,e,hQ⟩:=h0 s hP
   rw [e]
   exact ⟨x,rfl,hQ⟩
theorem Ae {V X S:Type} {rd:V→Option (V ⊕ X)} (m:Nat) (E:S→Nat→V) (P:S→Nat→Prop) (Q:X→Prop)
  (h:∀ s k,k < m→P s k→(∃ s',rd (E s k)=some (.inl (E s' (k+1)))∧P s' (k+1))∨∃ x,rd (E s k)=some (.inr x)∧Q x)
  (h0:∀ s,P s m→∃ x,rd (E s m)=some (.inr x)∧Q x) :
  ∀ n s k,k≤m→m < n+k→P s k→∃ x,aZ rd n (E s k)=some x∧Q x
 | 0,s,k,hk,hn,_=>by omega
 | n+1,s,k,hk,hn,hP=>by
  rw [bf]
  by_cases bK:k < m
  ·rcases h s k bK hP with ⟨s',e,V6⟩ | ⟨x,e,hQ⟩
   ·rw [e]
    exact Ae m E P Q h h0 n s' (k+1) bK (by omega) V6
   ·rw [e]
    exact ⟨x,rfl,hQ⟩
  ·obtain rfl:k=m:=by omega
   obtain ⟨x,e,hQ⟩:=h0 s hP
   rw [e]
   exact ⟨x,rfl,hQ⟩
end Go.Am
namespace Go.Am
open Go
section
variable {κ ν:Type} [DecidableEq κ]
def getM (k:κ):List (κ × ν)→Option ν
 | []=>none
 | (k',v) :: m=>if k=k' then some v else getM k m
def oe (k:κ) (v:ν):List (κ × ν)→List (κ × ν)
 | []=>[(k,v)]
 | (k',v') :: m=>if k=k' then (k,v) :: m else (k',v') :: oe k v m
theorem xY (k k':κ) (v:ν):∀ m:List (κ × ν),getM k' (oe k v m)=if k'=k then some v else getM k' m
 | []=>rfl
 | (k1,v1) :: m=>by
  unfold oe
  by_cases h:k=k1
  ·subst h
   rw [if_pos rfl]
   by_cases h2:k'=k
   ·simp [getM,h2]
   ·simp [getM,h2]
  ·rw [if_neg h]
   by_cases h2:k'=k1
   ·subst h2
    have h3:¬ k'=k:=fun e=>h e.symm
    simp [getM,h3]
   ·simp only [getM,if_neg h2]
    exact xY k k' v m
theorem Dn {k:κ} {v:ν}:∀ {m:List (κ × ν)},getM k m=none→oe k v m=m++[(k,v)]
 | [],_=>rfl
 | (k1,v1) :: m,h=>by
  unfold getM at h
  split at h
  ·cases h
  ·rename_i cg
   unfold oe
   rw [if_neg cg,Dn h]
   rfl
theorem Af {k:κ} {v:ν}:∀ {m:List (κ × ν)},(oe k v m).map Prod.fst=if k∈m.map Prod.fst then m.map Prod.fst else m.map Prod.fst++[k]
 | []=>by simp [oe]
 | (k1,v1) :: m=>by
  unfold oe
  by_cases h:k=k1
  ·simp [h]
  ·rw [if_neg h,List.map_cons,Af (m:=m)]
   by_cases h2:k∈m.map Prod.fst
   ·have:k∈((k1,v1) :: m).map Prod.fst:=by simp only [List.map_cons,List.mem_cons]; exact .inr h2
    rw [if_pos h2,if_pos this]
    rfl
   ·have:¬ k∈((k1,v1) :: m).map Prod.fst:=by
     simp only [List.map_cons,List.mem_cons,not_or]; exact ⟨h,h2⟩
    rw [if_neg h2,if_neg this]
    rfl
theorem Ag (k:κ) (l:List κ):getM k (l.map fun x=>(x,true))=if k∈l then some true else none:=by
 induction l with
 | nil=>rfl
 | cons a l ih=>
  simp only [List.map_cons,getM,ih,List.mem_cons]
  by_cases h:k=a
  ·simp [h]
  ·simp [h]
structure gI (ek:EK) (nk:κ→AV) (nv:ν→AV) (nM:κ × ν→AV):Prop where
 key:∀ a b,DA ek (nk a) (nk b)=some (decide (a=b))
 pair:∀ x,nM x=.agg [nk x.1,nv x.2]
 exact:∀ x,(nM x).exact=true
variable {ek:EK} {nk:κ→AV} {nv:ν→AV} {nM:κ × ν→AV} (h:gI ek nk nv nM)
include h
theorem gI.ZD:∀ m:List (κ × ν),ab (List.map nM m)=m.map fun x=>(nk x.1,nv x.2)
 | []=>rfl
 | x :: m=>by
  rw [List.map_cons,h.pair,ab,gI.ZD m]
  rfl
theorem gI.keys (k:κ):∀ m:List (κ × ν),cH ek (nk k) (ab (List.map nM m))=true
 | []=>rfl
 | x :: m=>by
  have:=gI.keys k m
  rw [List.map_cons,h.pair,ab]
  show ((DA ek (nk k) (nk x.1)).isSome&&cH ek (nk k) (ab (List.map nM m)))=true
  rw [this,h.key]
  rfl
theorem gI.get (k:κ):∀ m:List (κ × ν),eU ek (nk k) (ab (List.map nM m))=(getM k m).map nv
 | []=>rfl
 | x :: m=>by
  have ih:=gI.get k m
  rw [List.map_cons,h.pair,ab]
  show (bif uL ek (nk k) (nk x.1) then some (nv x.2) else eU ek (nk k) (ab (List.map nM m)))=(if k=x.1 then some x.2 else getM k m).map nv
  unfold uL
  rw [h.key,ih]
  by_cases e:k=x.1
  ·simp [e]
  ·simp [e]
theorem gI.getD (k:κ) (z:ν) (m:List (κ × ν)):bu ek (nk k) (nv z) (ab (List.map nM m))=nv ((getM k m).getD z):=by
 unfold bu
 rw [h.get]
 cases getM k m <;> rfl
theorem gI.put (k:κ) (v:ν):∀ m:List (κ × ν),bi ek (nk k) (nv v) (ab (List.map nM m))=ab (List.map nM (oe k v m))
 | []=>by
  show [(nk k,nv v)]=ab [nM (k,v)]
  rw [h.pair]
  rfl
 | x :: m=>by
  have ih:=gI.put k v m
  rw [List.map_cons,h.pair,ab]
  show (bif uL ek (nk k) (nk x.1) then (nk k,nv v) :: ab (List.map nM m) else (nk x.1,nv x.2) :: bi ek (nk k) (nv v) (ab (List.map nM m)))=ab (List.map nM (if k=x.1 then (k,v) :: m else (x.1,x.2) :: oe k v m))
  unfold uL
  rw [h.key,ih]
  by_cases e:k=x.1
  ·simp only [e,decide_true,cond_true,if_true,List.map_cons]
   rw [h.pair (x.1,v),ab]
   rfl
  ·simp only [e,decide_false,cond_false,if_false,List.map_cons]
   rw [h.pair (x.1,x.2),ab]
   rfl
theorem gI.cells:∀ m:List (κ × ν),ah (ab (List.map nM m))=List.map nM m
 | []=>rfl
 | x :: m=>by
  have ih:=gI.cells m
  rw [List.map_cons,h.pair,ab]
  show AV.agg [nk x.1,nv x.2] :: ah (ab (List.map nM m))=_
  rw [ih]
theorem gI.bo (m:List (κ × ν)):Go.Am.bo (ab (List.map nM m))=true:=by
 unfold Go.Am.bo
 rw [h.cells]
 induction m with
 | nil=>rfl
 | cons x m ih=>rw [List.map_cons,eP,ih,h.exact]; rfl
end
theorem OF (a b:Int × Int):DA (.st (.cons 0 1 false .int (.cons 1 1 false .int .nil))) (.agg [.int .i64 a.1,.int .i64 a.2]) (.agg [.int .i64 b.1,.int .i64 b.2])=some (decide (a=b)):=by
 obtain ⟨a1,a2⟩:=a
 obtain ⟨b1,b2⟩:=b
 have e:kF (.st (.cons 0 1 false .int (.cons 1 1 false .int .nil))) (.agg [.int .i64 a1,.int .i64 a2]) (.agg [.int .i64 b1,.int .i64 b2])=some ((a1 == b1)&&((a2 == b2)&&true)):=rfl
 unfold DA
 rw [e]
 by_cases h1:a1=b1 <;> by_cases h2:a2=b2
 ·subst h1; subst h2
  simp [EK.wide,kO,lG,ni]
 all_goals simp [h1,h2]
end Go.Am
namespace Go.Am
open Go
theorem xZ (ek:EK) (k v x:AV):∀ es:List (AV × AV),hY (bi ek k v es) (gr ek k es) x=bi ek k x es
 | []=>rfl
 | (k',v') :: l=>by
  unfold bi gr
  cases h:uL ek k k' with
  | true=>rfl
  | false=>
   simp only [cond_false,hY]
   rw [xZ ek k v x l]
theorem Lv (ek:EK) (k v:AV):∀ es:List (AV × AV),gr ek k es < (bi ek k v es).length
 | []=>Nat.zero_lt_one
 | (k',v') :: l=>by
  unfold bi gr
  cases h:uL ek k k' with
  | true=>exact Nat.zero_lt_succ _
  | false=>
   simp only [cond_false,List.length_cons]
   have:=Lv ek k v l
   omega
theorem FQ {V X:Type} (rd:(V→Option X)→V→Option X) (n:Nat) (v:V):iB rd (n+1) v=rd (iB rd n) v:=rfl
def Iz (L:List Nat):List Int:=L.map fun n:Nat=>(n:Int)
theorem Lw {α:Type} (f:α→AV × AV) (m:List α) {i:Nat} (h:i < m.length):dD (m.map f) i=f m[i]:=by
 unfold dD
 rw [aG,List.getElem?_map,List.getElem?_eq_getElem h]
 rfl
end Go.Am
