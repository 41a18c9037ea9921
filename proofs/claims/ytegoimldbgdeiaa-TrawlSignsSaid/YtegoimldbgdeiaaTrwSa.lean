/- Walks over seams,told apart from the program: plain laws. -/
import Derived.Test.YtegoimldbgdeiaaSeamKE
set_option linter.all false
namespace Go.Proofs.Ytegoimldbgdeiaa
open Go Go.Am
open List (map)
open Int (toNat)
open Go.IntKind (wrap)
open Go.Am.aM (fits)
def cO (s:pH) (x:Int × Bool):Option (Int × Bool):=if s.1=x.1 then some (s.2.2.1,x.2 != s.2.2.2.2) else if s.2.2.1=x.1 then some (s.1,x.2 != s.2.2.2.2) else none
def b8 (t:cu):List Int→Int × Bool→Option (Int × Bool)
 |[],x=>some x
 |i :: w,x=>(cO (av t i.toNat) x).bind (b8 t w)
theorem ia (t:cu):∀ (u v:List Int) (x:Int × Bool),b8 t (u++v) x=(b8 t u x).bind (b8 t v)
 |[],v,x=>rfl
 |i :: u,v,x=>by
  show (cO (av t i.toNat) x).bind (b8 t (u++v))=((cO (av t i.toNat) x).bind (b8 t u)).bind (b8 t v);cases cO (av t i.toNat) x with
  |none=>rfl
  |some y=>exact ia t u v y
theorem EZ (a b c:Bool):((a != b) != c)=(a != (b != c)):=by cases a <;> cases b <;> cases c <;> rfl
theorem Kc (s:pH) (q:Int) (f g:Bool):cO s (q,f != g)=(cO s (q,g)).map fun y=>(y.1,f != y.2):=by
 unfold cO;by_cases h1:s.1=q
 ·rw [if_pos h1,if_pos h1];show some (_,_)=some (_,_);rw [EZ]
 ·by_cases h2:s.2.2.1=q
  ·rw [if_neg h1,if_neg h1,if_pos h2,if_pos h2];show some (_,_)=some (_,_);rw [EZ]
  ·rw [if_neg h1,if_neg h1,if_neg h2,if_neg h2]; rfl
theorem BY (t:cu):∀ (w:List Int) (q:Int) (f g:Bool),b8 t w (q,f != g)=(b8 t w (q,g)).map fun y=>(y.1,f != y.2)
 |[],q,f,g=>rfl
 |i :: w,q,f,g=>by
  show (cO (av t i.toNat) (q,f != g)).bind (b8 t w)=((cO (av t i.toNat) (q,g)).bind (b8 t w)).map _;rw [Kc];cases cO (av t i.toNat) (q,g) with
  |none=>rfl
  |some y=>exact BY t w y.1 f y.2
theorem wA (t:cu) (w:List Int) (q:Int) (f:Bool):b8 t w (q,f)=(b8 t w (q,false)).map fun y=>(y.1,f != y.2):=by
 have:=BY t w q f false;rwa [show (f != false)=f by cases f <;> rfl] at this
theorem Kd {s:pH} {q r:Int} {f g:Bool} (h:cO s (q,f)=some (r,g)) (k:Bool):cO s (r,k)=some (q,k != s.2.2.2.2)∧g=(f != s.2.2.2.2):=by
 unfold cO at *;by_cases h1:s.1=q
 ·rw [if_pos h1] at h;injection h with h; injection h with ha hb;subst ha; subst hb;refine ⟨?_,rfl⟩;by_cases h3:s.1=s.2.2.1
  ·rw [if_pos h3,← h1]; show some (s.2.2.1,_)=some (s.1,_); rw [← h3]
  ·rw [if_neg h3,if_pos rfl,h1]
 ·by_cases h2:s.2.2.1=q
  ·rw [if_neg h1,if_pos h2] at h;injection h with h; injection h with ha hb;subst ha; subst hb;exact ⟨by rw [if_pos rfl,h2],rfl⟩
  ·rw [if_neg h1,if_neg h2] at h; cases h
theorem BZ (t:cu):∀ (w:List Int) (q r:Int) (f:Bool),b8 t w (q,false)=some (r,f)→b8 t w.reverse (r,false)=some (q,f)
 |[],q,r,f,h=>by
  injection h with h; injection h with ha hb; subst ha; subst hb; rfl
 |i :: w,q,r,f,h=>by
  have h:(cO (av t i.toNat) (q,false)).bind (b8 t w)=some (r,f):=h;cases hs:cO (av t i.toNat) (q,false) with
  |none=>rw [hs] at h; cases h
  |some y=>
   rw [hs] at h;obtain ⟨y1,y2⟩:=y;have h:b8 t w (y1,y2)=some (r,f):=h;rw [wA] at h;cases hw:b8 t w (y1,false) with
   |none=>rw [hw] at h; cases h
   |some z=>
    rw [hw] at h;injection h with h; injection h with ha hb;have ih:=BZ t w y1 z.1 z.2 hw;rw [List.reverse_cons,ia,← ha,ih];obtain ⟨e1,e2⟩:=Kd hs z.2;show (cO (av t i.toNat) (y1,z.2)).bind (b8 t [])=_;rw [e1];show some (q,z.2 != _)=some (q,f);rw [← hb];have e2:y2=(false != (av t i.toNat).2.2.2.2):=e2;rw [e2];show some (q,_)=some (q,_);congr 2;generalize (av t i.toNat).2.2.2.2=b;generalize z.2=a;cases a <;> cases b <;> rfl
def ms (s:pH) (g:Int→Int):Prop:=g s.2.2.1=if s.2.2.2.2=true then - g s.1 else g s.1
theorem E0 {s:pH} {g:Int→Int} (h:ms s g) {q r:Int} {f k:Bool} (hs:cO s (q,f)=some (r,k)):(if k=true then - g r else g r)=(if f=true then - g q else g q):=by
 unfold ms at h;unfold cO at hs;by_cases h1:s.1=q
 ·rw [if_pos h1] at hs;injection hs with hs; injection hs with ha hb;subst ha; subst hb; subst h1;rw [h];cases s.2.2.2.2 <;> cases f <;> simp
 ·by_cases h2:s.2.2.1=q
  ·rw [if_neg h1,if_pos h2] at hs;injection hs with hs; injection hs with ha hb;subst ha; subst hb; subst h2;rw [h];cases s.2.2.2.2 <;> cases f <;> simp
  ·rw [if_neg h1,if_neg h2] at hs; cases hs
theorem wB (t:cu) {g:Int→Int}:∀ (w:List Int),(∀ i∈w,ms (av t i.toNat) g)→∀ (q r:Int) (f k:Bool),b8 t w (q,f)=some (r,k)→(if k=true then - g r else g r)=(if f=true then - g q else g q)
 |[],_,q,r,f,k,h=>by
  injection h with h; injection h with ha hb; subst ha; subst hb; rfl
 |i :: w,ha,q,r,f,k,h=>by
  have h:(cO (av t i.toNat) (q,f)).bind (b8 t w)=some (r,k):=h;cases hs:cO (av t i.toNat) (q,f) with
  |none=>rw [hs] at h; cases h
  |some y=>
   rw [hs] at h;rw [wB t w (fun j hj=>ha j (by simp [hj])) y.1 r y.2 k h];exact E0 (ha i (by simp)) hs
theorem z6 (t:cu) {α:Type} {g:Int→α}:∀ (w:List Int),(∀ i∈w,g (av t i.toNat).1=g (av t i.toNat).2.2.1)→∀ (x y:Int × Bool),b8 t w x=some y→g y.1=g x.1
 |[],_,x,y,h=>by injection h with h; subst h; rfl
 |i :: w,ha,x,y,h=>by
  have h:(cO (av t i.toNat) x).bind (b8 t w)=some y:=h;cases hs:cO (av t i.toNat) x with
  |none=>rw [hs] at h; cases h
  |some z=>
   rw [hs] at h;rw [z6 t w (fun j hj=>ha j (by simp [hj])) z y h];have hi:=ha i (by simp);unfold cO at hs;by_cases h1:(av t i.toNat).1=x.1
   ·rw [if_pos h1] at hs; injection hs with hs; subst hs; show g _=g x.1; rw [← h1,hi]
   ·by_cases h2:(av t i.toNat).2.2.1=x.1
    ·rw [if_neg h1,if_pos h2] at hs; injection hs with hs; subst hs; show g _=g x.1; rw [← h2,hi]
    ·rw [if_neg h1,if_neg h2] at hs; cases hs
end Go.Proofs.Ytegoimldbgdeiaa
