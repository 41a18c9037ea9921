/- Plain laws: Minus and Union. -/
import Derived.Test.YtophnjjjmikmeaaGreatOttYc
set_option linter.all false
namespace Go.Proofs.YtophnjjjmikmeaaGreat
open Go Go.Am Go.Sort
set_option maxRecDepth 100000
section
variable {N:Nat} (hN:gQ N)
include hN
theorem I9 (a b out:List cB) (ha:a.length≤100000) (hb:b.length≤100000) (ho:out.length≤1000000) :
  gS N (a,b,out)=match a,b with
   | [],[]=>some (.inr out)
   | x :: a,[]=>some (.inl (a,[],out++[x]))
   | [],y :: b=>some (.inl ([],b,out++[y]))
   | x :: a,y :: b=>if dw x y < 0 then some (.inl (a,y :: b,out++[x])) else if dw x y > 0 then some (.inl (x :: a,b,out++[y])) else some (.inl (a,b,out++[y])):=by
 have g0:∀ n:Nat,decide ((0:Int)≤0∧0 < ((n+1:Nat):Int))=true:=fun n=>decide_eq_true (by omega)
 have g1:∀ n:Nat,decide ((0:Int)≤1∧1≤((n+1:Nat):Int))=true:=fun n=>decide_eq_true (by omega)
 have ez:∀ n:Nat,(((n+1:Nat):Int) == 0)=false:=fun n=>beq_eq_false_iff_ne.2 (by omega)
 have cb:decide ((out.length+1) * 24≤140737488355328)=true:=decide_eq_true (by omega)
 have T:∀ p q:Bool,TW N (p,q)=some (p || q):=fun p q=>by rw [P1]; cases p <;> cases q <;> rfl
 have sn:=fun x:cB=>qE out x.1 x.2.1 x.2.2
 have sl:∀ x:cB,(out++[(x.1,x.2.1,x.2.2)]).length=out.length+1:=fun x=>by simp
 match a,b with
 | [],[]=>
  have e:decide (IntKind.wrap .i64 ((((List.map n59 ([]:List cB)).length:Nat):Int)+(((List.map n59 ([]:List cB)).length:Nat):Int)) > 0)=false:=rfl
  simp only [gS,e,cond_false,dF,dG,Bool.and_true,cond_true,decide_true,Option.bind_some]
 | x :: a,[]=>
  have wl:decide (IntKind.wrap .i64 (((a.length+1:Nat):Int)+((0:Nat):Int)) > 0)=true:=by
   simp only [List.length_cons] at ha
   rw [gf (by omega)]
   exact decide_eq_true (by omega)
  have z0:(((0:Nat):Int) == 0)=true:=rfl
  simp only [gS,List.length_map,List.length_cons,List.length_nil,wl,z0,cond_true,cond_false,dF,dG,Bool.and_true,Bool.and_self,decide_true,Option.bind_some,show decide ((-1:Int)≤0)=true from rfl,show decide ((-1:Int)≥0)=false from rfl,g0,g1,rX,xo,xp]
  have t:=nr x a
  simp only [List.length_map,List.length_cons] at t
  simp only [t,dF,dG,Bool.and_true,Bool.and_self,cond_true,decide_true,Option.bind_some,T,Bool.true_or,Bool.or_false,cb,sn,sl,List.length_map]
 | [],y :: b=>
  have wl:decide (IntKind.wrap .i64 (((0:Nat):Int)+((b.length+1:Nat):Int)) > 0)=true:=by
   simp only [List.length_cons] at hb
   rw [gf (by omega)]
   exact decide_eq_true (by omega)
  have z0:(((0:Nat):Int) == 0)=true:=rfl
  simp only [gS,List.length_map,List.length_cons,List.length_nil,wl,z0,ez,cond_true,cond_false,dF,dG,Bool.and_true,Bool.and_self,decide_true,Option.bind_some,show decide ((1:Int)≤0)=false from rfl,show decide ((1:Int)≥0)=true from rfl,g0,g1,rX,xo,xp]
  have t:=nr y b
  simp only [List.length_map,List.length_cons] at t
  simp only [t,dF,dG,Bool.and_true,Bool.and_self,cond_true,cond_false,decide_true,Option.bind_some,T,Bool.or_true,Bool.false_or,cb,sn,sl,List.length_map]
 | x :: a,y :: b=>
  have wl:decide (IntKind.wrap .i64 (((a.length+1:Nat):Int)+((b.length+1:Nat):Int)) > 0)=true:=by
   simp only [List.length_cons] at ha hb
   rw [gf (by omega)]
   exact decide_eq_true (by omega)
  have cm:FP N ((x.1,x.2.1,x.2.2),(y.1,y.2.1,y.2.2))=some (dw x y):=qG hN x y
  have ta:=nr x a
  have tb:=nr y b
  simp only [List.length_map,List.length_cons] at ta tb
  simp only [gS,List.length_map,List.length_cons,wl,ez,cond_true,cond_false,dF,dG,Bool.and_true,Bool.and_self,decide_true,Option.bind_some,g0,g1,rX,xo,xp,cm,ta,tb,T]
  by_cases h1:dw x y < 0
  ·have d1:decide (dw x y≤0)=true:=decide_eq_true (by omega)
   have d2:decide (dw x y≥0)=false:=decide_eq_false (by omega)
   simp only [d1,d2,h1,if_true,cond_true,cond_false,Option.bind_some,dF,dG,Bool.and_true,Bool.and_self,decide_true,Bool.true_or,Bool.or_false,cb,sn,sl,List.length_map]
  ·by_cases h2:dw x y > 0
   ·have d1:decide (dw x y≤0)=false:=decide_eq_false (by omega)
    have d2:decide (dw x y≥0)=true:=decide_eq_true (by omega)
    simp only [d1,d2,h1,h2,if_true,if_false,cond_true,cond_false,Option.bind_some,dF,dG,Bool.and_true,Bool.and_self,decide_true,Bool.or_true,Bool.false_or,cb,sn,sl,List.length_map]
   ·have d1:decide (dw x y≤0)=true:=decide_eq_true (by omega)
    have d2:decide (dw x y≥0)=true:=decide_eq_true (by omega)
    simp only [d1,d2,h1,h2,if_false,cond_true,cond_false,Option.bind_some,dF,dG,Bool.and_true,Bool.and_self,decide_true,Bool.or_true,Bool.or_self,cb,sn,sl,List.length_map]
theorem kV:∀ (n:Nat) (a b out:List cB) (m:Nat),a.length+b.length≤n→n < m→n≤50000→out.length+n≤900000→a6 (V:=(List (Int × Int × Int)) × (List (Int × Int × Int)) × (List (Int × Int × Int))) (X:=(List (Int × Int × Int))) (gR N) m (a,b,out)=some (out++oo (fun one two=>one&&!two) n a b)
 | n,a,b,out,0,_,h,_,_=>by omega
 | n,a,b,out,m+1,hn,hm,h5,ho=>by
  rw [dK,I8 hN a b out (by omega) (by omega) (by omega)]
  match n,a,b,hn with
  | 0,_ :: _,_,hn=>exact absurd hn (by simp only [List.length_cons]; omega)
  | 0,[],_ :: _,hn=>exact absurd hn (by simp only [List.length_cons]; omega)
  | 0,[],[],_=>simp [oo]
  | n+1,[],[],_=>simp [oo]
  | n+1,x :: a,[],hn=>
   simp only [List.length_cons,List.length_nil] at hn
   simp only [Option.bind_some,Sum.elim_inl]
   rw [kV n a [] (out++[x]) m (by simp only [List.length_nil]; omega) (by omega) (by omega) (by rw [List.length_append]; simp only [List.length_cons,List.length_nil]; omega)]
   simp [oo]
  | n+1,[],y :: b,hn=>
   simp only [List.length_cons,List.length_nil] at hn
   simp only [Option.bind_some,Sum.elim_inl]
   rw [kV n [] b out m (by simp only [List.length_nil]; omega) (by omega) (by omega) (by omega)]
   simp [oo]
  | n+1,x :: a,y :: b,hn=>
   simp only [List.length_cons] at hn
   rw [oo]
   by_cases h1:dw x y < 0
   ·simp only [h1,if_true,Option.bind_some,Sum.elim_inl]
    rw [kV n a (y :: b) (out++[x]) m (by simp only [List.length_cons]; omega) (by omega) (by omega) (by rw [List.length_append]; simp only [List.length_cons,List.length_nil]; omega)]
    simp
   ·by_cases h2:dw x y > 0
    ·simp only [h1,h2,if_true,if_false,Option.bind_some,Sum.elim_inl]
     rw [kV n (x :: a) b out m (by simp only [List.length_cons]; omega) (by omega) (by omega) (by omega)]
     simp
    ·simp only [h1,h2,if_false,Option.bind_some,Sum.elim_inl]
     rw [kV n a b out m (by omega) (by omega) (by omega) (by omega)]
     simp
theorem LH (a b:List cB) (ha:ky a=0) (hb:ky b=0) (hl:(oo (fun one two=>one&&!two) (a.length+b.length) a b).length≤4096):TX N (a,b)=some (oo (fun one two=>one&&!two) (a.length+b.length) a b,0):=by
 obtain ⟨a1,a2,a3⟩:=iu ha
 obtain ⟨b1,b2,b3⟩:=iu hb
 have t2:=wA 0 0
 have f2:wN N [0,0]=some 0:=di hN _ (by simp)
 rw [Bool.and_true] at t2
 have lp:=kV hN (a.length+b.length) a b [] N (Nat.le_refl _) (by unfold gQ at hN; omega) (by omega) (by simp only [List.length_nil]; omega)
 rw [List.nil_append] at lp
 have e0:List.map d59 ([]:List AV)=[]:=rfl
 have e1:allFit (aq.fits b6) ([]:List AV)=true:=rfl
 have hle:decide (((oo (fun one two=>one&&!two) (a.length+b.length) a b).length:Int) > 4096)=false:=decide_eq_false (by omega)
 rw [P5]
 simp only [dF,dG,Bool.and_true,cond_true,Option.bind_some,qH hN,ha,hb,t2,f2,bne_self_eq_false,cond_false,e0,e1,List.map_nil,List.length_nil,decide_true,lp,List.length_map,hle]
theorem kW:∀ (n:Nat) (a b out:List cB) (m:Nat),a.length+b.length≤n→n < m→n≤50000→out.length+n≤900000→a6 (V:=(List (Int × Int × Int)) × (List (Int × Int × Int)) × (List (Int × Int × Int))) (X:=(List (Int × Int × Int))) (gS N) m (a,b,out)=some (out++oo (fun one two=>one || two) n a b)
 | n,a,b,out,0,_,h,_,_=>by omega
 | n,a,b,out,m+1,hn,hm,h5,ho=>by
  rw [dK,I9 hN a b out (by omega) (by omega) (by omega)]
  match n,a,b,hn with
  | 0,_ :: _,_,hn=>exact absurd hn (by simp only [List.length_cons]; omega)
  | 0,[],_ :: _,hn=>exact absurd hn (by simp only [List.length_cons]; omega)
  | 0,[],[],_=>simp [oo]
  | n+1,[],[],_=>simp [oo]
  | n+1,x :: a,[],hn=>
   simp only [List.length_cons,List.length_nil] at hn
   simp only [Option.bind_some,Sum.elim_inl]
   rw [kW n a [] (out++[x]) m (by simp only [List.length_nil]; omega) (by omega) (by omega) (by rw [List.length_append]; simp only [List.length_cons,List.length_nil]; omega)]
   simp [oo]
  | n+1,[],y :: b,hn=>
   simp only [List.length_cons,List.length_nil] at hn
   simp only [Option.bind_some,Sum.elim_inl]
   rw [kW n [] b (out++[y]) m (by simp only [List.length_nil]; omega) (by omega) (by omega) (by rw [List.length_append]; simp only [List.length_cons,List.length_nil]; omega)]
   simp [oo]
  | n+1,x :: a,y :: b,hn=>
   simp only [List.length_cons] at hn
   rw [oo]
   by_cases h1:dw x y < 0
   ·simp only [h1,if_true,Option.bind_some,Sum.elim_inl]
    rw [kW n a (y :: b) (out++[x]) m (by simp only [List.length_cons]; omega) (by omega) (by omega) (by rw [List.length_append]; simp only [List.length_cons,List.length_nil]; omega)]
    simp
   ·by_cases h2:dw x y > 0
    ·simp only [h1,h2,if_true,if_false,Option.bind_some,Sum.elim_inl]
     rw [kW n (x :: a) b (out++[y]) m (by simp only [List.length_cons]; omega) (by omega) (by omega) (by rw [List.length_append]; simp only [List.length_cons,List.length_nil]; omega)]
     simp
    ·simp only [h1,h2,if_false,Option.bind_some,Sum.elim_inl]
     rw [kW n a b (out++[y]) m (by omega) (by omega) (by omega) (by rw [List.length_append]; simp only [List.length_cons,List.length_nil]; omega)]
     simp
theorem LI (a b:List cB) (ha:ky a=0) (hb:ky b=0) (hl:(oo (fun one two=>one || two) (a.length+b.length) a b).length≤4096):TY N (a,b)=some (oo (fun one two=>one || two) (a.length+b.length) a b,0):=by
 obtain ⟨a1,a2,a3⟩:=iu ha
 obtain ⟨b1,b2,b3⟩:=iu hb
 have t2:=wA 0 0
 have f2:wN N [0,0]=some 0:=di hN _ (by simp)
 rw [Bool.and_true] at t2
 have lp:=kW hN (a.length+b.length) a b [] N (Nat.le_refl _) (by unfold gQ at hN; omega) (by omega) (by simp only [List.length_nil]; omega)
 rw [List.nil_append] at lp
 have e0:List.map d59 ([]:List AV)=[]:=rfl
 have e1:allFit (aq.fits b6) ([]:List AV)=true:=rfl
 have hle:decide (((oo (fun one two=>one || two) (a.length+b.length) a b).length:Int) > 4096)=false:=decide_eq_false (by omega)
 rw [Qa]
 simp only [dF,dG,Bool.and_true,cond_true,Option.bind_some,qH hN,ha,hb,t2,f2,bne_self_eq_false,cond_false,e0,e1,List.map_nil,List.length_nil,decide_true,lp,List.length_map,hle]
end
end Go.Proofs.YtophnjjjmikmeaaGreat
