/- Plain laws: what netting's Has,Meshes,Minus and Union compute. -/
import Derived.Test.YtophnjjjmikmeaaGreatOttYb
import Derived.Test.YtophnjjjmikmeaaGreatOttYp
set_option linter.all false
namespace Go.Proofs.YtophnjjjmikmeaaGreat
open Go Go.Am Go.Sort
set_option maxRecDepth 100000
def wG (l:List cB) (b:cB):Bool:=decide (b.2.2=-1)&&(decide (((b.1,b.2.1,1):cB)∈l)&&(decide (((b.1 - 1,b.2.1+1,1):cB)∈l)&&decide (((b.1+1,b.2.1+1,-1):cB)∈l)))
def nV (l:List cB):List (Int × Int):=(l.filter (wG l)).map fun b=>(b.1,b.2.1+1)
theorem I6 (l:List (Int × Int)) (a b:Int):List.map n57 l++[AV.agg [AV.int .i64 a,AV.int .i64 b]]=List.map n57 (l++[(a,b)]):=by simp [n57,aq.enc,aG.enc]
theorem sV {α:Type} (P:α→Bool) (l:List α) {k:Nat} (hk:k < l.length):(l.take (k+1)).filter P=(l.take k).filter P++if P l[k]=true then [l[k]] else []:=by
 rw [List.take_add_one,List.getElem?_eq_getElem hk,List.filter_append]
 show _++List.filter P [l[k]]=_
 congr 1
 by_cases h:P l[k]=true
 ·rw [if_pos h]; simp [h]
 ·rw [if_neg h]; simp [h]
theorem lX {α:Type} (P:α→Bool) (l:List α) (k:Nat):((l.take k).filter P).length≤k:=Nat.le_trans (List.length_filter_le _ _) (by rw [List.length_take]; omega)
section
variable {N:Nat} (hN:gQ N)
include hN
theorem I7 (l:List cB) (hc:ky l=0):TP N l=some (nV l):=by
 obtain ⟨hl,hv,ha⟩:=iu hc
 have key:=df (rd:=wE N l) l.length (fun k=>(((l.take k).filter (wG l)).map fun b=>(b.1,b.2.1+1),(k:Int))) (nV l) (fun k hk=>by
  have hb:=EC (hv _ (List.getElem_mem hk))
  have EB:=lQ hb.1
  simp only [sU] at EB
  have tl:=lX (wG l) l k
  have w1:IntKind.wrap .i64 (l[k].1 - 1)=l[k].1 - 1:=gf (by omega)
  have w2:IntKind.wrap .i64 (l[k].1+1)=l[k].1+1:=gf (by omega)
  have w3:IntKind.wrap .i64 (l[k].2.1+1)=l[k].2.1+1:=gf (by omega)
  have h1:IS N (l,(l[k].1,l[k].2.1,1))=some (decide (((l[k].1,l[k].2.1,1):cB)∈l)):=tU hN l ha (by omega) _
  have h2:IS N (l,(l[k].1 - 1,l[k].2.1+1,1))=some (decide (((l[k].1 - 1,l[k].2.1+1,1):cB)∈l)):=tU hN l ha (by omega) _
  have h3:IS N (l,(l[k].1+1,l[k].2.1+1,-1))=some (decide (((l[k].1+1,l[k].2.1+1,-1):cB)∈l)):=tU hN l ha (by omega) _
  have hs:(l[k].2.2 == (-1:Int))=decide (l[k].2.2=-1):=rfl
  have cb:decide ((((l.take k).filter (wG l)).length+1) * 16≤140737488355328)=true:=decide_eq_true (by omega)
  have sn:=I6 (((l.take k).filter (wG l)).map fun b=>(b.1,b.2.1+1)) l[k].1 (l[k].2.1+1)
  rw [sV (wG l) l hk,List.map_append]
  have ml:(((l.take k).filter (wG l)).map (fun b:cB=>(b.1,b.2.1+1))++[(l[k].1,l[k].2.1+1)]).length=((l.take k).filter (wG l)).length+1:=by rw [List.length_append,List.length_map]; rfl
  have mk:wG l l[k]=(decide (l[k].2.2=-1)&&(decide (((l[k].1,l[k].2.1,1):cB)∈l)&&(decide (((l[k].1 - 1,l[k].2.1+1,1):cB)∈l)&&decide (((l[k].1+1,l[k].2.1+1,-1):cB)∈l)))):=rfl
  rw [mk]
  simp only [wE,List.length_map,ck hk,bV hk,Int.toNat_natCast,dv n59 l k hk,xo,xp,Bool.and_self,Bool.and_true,cond_true,hs,dF,dG,Option.bind_some,w1,w2,w3,h1,h2,h3,IQ,IR,decide_true,ea (show k < 9223372036854775807 by omega)]
  generalize decide (l[k].2.2=-1)=c1
  generalize decide (((l[k].1,l[k].2.1,1):cB)∈l)=c2
  generalize decide (((l[k].1 - 1,l[k].2.1+1,1):cB)∈l)=c3
  generalize decide (((l[k].1+1,l[k].2.1+1,-1):cB)∈l)=c4
  cases c1 <;> cases c2 <;> cases c3 <;> cases c4 <;> simp only [cond_true,cond_false,Option.bind_some,IQ,IR,Bool.and_true,Bool.and_false,Bool.and_self,Bool.false_and,Bool.true_and,decide_true,List.length_map,if_true,if_false,Bool.false_eq_true,List.map_nil,List.append_nil,cb,sn,ml,List.map_cons]) (by
  have tk:l.take l.length=l:=List.take_length
  simp only [wE,List.length_map,cT,cond_false,cond_true,tk,IQ,IR,Bool.and_true,decide_true,Option.bind_some]
  rfl) N 0 (Nat.zero_le _) (by unfold gQ at hN; omega)
 have wq:a6 (V:=(List (Int × Int)) × Int) (X:=(List (Int × Int))) (wE N l) N (([]:List (Int × Int)),0)=some (nV l):=key
 have z:((bif (allFit (aq.fits tR) ([]:List AV)&&true) then some ((List.map d57 ([]:List AV)),0) else none:Option ((List (Int × Int)) × Int)).bind fun PF=>bif (decide (0=(List.map n57 PF.1).length)&&true) then some PF else none)=some (([]:List (Int × Int)),(0:Int)):=rfl
 rw [PE,z,Option.bind_some,wq]
 simp only [Option.bind_some,IQ,IR,cond_true]
theorem BO (l:List cB) (hc:ky l=0):SM N l=some (nV l,0):=by
 rw [PQ]
 simp only [dF,dG,Bool.and_true,cond_true,Option.bind_some,qH hN,hc,bne_self_eq_false,cond_false,I7 hN l hc,IQ,IR]
theorem LG (l:List cB) (hc:ky l=0) (b:cB) (hb:kw b=0):SL N (l,b)=some (decide (b∈l),0):=by
 obtain ⟨hl,hv,ha⟩:=iu hc
 have t2:=wA 0 0
 have f2:wN N [0,0]=some 0:=di hN _ (by simp)
 have h1:O3 N (b.1,b.2.1,b.2.2)=some 0:=by
  have:=EA hN b
  rw [hb] at this
  exact this
 have h2:IS N (l,(b.1,b.2.1,b.2.2))=some (decide (b∈l)):=tU hN l ha (by omega) b
 rw [Bool.and_true] at t2
 rw [PO]
 simp only [dF,dG,Bool.and_true,cond_true,Option.bind_some,qH hN,hc,beq_self_eq_true,Bool.and_self,h1,t2,f2,bne_self_eq_false,cond_false,h2]
omit hN in
theorem nr (x:cB) (a:List cB):iA (Int.toNat 1) (List.map n59 (x :: a)).length (List.map n59 (x :: a))=List.map n59 a:=by
 unfold iA
 rw [List.map_cons,List.length_cons]
 show List.drop 1 (List.take _ (n59 x :: List.map n59 a))=_
 rw [List.take_succ_cons,List.drop_succ_cons,List.drop_zero,List.take_length]
omit hN in
theorem rX (x:cB) (a:List cB):av (List.map n59 (x :: a)) (Int.toNat 0)=n59 x:=dv n59 (x :: a) 0 (by simp)
theorem I8 (a b out:List cB) (ha:a.length≤100000) (hb:b.length≤100000) (ho:out.length≤1000000) :
  gR N (a,b,out)=match a,b with
   | [],[]=>some (.inr out)
   | x :: a,[]=>some (.inl (a,[],out++[x]))
   | [],y :: b=>some (.inl ([],b,out))
   | x :: a,y :: b=>if dw x y < 0 then some (.inl (a,y :: b,out++[x])) else if dw x y > 0 then some (.inl (x :: a,b,out)) else some (.inl (a,b,out)):=by
 have g0:∀ n:Nat,decide ((0:Int)≤0∧0 < ((n+1:Nat):Int))=true:=fun n=>decide_eq_true (by omega)
 have g1:∀ n:Nat,decide ((0:Int)≤1∧1≤((n+1:Nat):Int))=true:=fun n=>decide_eq_true (by omega)
 have ez:∀ n:Nat,(((n+1:Nat):Int) == 0)=false:=fun n=>beq_eq_false_iff_ne.2 (by omega)
 have cb:decide ((out.length+1) * 24≤140737488355328)=true:=decide_eq_true (by omega)
 have T:∀ p q:Bool,TV N (p,q)=some (p&&!q):=fun p q=>by rw [PZ]; cases p <;> cases q <;> rfl
 have sn:=fun x:cB=>qE out x.1 x.2.1 x.2.2
 have sl:∀ x:cB,(out++[(x.1,x.2.1,x.2.2)]).length=out.length+1:=fun x=>by simp
 match a,b with
 | [],[]=>
  have e:decide (IntKind.wrap .i64 ((((List.map n59 ([]:List cB)).length:Nat):Int)+(((List.map n59 ([]:List cB)).length:Nat):Int)) > 0)=false:=rfl
  simp only [gR,e,cond_false,dF,dG,Bool.and_true,cond_true,decide_true,Option.bind_some]
 | x :: a,[]=>
  have wl:decide (IntKind.wrap .i64 (((a.length+1:Nat):Int)+((0:Nat):Int)) > 0)=true:=by
   simp only [List.length_cons] at ha
   rw [gf (by omega)]
   exact decide_eq_true (by omega)
  have z0:(((0:Nat):Int) == 0)=true:=rfl
  simp only [gR,List.length_map,List.length_cons,List.length_nil,wl,z0,cond_true,cond_false,dF,dG,Bool.and_true,Bool.and_self,decide_true,Option.bind_some,show decide ((-1:Int)≤0)=true from rfl,show decide ((-1:Int)≥0)=false from rfl,g0,g1,rX,xo,xp]
  have t:=nr x a
  simp only [List.length_map,List.length_cons] at t
  simp only [t,dF,dG,Bool.and_true,Bool.and_self,cond_true,decide_true,Option.bind_some,T,Bool.not_false,cb,sn,sl,List.length_map]
 | [],y :: b=>
  have wl:decide (IntKind.wrap .i64 (((0:Nat):Int)+((b.length+1:Nat):Int)) > 0)=true:=by
   simp only [List.length_cons] at hb
   rw [gf (by omega)]
   exact decide_eq_true (by omega)
  have z0:(((0:Nat):Int) == 0)=true:=rfl
  simp only [gR,List.length_map,List.length_cons,List.length_nil,wl,z0,ez,cond_true,cond_false,dF,dG,Bool.and_true,Bool.and_self,decide_true,Option.bind_some,show decide ((1:Int)≤0)=false from rfl,show decide ((1:Int)≥0)=true from rfl,g0,g1,rX,xo,xp]
  have t:=nr y b
  simp only [List.length_map,List.length_cons] at t
  simp only [t,dF,dG,Bool.and_true,Bool.and_self,cond_true,cond_false,decide_true,Option.bind_some,T,Bool.not_true,Bool.false_and,List.length_map]
 | x :: a,y :: b=>
  have wl:decide (IntKind.wrap .i64 (((a.length+1:Nat):Int)+((b.length+1:Nat):Int)) > 0)=true:=by
   simp only [List.length_cons] at ha hb
   rw [gf (by omega)]
   exact decide_eq_true (by omega)
  have cm:FP N ((x.1,x.2.1,x.2.2),(y.1,y.2.1,y.2.2))=some (dw x y):=qG hN x y
  have ta:=nr x a
  have tb:=nr y b
  simp only [List.length_map,List.length_cons] at ta tb
  simp only [gR,List.length_map,List.length_cons,wl,ez,cond_true,cond_false,dF,dG,Bool.and_true,Bool.and_self,decide_true,Option.bind_some,g0,g1,rX,xo,xp,cm,ta,tb,T]
  by_cases h1:dw x y < 0
  ·have d1:decide (dw x y≤0)=true:=decide_eq_true (by omega)
   have d2:decide (dw x y≥0)=false:=decide_eq_false (by omega)
   simp only [d1,d2,h1,if_true,cond_true,cond_false,Option.bind_some,dF,dG,Bool.and_true,Bool.and_self,decide_true,Bool.not_false,cb,sn,sl,List.length_map]
  ·by_cases h2:dw x y > 0
   ·have d1:decide (dw x y≤0)=false:=decide_eq_false (by omega)
    have d2:decide (dw x y≥0)=true:=decide_eq_true (by omega)
    simp only [d1,d2,h1,h2,if_true,if_false,cond_true,cond_false,Option.bind_some,dF,dG,Bool.and_true,Bool.and_self,decide_true,Bool.not_true,Bool.false_and,List.length_map]
   ·have d1:decide (dw x y≤0)=true:=decide_eq_true (by omega)
    have d2:decide (dw x y≥0)=true:=decide_eq_true (by omega)
    simp only [d1,d2,h1,h2,if_false,cond_true,cond_false,Option.bind_some,dF,dG,Bool.and_true,Bool.and_self,decide_true,Bool.not_true,Bool.and_false,List.length_map]
end
end Go.Proofs.YtophnjjjmikmeaaGreat
