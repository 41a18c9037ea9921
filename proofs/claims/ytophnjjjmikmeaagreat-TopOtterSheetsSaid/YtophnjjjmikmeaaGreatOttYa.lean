/- Plain law: the bars of a sheet. -/
import Derived.Test.YtophnjjjmikmeaaGreatOttX
import Derived.Test.YtophnjjjmikmeaaGreatOttH
set_option linter.all false
namespace Go.Proofs.YtophnjjjmikmeaaGreat
open Go Go.Am Go.Sort
set_option maxRecDepth 100000
def np (X:Int) (C:Nat) (y x:Int):List cB:=(if x+-1≥X∧x+-1≤X+2 * C then [((x,y,-1):cB)] else [])++if x+1≥X∧x+1≤X+2 * C then [((x,y,1):cB)] else []
def tx (X:Int) (C:Nat) (y x0:Int) (J:Nat):List cB:=(List.range J).flatMap fun (j:Nat)=>np X C y (x0+2 * j)
def Aa (X Y:Int) (C n:Nat):List cB:=tx X C (Y+n) (X+(n % 2:Nat)) (C+1 - n % 2)
def kU (X Y:Int) (C R:Nat):List cB:=(List.range R).flatMap (Aa X Y C)
theorem FY (X:Int) (C:Nat) (y x:Int):(np X C y x).length≤2:=by
 unfold np
 rw [List.length_append]
 split <;> split <;> simp
theorem Ab {α β:Type} (f:α→List β) (m:Nat):∀ l:List α,(∀ a∈l,(f a).length≤m)→(l.flatMap f).length≤l.length * m
 | [],_=>by simp
 | a :: l,h=>by
  have ih:=Ab f m l fun x hx=>h x (List.mem_cons_of_mem _ hx)
  have ha:=h a (by simp)
  rw [List.flatMap_cons,List.length_append,List.length_cons,Nat.succ_mul]
  omega
theorem BL (X:Int) (C:Nat) (y x0:Int) (J:Nat):(tx X C y x0 J).length≤J * 2:=by
 have:=Ab (fun j:Nat=>np X C y (x0+2 * j)) 2 (List.range J) fun _ _=>FY ..
 rwa [List.length_range] at this
theorem IZ (X Y:Int) (C n:Nat):(Aa X Y C n).length≤(C+1) * 2:=
 Nat.le_trans (BL ..) (Nat.mul_le_mul_right _ (by omega))
theorem BM (X Y:Int) (C R:Nat):(kU X Y C R).length≤R * ((C+1) * 2):=by
 have:=Ab (Aa X Y C) ((C+1) * 2) (List.range R) fun _ _=>IZ ..
 rwa [List.length_range] at this
section
variable {N:Nat} (hN:gQ N)
include hN
theorem I0 (X Y:Int) (C R:Nat) (n:Nat) (x:Int) (v10 v11:Int × Int × Int × Int × Int × Unit × (List (Int × Int × Int))) (Qi:v10.1=n) (S6:v11.1=x)
  (hX:-90000≤X∧X≤90000) (hY:-90000≤Y∧Y≤90000) (hC:C≤300) (hn:n≤300) (hx:-95000≤x∧x≤95000) (out:List cB) (ho:out.length≤1000000) :
  a6 (V:=Int × Int × Int × Int × Int × Unit × (List (Int × Int × Int))) (X:=(Int × Int × Int × Int × Unit × (List (Int × Int × Int))) ⊕ (Int × Int × Int × Int × Unit × (List (Int × Int × Int)))) (dM N v10 v11) N (0,X,Y,(C:Int),(R:Int),(),out)=some (.inr (X,Y,(C:Int),(R:Int),(),out++np X C (Y+n) x)):=by
 have w1:IntKind.wrap .i64 (2 * (C:Int))=2 * C:=gf (by omega)
 have w2:IntKind.wrap .i64 (X+2 * (C:Int))=X+2 * C:=gf (by omega)
 have w3:IntKind.wrap .i64 (Y+(n:Int))=Y+n:=gf (by omega)
 have w4:IntKind.wrap .i64 (x+-1)=x+-1:=gf (by omega)
 have w5:IntKind.wrap .i64 (x+1)=x+1:=gf (by omega)
 have st:∀ (s:Int) (o:List cB),o.length≤1000001→(((bif (decide (IntKind.wrap .i64 (x+s)≥X)) then (bif (decide (IntKind.wrap .i64 (x+s)≤X+2 * C)) then bif (decide (o.length=o.length)&&decide (0=0)&&decide (o.length=o.length)&&decide ((o.length+1) * 24≤140737488355328)) then some (o++[(x,Y+n,s)]) else none else some o) else some o):Option (List cB)))=some (o++if IntKind.wrap .i64 (x+s)≥X∧IntKind.wrap .i64 (x+s)≤X+2 * C then [((x,Y+n,s):cB)] else []):=fun s o h=>by
  have c1:decide ((o.length+1) * 24≤140737488355328)=true:=decide_eq_true (by omega)
  by_cases h1:IntKind.wrap .i64 (x+s)≥X
  ·by_cases h2:IntKind.wrap .i64 (x+s)≤X+2 * C
   ·simp [h1,h2,c1]
   ·simp [h1,h2]
  ·simp [h1]
 have gen:∀ (i:Int) (s:Int),(i=0∧s=-1∨i=1∧s=1)→∀ o:List cB,o.length≤1000001→dM N v10 v11 (i,X,Y,(C:Int),(R:Int),(),o)=some (.inl (i+1,X,Y,(C:Int),(R:Int),(),o++if IntKind.wrap .i64 (x+s)≥X∧IntKind.wrap .i64 (x+s)≤X+2 * C then [((x,Y+n,s):cB)] else [])):=fun i s Z0 o ho=>by
  have sn:=qE o x (Y+n) s
  have hb:decide ((o.length+1) * 24≤140737488355328)=true:=decide_eq_true (by omega)
  have hl:(o++[((x,Y+n,s):cB)]).length=o.length+1:=by simp
  have i2:decide (i < 2)=true:=decide_eq_true (by omega)
  have wi:IntKind.wrap .i64 (i+1)=i+1:=gf (by omega)
  rcases Z0 with ⟨rfl,rfl⟩ | ⟨rfl,rfl⟩
  ·simp only [dM,Qi,S6,i2,show decide ((0:Int)=0)=true from rfl,cond_true,dF,dG,Nat.beq_refl,Bool.and_self,Bool.and_true,Option.bind_some,w1,w2,w3,sn,hb,hl,decide_true,List.length_map,wi]
   by_cases h1:IntKind.wrap .i64 (x+-1)≥X
   ·by_cases h2:IntKind.wrap .i64 (x+-1)≤X+2 * C
    ·rw [if_pos ⟨h1,h2⟩]
     simp only [h1,h2,decide_true,cond_true,Option.bind_some,cond_false,dF,dG,Nat.beq_refl,Bool.and_self,Bool.and_true,sn,hl,List.length_map,wi]
    ·rw [if_neg (fun c=>h2 c.2),List.append_nil]
     simp only [h1,h2,decide_true,decide_false,cond_true,Option.bind_some,cond_false,dF,dG,Nat.beq_refl,Bool.and_self,Bool.and_true,List.length_map,wi]
   ·rw [if_neg (fun c=>h1 c.1),List.append_nil]
    simp only [h1,decide_false,cond_true,Option.bind_some,cond_false,dF,dG,Nat.beq_refl,Bool.and_self,Bool.and_true,List.length_map,wi]
  ·simp only [dM,Qi,S6,i2,show decide ((1:Int)=0)=false from rfl,show decide ((1:Int)=1)=true from rfl,cond_true,cond_false,dF,dG,Nat.beq_refl,Bool.and_self,Bool.and_true,Option.bind_some,w1,w2,w3,sn,hb,hl,decide_true,List.length_map,wi]
   by_cases h1:IntKind.wrap .i64 (x+1)≥X
   ·by_cases h2:IntKind.wrap .i64 (x+1)≤X+2 * C
    ·rw [if_pos ⟨h1,h2⟩]
     simp only [h1,h2,decide_true,cond_true,Option.bind_some,cond_false,dF,dG,Nat.beq_refl,Bool.and_self,Bool.and_true,sn,hl,List.length_map,wi]
    ·rw [if_neg (fun c=>h2 c.2),List.append_nil]
     simp only [h1,h2,decide_true,decide_false,cond_true,Option.bind_some,cond_false,dF,dG,Nat.beq_refl,Bool.and_self,Bool.and_true,List.length_map,wi]
   ·rw [if_neg (fun c=>h1 c.1),List.append_nil]
    simp only [h1,decide_false,cond_true,Option.bind_some,cond_false,dF,dG,Nat.beq_refl,Bool.and_self,Bool.and_true,List.length_map,wi]
 have fin:∀ o:List cB,dM N v10 v11 (2,X,Y,(C:Int),(R:Int),(),o)=some (.inr (.inr (X,Y,(C:Int),(R:Int),(),o))):=fun o=>by
  simp only [dM,show decide ((2:Int) < 2)=false from rfl,cond_false,dF,dG,Nat.beq_refl,Bool.and_self,Bool.and_true,cond_true,Option.bind_some,List.length_map]
 obtain ⟨M,rfl⟩:∃ M,N=M+3:=⟨N - 3,by unfold gQ at hN; omega⟩
 have g0:=gen 0 (-1) (.inl ⟨rfl,rfl⟩) out (by omega)
 have J6:(out++if IntKind.wrap .i64 (x+-1)≥X∧IntKind.wrap .i64 (x+-1)≤X+2 * C then [((x,Y+n,-1):cB)] else []).length≤1000001:=by
  rw [List.length_append]
  split <;> simp <;> omega
 have g1:=gen 1 1 (.inr ⟨rfl,rfl⟩) _ J6
 rw [dK,g0,Option.bind_some,Sum.elim_inl]
 have e1:(0:Int)+1=1:=rfl
 have e2:(1:Int)+1=2:=rfl
 rw [e1,dK,g1,Option.bind_some,Sum.elim_inl,e2,dK,fin,Option.bind_some,Sum.elim_inr,w4,w5]
 unfold np
 rw [List.append_assoc]
theorem LA (X Y:Int) (C R:Nat) (n:Nat) (v10:Int × Int × Int × Int × Int × Unit × (List (Int × Int × Int))) (Qi:v10.1=n)
  (hX:-90000≤X∧X≤90000) (hY:-90000≤Y∧Y≤90000) (hC:C≤300) (hn:n≤300) (out:List cB) (ho:out.length≤900000) :
  a6 (V:=Int × Int × Int × Int × Int × Unit × (List (Int × Int × Int))) (X:=(Int × Int × Int × Int × Unit × (List (Int × Int × Int))) ⊕ (Int × Int × Int × Int × Unit × (List (Int × Int × Int)))) (ir N v10) N (X+(n % 2:Nat),X,Y,(C:Int),(R:Int),(),out)=some (.inr (X,Y,(C:Int),(R:Int),(),out++Aa X Y C n)):=by
 have w1:IntKind.wrap .i64 (2 * (C:Int))=2 * C:=gf (by omega)
 have w2:IntKind.wrap .i64 (X+2 * (C:Int))=X+2 * C:=gf (by omega)
 have key:=df (rd:=ir N v10) (C+1 - n % 2) (fun j=>((X+(n % 2:Nat))+2 * (j:Int),X,Y,(C:Int),(R:Int),(),out++tx X C (Y+n) (X+(n % 2:Nat)) j)) (.inr (X,Y,(C:Int),(R:Int),(),out++Aa X Y C n)) (fun j hj=>by
  have bM:decide (X+((n % 2:Nat):Int)+2 * (j:Int)≤X+2 * C)=true:=decide_eq_true (by omega)
  have rl:=BL X C (Y+n) (X+(n % 2:Nat)) j
  have sd:=I0 hN X Y C R n (X+(n % 2:Nat)+2 * (j:Int)) v10 (X+(n % 2:Nat)+2 * (j:Int),X,Y,(C:Int),(R:Int),(),out++tx X C (Y+n) (X+(n % 2:Nat)) j) Qi rfl hX hY hC hn (by omega) (out++tx X C (Y+n) (X+(n % 2:Nat)) j) (by rw [List.length_append]; omega)
  have ws:IntKind.wrap .i64 (X+((n % 2:Nat):Int)+2 * (j:Int)+2)=X+((n % 2:Nat):Int)+2 * ((j+1:Nat):Int):=by rw [gf (by omega)]; omega
  have rs:out++tx X C (Y+n) (X+(n % 2:Nat)) j++np X C (Y+n) (X+(n % 2:Nat)+2 * (j:Int))=out++tx X C (Y+n) (X+(n % 2:Nat)) (j+1):=by
   unfold tx
   rw [List.range_succ,List.flatMap_append,List.append_assoc]
   simp
  simp only [ir,w1,w2,bM,cond_true,dF,dG,Nat.beq_refl,Bool.and_self,Bool.and_true,Option.bind_some,sd,Sum.elim_inr,ws,rs,List.length_map]) (by
  have qS:decide (X+((n % 2:Nat):Int)+2 * ((C+1 - n % 2:Nat):Int)≤X+2 * C)=false:=decide_eq_false (by omega)
  simp only [ir,w1,w2,qS,cond_false,cond_true,dF,dG,Nat.beq_refl,Bool.and_self,Bool.and_true,Option.bind_some,List.length_map]
  rfl) N 0 (Nat.zero_le _) (by unfold gQ at hN; omega)
 have e0:tx X C (Y+n) (X+(n % 2:Nat)) 0=[]:=rfl
 simp only [e0,List.append_nil,Int.natCast_zero,Int.mul_zero,Int.add_zero] at key
 exact key
theorem LB (X Y:Int) (C R:Nat) (hX:-90000≤X∧X≤90000) (hY:-90000≤Y∧Y≤90000) (hC:C≤300) (hR:R≤300) :
  a6 (V:=Int × Int × Int × Int × Int × Unit × (List (Int × Int × Int))) (X:=(Int × Int × Int × Int × Unit × (List (Int × Int × Int))) ⊕ (Int × Int × Int × Int × Unit × (List (Int × Int × Int)))) (nm N (R:Int)) N (0,X,Y,(C:Int),(R:Int),(),[])=some (.inr (X,Y,(C:Int),(R:Int),(),kU X Y C R)):=by
 refine df (rd:=nm N (R:Int)) R (fun n=>((n:Int),X,Y,(C:Int),(R:Int),(),kU X Y C n)) (.inr (X,Y,(C:Int),(R:Int),(),kU X Y C R)) (fun n hn=>?_) ?_ N 0 (Nat.zero_le _) (by unfold gQ at hN; omega)
 ·have sl:=BM X Y C n
  have:n * ((C+1) * 2)≤300 * (301 * 2):=Nat.mul_le_mul (by omega) (by omega)
  have tm:IntKind.wrap .i64 (X+Int.tmod (n:Int) 2)=X+((n % 2:Nat):Int):=by
   rw [Int.tmod_eq_emod_of_nonneg (by omega),gf (by omega)]
   omega
  have Z1:=LA hN X Y C R n ((n:Int),X,Y,(C:Int),(R:Int),(),kU X Y C n) rfl hX hY hC (by omega) (kU X Y C n) (by omega)
  have rs:kU X Y C n++Aa X Y C n=kU X Y C (n+1):=by
   unfold kU
   rw [List.range_succ,List.flatMap_append]
   simp
  simp only [nm,ck hn,cond_true,dF,dG,Nat.beq_refl,Bool.and_self,Bool.and_true,Option.bind_some,tm,Z1,Sum.elim_inr,rs,ea (show n < 9223372036854775807 by omega),List.length_map]
 ·simp only [nm,cT,cond_false,cond_true,dF,dG,Nat.beq_refl,Bool.and_self,Bool.and_true,Option.bind_some,List.length_map]
theorem FZ (X Y:Int) (C R:Nat) (hk:aP (X,Y)=0) (hX:-90000≤X∧X≤90000) (hY:-90000≤Y∧Y≤90000) (hC:1≤C∧C≤200) (hR:1≤R∧R≤200) (hm:2 * C * R≤4096) :
  TU N ((X,Y),(C:Int),(R:Int))=some (kU X Y C R,0):=by
 have r1:qv (C:Int) 1 256=0:=by unfold qv; rw [if_neg (by omega)]
 have r2:qv (R:Int) 1 256=0:=by unfold qv; rw [if_neg (by omega)]
 have th:((bif (allFit (aq.fits qW) [(AV.int .i64 0),(AV.int .i64 0),(AV.int .i64 0)]&&true) then some (List.map d30 [(AV.int .i64 0),(AV.int .i64 0),(AV.int .i64 0)]) else none:Option ((List Int))))=some [0,0,0]:=rfl
 have t2:=wA 0 0
 have f3:wN N [0,0,0]=some 0:=di hN _ (by simp)
 have f2:wN N [0,0]=some 0:=di hN _ (by simp)
 have Jh:((2 * C * R:Nat):Int)=2 * (C:Int) * (R:Int):=by rw [Int.natCast_mul,Int.natCast_mul]; rfl
 have w1:IntKind.wrap .i64 (2 * (C:Int))=2 * C:=gf (by omega)
 have w2:IntKind.wrap .i64 (2 * (C:Int) * (R:Int))=2 * C * R:=gf (by omega)
 have w3:¬ 2 * (C:Int) * (R:Int) > 4096:=by omega
 have w4:IntKind.wrap .i64 (X+2 * (C:Int))=X+2 * C:=gf (by omega)
 have w5:IntKind.wrap .i64 (Y+(R:Int))=Y+R:=gf (by omega)
 have re:MA N (X+2 * C,Y+R)=some 0:=by
  rw [yG hN]
  have q1:qv (X+2 * (C:Int)) (-100000) 100000=0:=by unfold qv; rw [if_neg (by omega)]
  have q2:qv (Y+(R:Int)) (-100000) 100000=0:=by unfold qv; rw [if_neg (by omega)]
  simp only [q1,q2]
  rfl
 have al:=LB hN X Y C R hX hY (by omega) (by omega)
 have cl:aJ (List.map n59 (kU X Y C R))=true:=We _
 have z:((bif ((Nat.beq 0 (([]:List AV)).length&&Nat.beq 0 (([]:List AV)).length)&&(allFit (aq.fits b6) ([]:List AV)&&true)) then some (0,X,Y,(C:Int),(R:Int),(),(List.map d59 ([]:List AV))) else none:Option (Int × Int × Int × Int × Int × Unit × (List (Int × Int × Int)))).bind fun V6=>some V6)=some ((0:Int),X,Y,(C:Int),(R:Int),(),([]:List cB)):=rfl
 rw [Bool.and_true] at th t2
 simp only [Bool.and_true,Bool.and_self] at z
 rw [PX]
 simp only [qC hN,hk,zZ,r1,r2,Option.bind_some,Bool.and_true,th,f3,bne_self_eq_false,cond_false,w1,w2,w3,decide_false,qF,Bool.false_eq_true,if_false,beq_self_eq_true,Bool.and_self,cond_true,w4,w5,re,t2,f2,z,al,Sum.elim_inr,Sum.elim_inl,dF,dG,Nat.beq_refl,decide_true,cl,List.length_map]
end
end Go.Proofs.YtophnjjjmikmeaaGreat
