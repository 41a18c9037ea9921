/- Plain laws: the parts of a net. -/
import Derived.Test.YtophnjjjmikmeaaGreatOttWd
set_option linter.all false
namespace Go.Proofs.YtophnjjjmikmeaaGreat
open Go Go.Am Go.Sort
set_option maxRecDepth 100000
theorem Wj (l:List aV):ay (List.map n59 l)=true:=by
 induction l with
 | nil=>rfl
 | cons x l ih=>exact ih
def LN (l:List aV) (s:yY × List aV) (k:Nat):Prop:=s.1=(l.take k).foldl (yX l) []∧(∀ x,x∈s.2↔∃ p∈s.1,x∈p)∧s.1.length≤k∧∀ p∈s.1,∃ c∈l,p=kC l c
theorem Du {l:List aV} {s:yY × List aV} {k:Nat} (h:LN l s k):∀ x∈s.2,x∈l∧∀ y∈l,kL x y=true→y∈s.2:=by
 intro x hx
 obtain ⟨h1,h2,h3,h4⟩:=h
 obtain ⟨p,hp,ZO⟩:=(h2 x).1 hx
 obtain ⟨c,hc,rfl⟩:=h4 p hp
 have hr:=(gd l c hc x).1 ZO
 exact ⟨hr.ZK hc,fun y hy ht=>(h2 y).2 ⟨_,hp,(gd l c hc y).2 (.step hr hy ht)⟩⟩
theorem yh {α β:Type} (f:β→α→β) (b:β) (l:List α) {k:Nat} (hk:k < l.length):(l.take (k+1)).foldl f b=f ((l.take k).foldl f b) l[k]:=by
 rw [List.take_add_one,List.getElem?_eq_getElem hk,List.foldl_append]
 rfl
section
variable {N:Nat} (hN:gU N)
include hN
theorem LO (l:List aV) (h:ng l=0) (s:yY × List aV) (k:Nat) (hk:k < l.length) (hP:LN l s k):∃ s':yY × List aV,mK N l (s.1,(k:Int),bX s.2)=some (.inl (s'.1,((k+1:Nat):Int),bX s'.2))∧LN l s' (k+1):=by
 obtain ⟨g1,g2,g3⟩:=rY h
 have gi:=Du hP
 obtain ⟨out,S⟩:=s
 obtain ⟨h1,h2,h3,h4⟩:=hP
 simp only at h1 h2 h3 h4 gi
 obtain ⟨a1,a2⟩:=yV l hk
 have hb:l[k]∈l:=List.getElem_mem hk
 generalize hbe:l[k]=b at *
 have kk:cH BT (.agg [.int .i64 b.1,.int .i64 b.2.1,.int .i64 b.2.2]) (ab (List.map aH (bX S)))=true:=cO.keys b _
 have kg:bu BT (.agg [.int .i64 b.1,.int .i64 b.2.1,.int .i64 b.2.2]) (AV.bool false) (ab (List.map aH (bX S)))=AV.bool (decide (b∈S)):=by
  have:=cO.getD b false (bX S)
  rw [og] at this
  exact this
 have fb:∀ x:Bool,aj.fits p4 (AV.bool x)=true:=fun _=>rfl
 have db:∀ x:Bool,d4 (AV.bool x)=x:=fun _=>rfl
 have J2:(out.any fun p=>decide (b∈p))=decide (b∈S):=by
  rw [Bool.eq_iff_iff,decide_eq_true_eq,h2 b,List.any_eq_true]
  constructor
  ·rintro ⟨p,hp,e⟩; exact ⟨p,hp,of_decide_eq_true e⟩
  ·rintro ⟨p,hp,e⟩; exact ⟨p,hp,decide_eq_true e⟩
 have zo:(l.take (k+1)).foldl (yX l) []=if b∈S then out else out++[kC l b]:=by
  rw [yh (yX l) [] l hk,← h1,hbe]
  unfold yX
  rw [J2]
  by_cases hS:b∈S
  ·rw [if_pos hS,if_pos (decide_eq_true hS)]
  ·rw [if_neg hS,if_neg (by simpa using hS)]
 by_cases hS:b∈S
 ·rw [decide_eq_true hS] at kg
  rw [if_pos hS] at zo
  refine ⟨(out,S),?_,zo.symm,h2,by simp only; omega,h4⟩
  simp only [mK,List.length_map,cu hk,bP hk,Int.toNat_natCast,a1,a2,kk,kg,fb,db,kJ,kK,dX,dY,cO.cells,cO.bo,Bool.and_self,Bool.and_true,cond_true,decide_true,Option.bind_some,dy (show k < 9223372036854775807 by omega)]
 ·rw [decide_eq_false hS] at kg
  rw [if_neg hS] at zo
  obtain ⟨F,f1,f2,f3⟩:=LM hN l h out S b hb hS
  have srt:=OP hb f2 gi f3
  have fl:=ir F l f2.1 fun x hx=>(f2.2.2 x hx).1
  have kp:bi BT (.agg [.int .i64 b.1,.int .i64 b.2.1,.int .i64 b.2.2]) (AV.bool true) (ab (List.map aH (bX S)))=ab (List.map aH (bX (S++[b]))):=by
   have:=cO.put b true (bX S)
   rw [oh _ _ hS] at this
   exact this
  have es:dR cN ji (List.map n59 F)=List.map n59 (kC l b):=by
   unfold dR
   rw [show List.map cN.bh (List.map n59 F)=F from ft _,← srt]
   rfl
  have sl:(kC l b).length=F.length:=by rw [← srt,List.length_mergeSort]
  have z1:allFit (aj.fits cN) [AV.agg [AV.int .i64 b.1,AV.int .i64 b.2.1,AV.int .i64 b.2.2]]=true:=rfl
  have z2:List.map d59 [AV.agg [AV.int .i64 b.1,AV.int .i64 b.2.1,AV.int .i64 b.2.2]]=[b]:=rfl
  have z3:Nat.beq 1 1=true:=rfl
  have AK:decide (F.length≤140737488355328)=true:=decide_eq_true (by omega)
  have HW:decide ((out.length+1) * 24≤140737488355328)=true:=decide_eq_true (by omega)
  refine ⟨(out++[kC l b],S++F),?_,zo.symm,fun x=>?_,by simp only [List.length_append,List.length_singleton]; omega,fun p hp=>?_⟩
  ·simp only [mK,List.length_map,cu hk,bP hk,Int.toNat_natCast,a1,a2,kk,kg,kp,fb,db,kJ,kK,fY,ft,dX,dY,cO.cells,cO.bo,Bool.and_self,Bool.and_true,cond_true,cond_false,decide_true,Option.bind_some,z1,z2,z3,Bool.true_and,f1,es,sl,AK,HW,Wj,Tt,List.length_append,List.length_singleton,dy (show k < 9223372036854775807 by omega)]
  ·rw [List.mem_append,h2 x]
   constructor
   ·rintro (⟨p,hp,e⟩ | hx)
    ·exact ⟨p,List.mem_append.2 (.inl hp),e⟩
    ·exact ⟨kC l b,List.mem_append.2 (.inr (by simp)),(gd l b hb x).2 ((BK f2 gi f3 x).1 hx)⟩
   ·rintro ⟨p,hp,e⟩
    rcases List.mem_append.1 hp with hp | hp
    ·exact .inl ⟨p,hp,e⟩
    ·rw [List.mem_singleton] at hp
     subst hp
     exact .inr ((BK f2 gi f3 x).2 ((gd l b hb x).1 e))
  ·rcases List.mem_append.1 hp with hp | hp
   ·exact h4 p hp
   ·rw [List.mem_singleton] at hp
    exact ⟨b,hb,hp⟩
def Wk (l:List aV):yY:=l.foldl (yX l) []
theorem ID (l:List aV) (h:ng l=0):Xw N l=some (Wk l):=by
 obtain ⟨g1,g2,g3⟩:=rY h
 obtain ⟨x,e1,s,rfl,e2⟩:=sV (rd:=mK N l) l.length (fun (s:yY × List aV) k=>(s.1,(k:Int),bX s.2)) (LN l) (fun x=>∃ s:yY × List aV,x=(s.1,bX s.2)∧LN l s l.length) (fun s k hk hP=>LO hN l h s k hk hP) (fun s hP=>⟨(s.1,bX s.2),by
   simp only [mK,List.length_map,du,cond_false,cond_true,kJ,kK,dX,dY,cO.cells,cO.bo,Bool.and_self,Bool.and_true,decide_true,Option.bind_some],s,rfl,hP⟩) N ([],[]) 0 (Nat.zero_le _) (by unfold gU at hN; omega) ⟨rfl,fun x=>by simp,by simp,fun p hp=>by cases hp⟩
 have e1:aZ (mK N l) N ([],0,[])=some (s.1,bX s.2):=e1
 have z:((bif (allFit (aj.fits pX) ([]:List AV)&&(allFit (aj.fits dK) (ah ([]:List (AV × AV)))&&true)) then some ((List.map d29 ([]:List AV)),0,(List.map eK (ah ([]:List (AV × AV))))) else none:Option (yY × Int × List (aV × Bool))).bind fun w53=>bif bo ([]:List (AV × AV))&&(decide (0=(List.map n29 w53.1).length)&&true) then some w53 else none)=some ([],0,[]):=rfl
 rw [Th]
 simp only [z,Option.bind_some,e1,kJ,kK,cond_true]
 have:=e2.1
 rw [List.take_length] at this
 rw [this]
 rfl
end
end Go.Proofs.YtophnjjjmikmeaaGreat
