/- Plain laws: the rows of a net as the program finds them. -/
import Derived.Test.YtldcljfjjoidhaaGreatDoorSeamKD
set_option linter.all false
namespace Go.Proofs.YtldcljfjjoidhaaGreatDoor
open Go Go.Am Go.Sort
open List (map)
open Int (toNat)
open Go.IntKind (wrap)
open Go.Am.aO (fits)
set_option maxRecDepth 100000
theorem U7 (l:List Int) (x:Int):map dY l++[AV.int .i64 x]=map dY (l++[x]):=by rw [List.map_append]; rfl
theorem U8 (l:List Int) {k:Nat} (hk:k < l.length):gb (aj (map dY l) k)=l[k]∧fits p3 (aj (map dY l) k)=true:=by
 rw [gM dY l k hk]; exact ⟨rfl,rfl⟩
theorem Ag (c:List Int):qa (map dY c)=map dY (eL c):=by
 unfold qa eL
 have e:(map dY c).map xZ=c:=by
  rw [List.map_map]
  conv=>rhs; rw [← List.map_id c]
  exact List.map_congr_left fun _ _=>rfl
 rw [e]
 rfl
theorem Ah (c:List Int):tw (map dY c)=true:=by
 induction c with
 | nil=>rfl
 | cons x c ih=>exact ih
theorem za (p:aQ→Bool) (l:List aQ):(∀ k (hk:k < (l.takeWhile p).length) (h2:k < l.length),p l[k]=true)∧∀ h:(l.takeWhile p).length < l.length,p l[(l.takeWhile p).length]=false:=by
 obtain ⟨h1,h2⟩:=fu p l
 refine ⟨fun k hk h3=>h1 _ ?_,h2⟩
 have hle:(l.takeWhile p).length≤l.length:=(List.takeWhile_sublist p).length_le
 have:k < (l.take (l.takeWhile p).length).length:=by rw [List.length_take]; omega
 have e:(l.take (l.takeWhile p).length)[k]=l[k]:=List.getElem_take
 rw [← e]
 exact List.getElem_mem this
def U9 (l:List aQ) (rows:List eQ) (i:Nat):Prop:=
 i≤l.length∧rows=(List.range rows.length).map (pI l)∧(∀ j,j < rows.length→Qw (bK l (cJ l+j)))∧∀ j (hj:j < l.length),j < i↔l[j].2.1 < cJ l+rows.length
def tD (l:List aQ) (i:Nat) (y:Int):Nat:=i+((l.drop i).takeWhile fun b=>b.2.1 == y).length
theorem tE {l:List aQ} (h:dH l=0) {i:Nat} (hi:i < l.length) (hb:∀ j (hj:j < l.length),j < i→l[j].2.1 < l[i].2.1) :
  i < tD l i l[i].2.1∧tD l i l[i].2.1≤l.length∧(∀ j (hj:j < l.length),i≤j→j < tD l i l[i].2.1→l[j].2.1=l[i].2.1)∧(∀ j (hj:j < l.length),tD l i l[i].2.1≤j→l[i].2.1 < l[j].2.1):=by
 obtain ⟨h1,h2,h3⟩:=cX h
 have hlen:(l.drop i).length=l.length - i:=List.length_drop
 have hle:((l.drop i).takeWhile fun b=>b.2.1 == l[i].2.1).length≤(l.drop i).length:=(List.takeWhile_sublist _).length_le
 obtain ⟨t1,t2⟩:=za (fun b=>b.2.1 == l[i].2.1) (l.drop i)
 have mR:0 < ((l.drop i).takeWhile fun b=>b.2.1 == l[i].2.1).length:=by
  rw [List.drop_eq_getElem_cons hi,List.takeWhile_cons]
  simp
 unfold tD
 generalize ((l.drop i).takeWhile fun b=>b.2.1 == l[i].2.1).length=t at *
 refine ⟨by omega,by omega,fun j hj Iy hjt=>?_,fun j hj hjt=>?_⟩
 ·have:=t1 (j - i) (by omega) (by omega)
  rw [List.getElem_drop] at this
  have e:i+(j - i)=j:=by omega
  simp only [e] at this
  simpa using this
 ·have ht:t < (l.drop i).length:=by omega
  have:=t2 ht
  rw [List.getElem_drop] at this
  have a1:=Dl h3 (i:=i) (j:=i+t) hi (by omega) (by omega)
  have a2:=Dl h3 (i:=i+t) (j:=j) (by omega) hj hjt
  have cm:l[i+t].2.1≠l[i].2.1:=by simpa using this
  omega
theorem Ai {l:List aQ} (h:dH l=0) {i:Nat} (hi:i < l.length) (hb:∀ j (hj:j < l.length),j < i→l[j].2.1 < l[i].2.1) :
  bK l l[i].2.1=((l.drop i).take (tD l i l[i].2.1 - i)).map iw:=by
 obtain ⟨e1,e2,e3,e4⟩:=tE h hi hb
 unfold bK
 congr 1
 generalize tD l i l[i].2.1=e at *
 have zt:l=l.take i++((l.drop i).take (e - i)++l.drop e):=by
  have:l.drop e=(l.drop i).drop (e - i):=by rw [List.drop_drop]; congr 1; omega
  rw [this,List.take_append_drop,List.take_append_drop]
 generalize l[i].2.1=y at *
 have f1:(l.take i).filter (fun b=>b.2.1 == y)=[]:=by
  rw [List.filter_eq_nil_iff]
  intro b iS
  obtain ⟨j,hj,rfl⟩:=List.getElem_of_mem iS
  rw [List.length_take] at hj
  rw [List.getElem_take]
  have:=hb j (by omega) (by omega)
  simp
  omega
 have f2:((l.drop i).take (e - i)).filter (fun b=>b.2.1 == y)=(l.drop i).take (e - i):=by
  rw [List.filter_eq_self]
  intro b iS
  obtain ⟨j,hj,rfl⟩:=List.getElem_of_mem iS
  rw [List.length_take,List.length_drop] at hj
  rw [List.getElem_take,List.getElem_drop]
  have:=e3 (i+j) (by omega) (by omega) (by omega)
  simpa using this
 have f3:(l.drop e).filter (fun b=>b.2.1 == y)=[]:=by
  rw [List.filter_eq_nil_iff]
  intro b iS
  obtain ⟨j,hj,rfl⟩:=List.getElem_of_mem iS
  rw [List.length_drop] at hj
  rw [List.getElem_drop]
  have:=e4 (e+j) (by omega) (by omega)
  simp
  omega
 conv=>lhs; rw [zt]
 rw [List.filter_append,List.filter_append,f1,f2,f3,List.append_nil,List.nil_append]
theorem Dx {l:List aQ} (h:dH l=0) {y:Int} (hc:bK l y≠[]):∃ j,∃ hj:j < l.length,l[j].2.1=y:=by
 obtain ⟨x,hx⟩:=List.exists_mem_of_ne_nil _ hc
 obtain ⟨b,hb,-⟩:=List.mem_map.1 hx
 obtain ⟨hb,hy⟩:=List.mem_filter.1 hb
 obtain ⟨j,hj,rfl⟩:=List.getElem_of_mem hb
 exact ⟨j,hj,by simpa using hy⟩
section
variable {N:Nat} (hN:e7 N)
include hN
theorem Ms (l:List aQ) (h:dH l=0) (rows:List eQ) (e:Int) {i:Nat} (hi:i < l.length) (hb:∀ j (hj:j < l.length),j < i→l[j].2.1 < l[i].2.1) :
  aN (kT N l (rows,e,(i:Int))) N (rows,(i:Int),(),[])=some (rows,(tD l i l[i].2.1:Int),(),bK l l[i].2.1):=by
 obtain ⟨h1,h2,h3⟩:=cX h
 obtain ⟨e1,e2,e3,e4⟩:=tE h hi hb
 rw [Ai h hi hb]
 obtain ⟨a1,a2⟩:=eF l hi
 generalize hE:tD l i l[i].2.1=E at *
 have key:=fa (rd:=kT N l (rows,e,(i:Int))) (E - i) (fun k=>(rows,((i+k:Nat):Int),(),((l.drop i).take k).map iw)) (rows,(E:Int),(),((l.drop i).take (E - i)).map iw) (fun k hk=>by
  have BM:i+k < l.length:=by omega
  obtain ⟨b1,b2⟩:=eF l BM
  have hy:=e3 (i+k) BM (by omega) (by omega)
  have hyb:(l[i+k].2.1 == l[i].2.1)=true:=by rw [hy]; exact beq_self_eq_true _
  have q:X9 N (l[i+k].1,l[i+k].2.1,l[i+k].2.2)=some (iw l[i+k]):=Qu N (h2 _ (List.getElem_mem BM))
  have hs:(((l.drop i).take k).map iw).length=k:=by rw [List.length_map,List.length_take,List.length_drop]; omega
  have es:((l.drop i).take (k+1)).map iw=((l.drop i).take k).map iw++[iw l[i+k]]:=by
   rw [List.take_add_one,List.getElem?_eq_getElem (by rw [List.length_drop]; omega),List.map_append,List.getElem_drop]
   rfl
  have MC:decide ((k+1) * 8≤140737488355328)=true:=decide_eq_true (by omega)
  have ew:wrap .i64 (((i+k:Nat):Int)+1)=((i+(k+1):Nat):Int):=by rw [ki (by omega)]; omega
  rw [es]
  generalize ((l.drop i).take k).map iw=c at *
  have sn:=U7 c (iw l[i+k])
  simp only [kT,List.length_map,aX BM,ay BM,ay hi,Int.toNat_natCast,a1,a2,b1,b2,Bool.and_self,Bool.and_true,cond_true,hyb,jw,jx,Rp,Rq,Nat.beq_refl,decide_true,Option.bind_some,q,hs,MC,sn,List.length_append,List.length_singleton,ew]) (by
  have hs:(((l.drop i).take (E - i)).map iw).length=E - i:=by rw [List.length_map,List.length_take,List.length_drop]; omega
  have hc:((bif decide (((i+(E - i):Nat):Int) < (l.length:Int)) then bif (decide ((0:Int)≤((i+(E - i):Nat):Int)∧((i+(E - i):Nat):Int) < (l.length:Int))&&fits au (aj (map ae l) (i+(E - i)))) then some (rows,(ak (aj (map ae l) (i+(E - i)))).2.1 == l[i].2.1,((l.drop i).take (E - i)).map iw) else none else some (rows,false,((l.drop i).take (E - i)).map iw)):Option (List eQ × Bool × List Int))=some (rows,false,((l.drop i).take (E - i)).map iw):=by
   have eE:i+(E - i)=E:=by omega
   rw [eE]
   by_cases hl:E < l.length
   ·obtain ⟨b1,b2⟩:=eF l hl
    have hy:=e4 E hl (Nat.le_refl _)
    have hyb:(l[E].2.1 == l[i].2.1)=false:=beq_false_of_ne (by omega)
    rw [aX hl,ay hl,b1,b2,hyb]
    rfl
   ·rw [decide_eq_false (by omega)]
    rfl
  have eE:((i+(E - i):Nat):Int)=(E:Int):=by omega
  generalize ((l.drop i).take (E - i)).map iw=c at *
  simp only [kT,List.length_map,ay hi,Int.toNat_natCast,a1,a2,Bool.and_self,Bool.and_true,cond_true,jw,jx,Rp,Rq,Nat.beq_refl,decide_true,Option.bind_some] at hc ⊢
  rw [hc]
  simp only [Option.bind_some,cond_false,jw,jx,Rp,Rq,Nat.beq_refl,decide_true,Bool.and_self,cond_true,eE]) N 0 (Nat.zero_le _) (by unfold e7 at hN; omega)
 simpa using key
theorem QH (o:List eQ × Int × Unit × List Int) (rows:List eQ) (b:Int) (s:List Int) (hs:s.length≤4096) (ho:o.2.2.2.length=s.length) (h0:0 < s.length) (zr:∀ x∈s,-100001≤x∧x≤100000) :
  aN (fY N o) N (rows,b,0,s)=some (if ∀ k (hk:k < s.length),s[k]=s[0]+k then .inr (rows,b,s) else .inl (rows,17,s)):=by
 obtain ⟨a1,a2⟩:=U8 s h0
 have VN:gb (aj (map dY s) (toNat 0))=s[0]:=a1
 have VO:fits p3 (aj (map dY s) (toNat 0))=true:=a2
 have i0:decide ((0:Int)≤0∧0 < (s.length:Int))=true:=ay h0
 have h0':decide (toNat 0 < s.length)=true:=decide_eq_true h0
 have key:=oM (rd:=fY N o) s.length (fun k=>(rows,b,(k:Int),s)) (fun k=>!decide (s.getD k 0=s.getD 0 0+k)) (fun _=>Sum.inl (rows,17,s)) (Sum.inr (rows,b,s)) (fun k hk=>by
  obtain ⟨b1,b2⟩:=U8 s hk
  have g0:s.getD 0 0=s[0]:=by simp [h0]
  have g1:s.getD k 0=s[k]:=by simp [hk]
  have bd:=zr _ (List.getElem_mem h0)
  have w1:wrap .i64 (s[0]+(k:Int))=s[0]+k:=ki (by omega)
  have iK:decide (k < s.length)=true:=decide_eq_true hk
  rw [g0,g1]
  by_cases hq:s[k]=s[0]+k
  ·have cm:(s[k] != s[0]+(k:Int))=false:=by rw [hq]; exact bne_self_eq_false _
   simp only [fY,List.length_map,ho,aX hk,ay hk,Int.toNat_natCast,Nat.zero_add,b1,b2,iK,h0',i0,VN,VO,decide_true,Bool.and_self,Bool.and_true,cond_true,cond_false,w1,cm,jw,jx,Rp,Rq,Option.bind_some,bN (show k < 9223372036854775807 by omega)]
   simp only [hq,decide_true,Bool.not_true,Bool.false_eq_true,if_false]
  ·have cm:(s[k] != s[0]+(k:Int))=true:=bne_iff_ne.2 hq
   simp only [fY,List.length_map,ho,aX hk,ay hk,Int.toNat_natCast,Nat.zero_add,b1,b2,iK,h0',i0,VN,VO,decide_true,Bool.and_self,Bool.and_true,cond_true,w1,cm,jw,jx,Rp,Rq,Option.bind_some]
   simp only [hq,decide_false,Bool.not_false,if_true]) (by
  simp only [fY,List.length_map,ho,bJ,cond_false,jw,jx,Rp,Rq,Bool.and_self,Bool.and_true,decide_true,cond_true,Option.bind_some]) N (by unfold e7 at hN; omega)
 have qH:aN (fY N o) N (rows,b,0,s)=_:=key
 rw [qH]
 by_cases hq:∀ k (hk:k < s.length),s[k]=s[0]+k
 ·rw [if_pos hq]
  have hf:(List.range s.length).find? (fun k:Nat=>!decide (s.getD k 0=s.getD 0 0+k))=none:=by
   rw [List.find?_eq_none]
   intro k hk
   have hk:=List.mem_range.1 hk
   have:=hq k hk
   have g0:s.getD 0 0=s[0]:=by simp [h0]
   have g1:s.getD k 0=s[k]:=by simp [hk]
   rw [g0,g1,this]
   simp
  rw [hf]
 ·rw [if_neg hq]
  cases hf:(List.range s.length).find? (fun k:Nat=>!decide (s.getD k 0=s.getD 0 0+k)) with
  | some j=>rfl
  | none=>
   refine absurd (fun k hk=>?_) hq
   have:=List.find?_eq_none.1 hf k (List.mem_range.2 hk)
   have g0:s.getD 0 0=s[0]:=by simp [h0]
   have g1:s.getD k 0=s[k]:=by simp [hk]
   rw [g0,g1] at this
   simpa using this
end
end Go.Proofs.YtldcljfjjoidhaaGreatDoor
namespace Go.Proofs.YtldcljfjjoidhaaGreatDoor
open Go Go.Am Go.Sort
open List (map)
open Int (toNat)
open Go.IntKind (wrap)
open Go.Am.aO (fits)
set_option maxRecDepth 100000
def Io (l:List aQ) (x:List eQ × Int):Prop:=if RT l then x=(sw l,0) else x.2=17
section
variable {N:Nat} (hN:e7 N)
include hN
theorem Mt (l:List aQ) (h:dH l=0) (h0:0 < l.length) (rows:List eQ) (i:Nat) (hI:U9 l rows i) :
  (∃ v',j9 N l (rows,0,(i:Int))=some (.inl v')∧(∃ RU i',v'=(RU,0,((i':Nat):Int))∧U9 l RU i')∧l.length - v'.2.2.toNat < l.length - i)∨∃ x,j9 N l (rows,0,(i:Int))=some (.inr x)∧Io l x:=by
 obtain ⟨h1,h2,h3⟩:=cX h
 obtain ⟨g1,g2,g3,g4⟩:=hI
 have bd:=Mb h h0
 have rl:∀ j,j < rows.length→∃ k,∃ hk:k < l.length,l[k].2.1=cJ l+j:=fun j hj=>Dx h (g3 j hj).1
 have rM:rows.length≤jO l:=by
  rcases Nat.eq_zero_or_pos rows.length with hz | hz
  ·omega
  ·obtain ⟨k,hk,e⟩:=rl (rows.length - 1) (by omega)
   have:=(Dp h hk).2
   unfold jO
   omega
 have rM2:jO l≤200001:=by unfold jO; omega
 by_cases hi:i < l.length
 ·obtain ⟨a1,a2⟩:=eF l hi
  have hb:∀ j (hj:j < l.length),j < i→l[j].2.1 < l[i].2.1:=fun j hj Ym=>by
   have e1:=(g4 j hj).1 Ym
   have e2:¬ l[i].2.1 < cJ l+rows.length:=fun hc=>by have:=(g4 i hi).2 hc; omega
   omega
  have hy0:cJ l+rows.length≤l[i].2.1:=by
   have e2:¬ l[i].2.1 < cJ l+rows.length:=fun hc=>by have:=(g4 i hi).2 hc; omega
   omega
  have hiy:=Dp h hi
  -- the row before
  have Va:((bif (decide ((rows.length:Int) > 0)) then bif (decide ((0:Int)≤(wrap .i64 ((rows.length:Int) - 1))∧(wrap .i64 ((rows.length:Int) - 1)) < (rows.length:Int))&&fits fx (aj (map aB rows) (toNat (wrap .i64 ((rows.length:Int) - 1))))) then some (rows,(l[i].2.1 != (wrap .i64 ((cW (aj (map aB rows) (toNat (wrap .i64 ((rows.length:Int) - 1))))).1+1)))) else none else some (rows,false)):Option (List eQ × Bool))=some (rows,!decide (l[i].2.1=cJ l+rows.length)):=by
   by_cases hr:rows.length=0
   ·have ez:i=0:=by
     rcases Nat.eq_zero_or_pos i with hz | hz
     ·exact hz
     ·have e1:=(g4 0 h0).1 hz
      have e2:=(Dp h h0).1
      rw [hr] at e1
      omega
    have ey:l[i].2.1=cJ l:=by
     subst ez
     unfold cJ
     simp [h0]
    rw [decide_eq_false (by omega),hr]
    simp [ey]
   ·have hk:rows.length - 1 < rows.length:=by omega
    obtain ⟨c1,c2⟩:=GD rows hk
    have wl:wrap .i64 ((rows.length:Int) - 1)=((rows.length - 1:Nat):Int):=by rw [ki (by omega)]; omega
    have er:rows[rows.length - 1].1=cJ l+((rows.length - 1:Nat):Int):=by
     have:rows[rows.length - 1]=pI l (rows.length - 1):=by
      have:=List.getElem_of_eq g2 hk
      rw [this,List.getElem_map,List.getElem_range]
     rw [this]
     rfl
    have w2:wrap .i64 (cJ l+((rows.length - 1:Nat):Int)+1)=cJ l+rows.length:=by rw [ki (by omega)]; omega
    rw [decide_eq_true (by omega),wl,ay hk,Int.toNat_natCast,c1,c2,er,w2]
    by_cases hq:l[i].2.1=cJ l+rows.length
    ·rw [hq]; simp
    ·have cm:(l[i].2.1 != cJ l+(rows.length:Int))=true:=bne_iff_ne.2 hq
     simp [hq,cm]
  by_cases hq:l[i].2.1=cJ l+rows.length
  ·-- the next row
   have Zu:(!decide (l[i].2.1=cJ l+rows.length))=false:=by rw [decide_eq_true hq]; rfl
   have Yq:=Ms hN l h rows 0 hi hb
   obtain ⟨e1,e2,e3,e4⟩:=tE h hi hb
   have YW:=Dm h l[i].2.1
   have hlen:0 < (eL (bK l l[i].2.1)).length:=by
    rw [su,Ai h hi hb,List.length_map,List.length_take,List.length_drop]
    omega
   have hle:(eL (bK l l[i].2.1)).length≤4096:=by
    rw [su]
    unfold bK
    rw [List.length_map]
    have:=List.length_filter_le (fun b:aQ=>b.2.1 == l[i].2.1) l
    omega
   have zr:∀ x∈eL (bK l l[i].2.1),-100001≤x∧x≤100000:=fun x hx=>Dn h ((oP _ _).1 hx)
   have hsl:=su (bK l l[i].2.1)
   have QI:=QH hN (rows,(tD l i l[i].2.1:Int),(),bK l l[i].2.1) rows 0 (eL (bK l l[i].2.1)) hle hsl.symm hlen zr
   have Yr:=Qy YW hlen
   obtain ⟨s1,s2⟩:=Ae YW hlen
   obtain ⟨fl1,fl2⟩:=ss (bK l l[i].2.1)
   have z1:decide ((bK l l[i].2.1).length≤140737488355328)=true:=decide_eq_true (by omega)
   obtain ⟨t1,t2⟩:=U8 _ hlen
   have t1':gb (aj (map dY (eL (bK l l[i].2.1))) (toNat 0))=(eL (bK l l[i].2.1))[0]:=t1
   have t2':fits p3 (aj (map dY (eL (bK l l[i].2.1))) (toNat 0))=true:=t2
   have iz:0 < (bK l l[i].2.1).length:=by omega
   have i0:decide ((0:Int)≤0∧0 < ((bK l l[i].2.1).length:Int))=true:=ay iz
   have i0':decide (toNat 0 < (bK l l[i].2.1).length)=true:=decide_eq_true (by show 0 < _; omega)
   have hrb:decide ((rows.length+1) * 24≤140737488355328)=true:=decide_eq_true (by omega)
   by_cases dE:Qw (bK l l[i].2.1)
   ·refine .inl ⟨(rows++[pI l rows.length],0,(tD l i l[i].2.1:Int)),?_,⟨_,_,rfl,?_⟩,?_⟩
    ·rw [if_pos (Yr.1 dE)] at QI
     have bs:=zr _ (List.getElem_mem hlen)
     have wn:wrap .i64 ((eL (bK l l[i].2.1))[0]+((bK l l[i].2.1).length:Int))=(kq (bK l l[i].2.1)).2.2:=by
      have:=dE.2
      rw [ki (by omega)]
      omega
     have er:pI l rows.length=(l[i].2.1,(eL (bK l l[i].2.1))[0],(kq (bK l l[i].2.1)).2.2):=by
      unfold pI
      rw [← hq,s1]
     have sn:=Qz rows l[i].2.1 (eL (bK l l[i].2.1))[0] (kq (bK l l[i].2.1)).2.2
     rw [er]
     simp only [j9,List.length_map,aX hi,ay hi,Int.toNat_natCast,a1,a2,Bool.and_self,Bool.and_true,cond_true,jw,jx,Option.bind_some,decide_true]
     rw [Va]
     simp only [Option.bind_some,Zu,cond_false]
     have z5:((bif (Nat.beq 0 (([]:List AV)).length&&allFit (fits p3) ([]:List AV)) then some (rows,(i:Int),(),(map gb ([]:List AV))) else none:Option (List eQ × Int × Unit × List Int)).bind fun Gv=>bif decide (rows.length=Gv.1.length) then some Gv else none)=some (rows,(i:Int),(),[]):=by
      show (bif decide (rows.length=rows.length) then some (rows,(i:Int),(),([]:List Int)) else none)=_
      rw [decide_eq_true rfl]
      rfl
     simp only [Bool.true_and]
     rw [z5,Option.bind_some,Yq,Option.bind_some]
     simp only [Option.bind_some, List.length_map,decide_true,z1,Ah,Bool.and_self,cond_true,Ag,Rp,Rq,QI,Sum.elim_inr,i0,i0',hsl,Nat.zero_add,t1',t2',hrb,wn,sn,jw,jx,List.length_append,List.length_singleton]
    ·refine ⟨e2,?_,?_,?_⟩
     ·rw [List.length_append,List.length_singleton,List.range_succ,List.map_append]
      conv=>lhs; rw [g2]
      simp
     ·intro j hj
      rw [List.length_append,List.length_singleton] at hj
      by_cases VJ:j < rows.length
      ·exact g3 j VJ
      ·obtain rfl:j=rows.length:=by omega
       rw [← hq]; exact dE
     ·intro j hj
      rw [List.length_append,List.length_singleton]
      constructor
      ·intro hje
       by_cases Ym:j < i
       ·have:=(g4 j hj).1 Ym; omega
       ·have:=e3 j hj (by omega) hje; omega
      ·intro cg
       rcases Nat.lt_or_ge j (tD l i l[i].2.1) with hh | hh
       ·exact hh
       ·have:=e4 j hj hh; omega
    ·show l.length - toNat (tD l i l[i].2.1:Int) < _
     rw [Int.toNat_natCast]
     omega
   ·refine .inr ⟨(rows,17),?_,?_⟩
    ·rw [if_neg (fun hh=>dE (Yr.2 hh))] at QI
     simp only [j9,List.length_map,aX hi,ay hi,Int.toNat_natCast,a1,a2,Bool.and_self,Bool.and_true,cond_true,jw,jx,Option.bind_some,decide_true]
     rw [Va]
     simp only [Option.bind_some,Zu,cond_false]
     have z5:((bif (Nat.beq 0 (([]:List AV)).length&&allFit (fits p3) ([]:List AV)) then some (rows,(i:Int),(),(map gb ([]:List AV))) else none:Option (List eQ × Int × Unit × List Int)).bind fun Gv=>bif decide (rows.length=Gv.1.length) then some Gv else none)=some (rows,(i:Int),(),[]):=by
      show (bif decide (rows.length=rows.length) then some (rows,(i:Int),(),([]:List Int)) else none)=_
      rw [decide_eq_true rfl]
      rfl
     simp only [Bool.true_and]
     rw [z5,Option.bind_some,Yq,Option.bind_some]
     simp only [Option.bind_some, List.length_map,decide_true,z1,Ah,Bool.and_self,cond_true,Ag,Rp,Rq,QI,Sum.elim_inl,jw,jx]
    ·unfold Io
     rw [if_neg]
     intro hh
     refine dE ?_
     have:rows.length < jO l:=by unfold jO; omega
     rw [hq]
     exact hh _ this
  ·have Zu:(!decide (l[i].2.1=cJ l+rows.length))=true:=by rw [decide_eq_false hq]; rfl
   refine .inr ⟨(rows,17),?_,?_⟩
   ·simp only [j9,List.length_map,aX hi,ay hi,Int.toNat_natCast,a1,a2,Bool.and_self,Bool.and_true,cond_true,jw,jx,Option.bind_some,decide_true]
    rw [Va]
    simp only [Option.bind_some,Zu,cond_true,jw,jx,decide_true]
   ·unfold Io
    rw [if_neg]
    intro hh
    have cg:rows.length < jO l:=by unfold jO; omega
    obtain ⟨k,hk,e⟩:=Dx h (hh _ cg).1
    rcases Nat.lt_or_ge k i with hki | hki
    ·have:=(g4 k hk).1 hki; omega
    ·have:=Dl h3 hi hk hki; omega
 ·refine .inr ⟨(rows,0),?_,?_⟩
  ·have sA:decide ((i:Int) < (l.length:Int))=false:=decide_eq_false (by omega)
   simp only [j9,List.length_map,sA,cond_false,jw,jx,Bool.and_self,Bool.and_true,decide_true,cond_true,Option.bind_some]
  ·have sx:l.length - 1 < l.length:=by omega
   have e1:=(g4 _ sx).1 (by omega)
   have el:tA l=l[l.length - 1].2.1:=by unfold tA; simp [sx]
   have eM:rows.length=jO l:=by
    have:jO l≤rows.length:=by unfold jO; omega
    omega
   unfold Io
   have dE:RT l:=fun j hj=>g3 j (by omega)
   rw [if_pos dE,g2,eM]
   rfl
theorem Mu (l:List aQ):VK N l=some (if dH l=0 then yl l else ([],dH l)):=by
 have z2:∀ x y:Int,((bif (allFit (fits BI) [(AV.int .i64 x),(AV.int .i64 y)]&&true) then some (map nJ [(AV.int .i64 x),(AV.int .i64 y)]) else none:Option (qP)))=some [x,y]:=fun _ _=>rfl
 rw [UD]
 simp only [cn,cj,Bool.and_true,cond_true,Option.bind_some,List.length_map,Bo hN,Lr]
 simp only [Bool.and_true] at z2
 rw [z2,Option.bind_some,HR hN _ (by simp),Option.bind_some,H0]
 unfold yl
 by_cases h:dH l=0
 ·rw [if_pos h]
  by_cases h0:l=[]
  ·subst h0
   rw [if_pos rfl,h]
   rfl
  ·have hl:0 < l.length:=List.length_pos_iff.2 h0
   have hb:((l.length:Int) == 0)=false:=beq_false_of_ne (by omega)
   rw [if_neg h0,h,hb]
   have ef:bT [0,if false=true then 12 else 0]=0:=rfl
   rw [if_pos ef]
   obtain ⟨x,e,hx⟩:=px (rd:=j9 N l) (fun v=>∃ rows i,v=(rows,0,((i:Nat):Int))∧U9 l rows i) (fun v=>l.length - v.2.2.toNat) (Io l) (fun v hv=>by
    obtain ⟨rows,i,rfl,hI⟩:=hv
    rcases Mt hN l h hl rows i hI with ⟨v',e1,e2,e3⟩ | ⟨x,e1,e2⟩
    ·exact .inl ⟨v',e1,e2,by simpa using e3⟩
    ·exact .inr ⟨x,e1,e2⟩) N ([],0,((0:Nat):Int)) ⟨[],0,rfl,by omega,rfl,fun j hj=>absurd hj (Nat.not_lt_zero _),fun j hj=>⟨fun hh=>absurd hh (Nat.not_lt_zero _),fun hh=>by
     have:=(Dp h hj).1
     simp at hh
     omega⟩⟩ (by have:=(cX h).1; unfold e7 at hN; show l.length - 0 < N; omega)
   have z:((bif allFit (fits fx) ([]:List AV) then some ((map cW ([]:List AV)),(0:Int),(0:Int)) else none:Option (List eQ × Int × Int)).bind fun MR=>bif decide (0=MR.1.length) then some MR else none)=some ([],0,0):=rfl
   have e':aN (j9 N l) N ([],0,0)=some x:=e
   rw [z,Option.bind_some,e',Option.bind_some]
   unfold Io at hx
   by_cases dE:RT l
   ·rw [if_pos dE] at hx ⊢
    subst hx
    simp only [bne_self_eq_false,cond_false,jw,jx,cond_true]
   ·rw [if_neg dE] at hx ⊢
    rw [hx]
    rfl
 ·rw [if_neg h]
  have ef:bT [dH l,if ((l.length:Int) == 0)=true then 12 else 0]=dH l:=by unfold bT; rw [if_neg h]
  rw [ef,if_neg h]
  rfl
end
end Go.Proofs.YtldcljfjjoidhaaGreatDoor
namespace Go.Proofs.YtldcljfjjoidhaaGreatDoor
open Go Go.Am Go.Sort
open List (map)
open Int (toNat)
open Go.IntKind (wrap)
open Go.Am.aO (fits)
set_option maxRecDepth 100000
theorem QJ {l:List aQ} (hl:l.length≤4096) (hv:∀ b∈l,gz b=0) (n1:vq (ltOf fL) l):dH l=0:=by
 unfold dH
 rw [if_neg (by omega)]
 refine nt.2 fun x hx=>?_
 obtain ⟨k,hk,rfl⟩:=List.mem_map.1 hx
 have hk:k < l.length:=List.mem_range.1 hk
 have e1:l.getD k (0,0,0)=l[k]:=by simp [hk]
 have c1:gz l[k]=0:=hv _ (List.getElem_mem hk)
 unfold Bn
 rw [e1,if_neg (by simp [c1])]
 refine if_neg ?_
 rintro ⟨h0,hl⟩
 have yY:k - 1 < l.length:=by omega
 have e2:l.getD (k - 1) (0,0,0)=l[k - 1]:=by simp [yY]
 rw [e2,← si] at hl
 have:=List.pairwise_iff_getElem.1 n1 (k - 1) k yY hk (by omega)
 rw [hl] at this
 cases this
theorem yq {l:List aQ} (h:dH l=0) {c:aQ} (hc:c∈l):dH (gN l c)=0∧(gN l c).length≤4096:=by
 obtain ⟨g1,g2,g3⟩:=cX h
 have n1:vq (ltOf fL) (gN l c):=(mw tq HZ (0,0,0) (vx l l.length [c] 0)).1
 have sub:∀ x∈gN l c,x∈l:=fun x hx=>((ko l c hc x).1 hx).Yn hc
 have:=e9 _ l (pu tq n1) sub
 exact ⟨QJ (by omega) (fun b hb=>g2 b (sub b hb)) n1,by omega⟩
theorem yt {l:List aQ}:(dJ l).length≤l.length∧∀ p∈dJ l,∃ c∈l,p=gN l c:=by
 have gen:∀ (m:List aQ) (P:yA),(∀ x∈m,x∈l)→(∀ p∈P,∃ c∈l,p=gN l c)→(m.foldl (qK l) P).length≤P.length+m.length∧∀ p∈m.foldl (qK l) P,∃ c∈l,p=gN l c:=by
  intro m
  induction m with
  | nil=>intro P _ h; exact ⟨Nat.le_refl _,h⟩
  | cons b m ih=>
   intro P hm h
   rw [List.foldl_cons,List.length_cons]
   have q:=ih (qK l P b) (fun x hx=>hm x (List.mem_cons_of_mem _ hx)) (by
    unfold qK
    split
    ·exact h
    ·intro p hp
     rcases List.mem_append.1 hp with hp | hp
     ·exact h p hp
     ·rw [List.mem_singleton] at hp
      exact ⟨b,hm b (by simp),hp⟩)
   refine ⟨?_,q.2⟩
   have:(qK l P b).length≤P.length+1:=by
    unfold qK
    split
    ·omega
    ·rw [List.length_append]; exact Nat.le_refl _
   omega
 have:=gen l [] (fun x hx=>hx) (fun p hp=>by cases hp)
 simpa [dJ] using this
theorem Mw {l:List aQ}:(li l).length≤2 * l.length:=by
 obtain ⟨k1,k2⟩:=tC l [] (by simp)
 have h1:=e9 _ (cU l) k1 fun k hk=>by
  rw [xY]
  simpa using (k2 k).1 hk
 have h2:=qI l
 rw [List.length_map] at h1
 unfold li
 omega
def kX (p:List aQ):Nat:=(cU p).countP fun k=>decide (jN p k % 2=1)
theorem Bu (p:List aQ):kX p≤2 * p.length:=by
 have h1:=List.countP_le_length (p:=fun k=>decide (jN p k % 2=1)) (l:=cU p)
 have h2:=qI p
 unfold kX
 omega
def uS (p:List aQ):Int:=if Int.tdiv (kX p) 2 > 1 then Int.tdiv (kX p) 2 else 1
theorem GH {p:List aQ} (h:p.length≤4096):1≤uS p∧uS p≤10000:=by
 have:=Bu p
 have e:Int.tdiv (kX p) 2=((kX p / 2:Nat):Int):=rfl
 unfold uS
 rw [e]
 split <;> omega
def Aj (l:List aQ):Int:=(dJ l).foldl (fun s p=>s+uS p) 0
section
variable {N:Nat} (hN:e7 N)
include hN
theorem Mx {p:List aQ} (h:dH p=0) (hl:p.length≤4096):Xk N p=some (zX p,0):=by
 refine Gl hN p _ ?_
 unfold Gk
 have h4:=(Dw h).2
 have dl:=@Mw p
 have e1:Nat.ble p.length 10000=true:=Nat.ble_eq_true_of_le (by omega)
 have e2:Nat.ble (li p).length 100000=true:=Nat.ble_eq_true_of_le (by omega)
 have e3:((li p).all fun x=>decide (0≤x.2)&&decide (x.2≤4))=true:=by
  rw [List.all_eq_true]
  intro x hx
  have:=h4 x hx
  simp [this.1,this.2]
 rw [Bo hN,Option.bind_some,h,e1,e2,e3]
 rfl
theorem QK (l:List aQ) (h:dH l=0) (e:Int):aN (so N (dJ l,e)) N (0,0)=some (Aj l):=by
 obtain ⟨g1,-,-⟩:=cX h
 obtain ⟨p1,p2⟩:=@yt l
 have key:=dh (rd:=so N (dJ l,e)) (dJ l) (fun (s:Int) k=>(s,(k:Int))) (fun s p=>s+uS p) (fun s=>s) (fun s k=>0≤s∧s≤(k:Int) * 10000∧k≤(dJ l).length)
  (fun s k hk hP=>by
   obtain ⟨s1,s2,s3⟩:=hP
   obtain ⟨c,hc,ec⟩:=p2 _ (List.getElem_mem hk)
   obtain ⟨c1,c2⟩:=yq h hc
   rw [← ec] at c1 c2
   obtain ⟨a1,a2⟩:=Qs (dJ l) hk
   have q:=Mx hN c1 c2
   have ei:=GH c2
   have lo:=(Dw c1).1
   have ol:=Bu (dJ l)[k]
   have lo':(zX (dJ l)[k]).2.1+(zX (dJ l)[k]).2.2.2.1=(kX (dJ l)[k]:Int):=lo
   have et:Int.tdiv (kX (dJ l)[k]) 2=((kX (dJ l)[k] / 2:Nat):Int):=rfl
   constructor
   ·have w1:wrap .i64 ((kX (dJ l)[k]:Nat):Int)=(kX (dJ l)[k]:Int):=ki (by omega)
    have w2:wrap .i64 (Int.tdiv (kX (dJ l)[k]) 2)=Int.tdiv (kX (dJ l)[k]) 2:=by rw [et]; exact ki (by omega)
    have w3:wrap .i64 (s+uS (dJ l)[k])=s+uS (dJ l)[k]:=ki (by omega)
    simp only [so,List.length_map,aX hk,ay hk,Int.toNat_natCast,a1,a2,Bool.and_self,Bool.and_true,cond_true,cn,cj,Option.bind_some,q,lo',w1,w2,bN (show k < 9223372036854775807 by omega)]
    have:(if Int.tdiv (kX (dJ l)[k]) 2 > 1 then Int.tdiv (kX (dJ l)[k]) 2 else 1)=uS (dJ l)[k]:=rfl
    rw [this,w3]
   ·refine ⟨by omega,?_,by omega⟩
    rw [Int.natCast_add,Int.add_mul]
    omega) (fun s _=>by
   simp only [so,List.length_map,bJ,cond_false]) N 0 0 (Nat.zero_le _) (by unfold e7 at hN; omega) ⟨by omega,by omega,Nat.zero_le _⟩
 rw [List.drop_zero] at key
 exact key
theorem My (l:List aQ):Zo N l=some (if dH l=0 then (Aj l,0) else (0,dH l)):=by
 rw [UL]
 simp only [cn,cj,Bool.and_true,cond_true,Option.bind_some,Ij hN,H0]
 by_cases h:dH l=0
 ·simp only [h,if_true,QK hN l h,Option.bind_some]
 ·simp only [h,if_false]
theorem QL (l:List aQ) (h:dH l=0) (i:Nat) (hi:i < (dJ l).length) (s:Int):aN (mB N (dJ l) (s,(i:Int)) (cU (dJ l)[i])) N (0,0)=some (kX (dJ l)[i]:Int):=by
 obtain ⟨p1,p2⟩:=@yt l
 obtain ⟨c,hc,ec⟩:=p2 _ (List.getElem_mem hi)
 obtain ⟨c1,c2⟩:=yq h hc
 rw [← ec] at c1 c2
 obtain ⟨a1,a2⟩:=Qs (dJ l) hi
 have ii:=ay hi
 generalize (dJ l)[i]=p at *
 have kl:=qI p
 have key:=fa (rd:=mB N (dJ l) (s,(i:Int)) (cU p)) (cU p).length (fun k=>(((((cU p).take k).countP fun k=>decide (jN p k % 2=1):Nat):Int),(k:Int))) (kX p:Int) (fun k hk=>by
  obtain ⟨b1,b2⟩:=LP (cU p) hk
  have q:=Qq hN p (cU p)[k] (by omega)
  have q:Yl N (p,((cU p)[k].1,(cU p)[k].2))=some (jN p (cU p)[k]:Int):=q
  have et:Int.tmod (jN p (cU p)[k]:Int) 2=((jN p (cU p)[k] % 2:Nat):Int):=rfl
  have cl:=List.countP_le_length (p:=fun k=>decide (jN p k % 2=1)) (l:=(cU p).take k)
  rw [List.length_take] at cl
  have w1:wrap .i64 (((((cU p).take k).countP fun k=>decide (jN p k % 2=1):Nat):Int)+((jN p (cU p)[k] % 2:Nat):Int))=((((cU p).take (k+1)).countP fun k=>decide (jN p k % 2=1):Nat):Int):=by
   rw [ki (by omega),List.take_add_one,List.getElem?_eq_getElem hk,List.countP_append]
   show _=((_+List.countP _ [(cU p)[k]]:Nat):Int)
   rw [List.countP_singleton]
   by_cases ho:jN p (cU p)[k] % 2=1
   ·simp [ho]
   ·have:jN p (cU p)[k] % 2=0:=by omega
    simp [this]
  simp only [mB,List.length_map,aX hk,ay hk,ii,Int.toNat_natCast,a1,a2,b1,b2,Bool.and_self,Bool.and_true,cond_true,cn,cj,Option.bind_some,q,et,w1,bN (show k < 9223372036854775807 by omega)]) (by
  simp only [mB,List.length_map,bJ,cond_false,List.take_length]
  rfl) N 0 (Nat.zero_le _) (by unfold e7 at hN; omega)
 exact key
theorem Mz (l:List aQ) (h:dH l=0):Zp N l=some (Aj l):=by
 obtain ⟨g1,-,-⟩:=cX h
 obtain ⟨p1,p2⟩:=@yt l
 have qp:Yj N l=some (dJ l):=Ib hN l (by omega)
 have key:=dh (rd:=sq N (dJ l)) (dJ l) (fun (s:Int) k=>(s,(k:Int))) (fun s p=>s+uS p) (fun s=>s) (fun s k=>0≤s∧s≤(k:Int) * 10000∧k≤(dJ l).length)
  (fun s k hk hP=>by
   obtain ⟨s1,s2,s3⟩:=hP
   obtain ⟨c,hc,ec⟩:=p2 _ (List.getElem_mem hk)
   obtain ⟨c1,c2⟩:=yq h hc
   rw [← ec] at c1 c2
   obtain ⟨a1,a2⟩:=Qs (dJ l) hk
   have q1:=H6 hN (dJ l)[k] (by omega)
   have q2:=QL hN l h k hk s
   have ei:=GH c2
   have ol:=Bu (dJ l)[k]
   have et:Int.tdiv (kX (dJ l)[k]) 2=((kX (dJ l)[k] / 2:Nat):Int):=rfl
   constructor
   ·have w2:wrap .i64 (Int.tdiv (kX (dJ l)[k]) 2)=Int.tdiv (kX (dJ l)[k]) 2:=by rw [et]; exact ki (by omega)
    have w3:wrap .i64 (s+uS (dJ l)[k])=s+uS (dJ l)[k]:=ki (by omega)
    simp only [sq,List.length_map,aX hk,ay hk,Int.toNat_natCast,a1,a2,Bool.and_self,Bool.and_true,cond_true,cn,cj,Option.bind_some,q1,q2,w2,bN (show k < 9223372036854775807 by omega)]
    have:(if Int.tdiv (kX (dJ l)[k]) 2 > 1 then Int.tdiv (kX (dJ l)[k]) 2 else 1)=uS (dJ l)[k]:=rfl
    rw [this,w3]
   ·refine ⟨by omega,?_,by omega⟩
    rw [Int.natCast_add,Int.add_mul]
    omega) (fun s _=>by
   simp only [sq,List.length_map,bJ,cond_false]) N 0 0 (Nat.zero_le _) (by unfold e7 at hN; omega) ⟨by omega,by omega,Nat.zero_le _⟩
 rw [List.drop_zero] at key
 have key:aN (sq N (dJ l)) N (0,0)=some (Aj l):=key
 rw [UU]
 simp only [cn,cj,Bool.and_true,cond_true,Option.bind_some,qp,key]
end
end Go.Proofs.YtldcljfjjoidhaaGreatDoor
