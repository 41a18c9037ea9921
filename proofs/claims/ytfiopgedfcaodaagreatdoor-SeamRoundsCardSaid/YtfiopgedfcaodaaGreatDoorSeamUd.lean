/- Plain laws: rates read,and the law of rates. -/
import Derived.Test.YtfiopgedfcaodaaGreatDoorSeamUc
set_option linter.all false
namespace Go.Proofs.YtfiopgedfcaodaaGreatDoor
open Go Go.Am
set_option maxRecDepth 100000
def lastR (G:List (Int × Int)):Int:=(G.getLast?.map (·.2)).getD 0
def stW (x:List (Int × Int) × Int) (w:List UInt8):(List (Int × Int) × Int) ⊕ Unit:=
 match grp w with
 | none=>.inr ()
 | some g=>if lastR x.1=g.2 then .inr () else .inl (x.1++[g],x.2+g.1)
def stV (x:Int × Int) (w:List UInt8):(Int × Int) ⊕ Unit:=
 match grp w with
 | none=>.inr ()
 | some g=>if x.2=g.2 then .inr () else .inl (x.1+g.1,g.2)
theorem lastR_snoc (G:List (Int × Int)) (g:Int × Int):lastR (G++[g])=g.2:=by simp [lastR]
theorem lastR_get (G:List (Int × Int)) (h:0 < G.length):lastR G=(G[G.length - 1]'(by omega)).2:=by
 unfold lastR
 rw [List.getLast?_eq_getElem?,List.getElem?_eq_getElem (by omega)]
 rfl
theorem PQ:∀ (ws:List (List UInt8)) (G:List (Int × Int)) (t:Int),
  match foldI stW (G,t) ws with
  | .inr ()=>foldI stV (t,lastR G) ws=.inr ()
  | .inl x=>foldI stV (t,lastR G) ws=.inl (x.2,lastR x.1)∧∃ gs,ws.map grp=gs.map some∧x.1=G++gs∧x.2=t+(gs.map (·.1)).sum
 | [],G,t=>⟨rfl,[],rfl,(List.append_nil _).symm,by simp⟩
 | w :: ws,G,t=>by
  have ih:=PQ ws
  simp only [foldI,stW,stV]
  cases hg:grp w with
  | none=>rfl
  | some g=>
   by_cases h:lastR G=g.2
   ·simp only [h,if_true,Sum.elim_inr]
   ·simp only [h,if_false,Sum.elim_inl]
    have:=ih (G++[g]) (t+g.1)
    rw [lastR_snoc] at this
    cases hf:foldI stW (G++[g],t+g.1) ws with
    | inr u=>rw [hf] at this; exact this
    | inl x=>
     rw [hf] at this
     obtain ⟨h1,gs,h2,h3,h4⟩:=this
     refine ⟨h1,g :: gs,by simp [hg,h2],by rw [h3]; simp,by rw [h4]; simp; omega⟩
def outR (gs:List (Int × Int)):List Int:=gs.foldl (fun s g=>s++List.replicate g.1.toNat g.2) []
theorem grow_rep {α:Type} (b:Int):∀ (l:List α) (s:List Int),l.foldl (fun s _=>s++[b]) s=s++List.replicate l.length b
 | [],s=>by simp
 | _ :: l,s=>by rw [List.foldl_cons,grow_rep b l,List.length_cons,List.replicate_succ]; simp
theorem out_len:∀ (gs:List (Int × Int)) (s:List Int),(∀ g∈gs,0≤g.1)→((gs.foldl (fun s g=>s++List.replicate g.1.toNat g.2) s).length:Int)=(s.length:Int)+(gs.map (·.1)).sum
 | [],s,_=>by simp
 | g :: gs,s,h=>by
  have h0:=h g List.mem_cons_self
  rw [List.foldl_cons,out_len gs _ fun g hg=>h g (List.mem_cons_of_mem _ hg)]
  simp; omega
section
variable (m:Int) {N:Nat} (hN:Big N)
include hN
theorem R83_words (ws:List (List UInt8)) (hw:ws.length≤5000) (hl:∀ w∈ws,w.length≤5000):loopR (R83x250 m N ws) N ([],0,0)=some (Sum.elim (fun x=>.inr x) (fun _=>.inl ((),25)) (foldI stW ([],0) ws)):=by
 have key:=loopR_fold (rd:=R83x250 m N ws) ws (fun (x:List (Int × Int) × Int) k=>(x.1,x.2,(k:Int))) stW (fun x=>(.inr x:(Unit × Int) ⊕ ((List (Int × Int)) × Int))) (fun _=>.inl ((),25)) (fun x k=>x.1.length=k∧0≤x.2∧x.2≤(k:Int) * 999999999)
  (fun x k hk hP=>by
   obtain ⟨G,t⟩:=x
   obtain ⟨p1,p2,p3⟩:=hP
   simp only at p1 p2 p3
   obtain ⟨a1,a2⟩:=at9 ws hk
   have hlw:=hl _ (List.getElem_mem hk)
   have hcl:=cutL_len 120 ws[k]
   have hcut:cutT (ws[k],[120])=some (cutL 120 ws[k]):=by
    show (bif decide (ws[k].length < 4294967281) then some (cutL 120 ws[k]) else none)=_
    rw [decide_eq_true (by omega)]; rfl
   have hl1:=T153_num m hN (cutL 120 ws[k]).1 (by omega)
   have hl2:=T153_num m hN (cutL 120 ws[k]).2.1 (by omega)
   have step:R83x250 m N ws (G,t,(k:Int))=some (Sum.map (fun s'=>(s'.1,s'.2,((k+1:Nat):Int))) (fun _=>.inl ((),25)) (stW (G,t) ws[k])):=by
    have cb:decide ((G.length+1) * 16≤140737488355328)=true:=decide_eq_true (by omega)
    simp only [R83x250,List.length_map,Int.toNat_natCast,lt_range hk,in_range hk,a1,a2,Bool.and_self,cond_true,hcut,Option.bind_some,hl1,hl2,fa46,md46,Bool.and_true,decide_true,cb]
    unfold stW grp
    cases hf:(cutL 120 ws[k]).2.2 with
    | false=>rfl
    | true=>
     rw [if_pos rfl]
     cases hn1:numB (cutL 120 ws[k]).1 with
     | none=>rfl
     | some a=>
      cases hn2:numB (cutL 120 ws[k]).2.1 with
      | none=>rfl
      | some b=>
       have ha:=numB_in hn1
       have hb:=numB_in hn2
       simp only [Bool.not_true,cond_false]
       by_cases h0:0 < G.length
       ·have g0:decide ((G.length:Int) > 0)=true:=decide_eq_true (by omega)
        have w1:IntKind.wrap .i64 ((G.length:Int) - 1)=((G.length - 1:Nat):Int):=by rw [w64 (by omega)]; omega
        have g1:decide ((0:Int)≤((G.length - 1:Nat):Int)∧((G.length - 1:Nat):Int) < (G.length:Int))=true:=decide_eq_true (by omega)
        obtain ⟨z1,z2⟩:=at46g G (show G.length - 1 < G.length by omega)
        simp only [g0,w1,g1,Int.toNat_natCast,z1,z2,Bool.and_self,cond_true,Option.bind_some]
        have hlast:=lastR_get G h0
        rw [hlast]
        by_cases hq:(G[G.length - 1]'(by omega)).2=b
        ·rw [if_pos hq]
         have:((G[G.length - 1]'(by omega)).2 == b)=true:=by simpa using hq
         rw [this]
         rfl
        ·rw [if_neg hq]
         have:((G[G.length - 1]'(by omega)).2 == b)=false:=by simpa using hq
         rw [this]
         simp only [cond_false,cb,Bool.and_self,cond_true,snoc46,fa46,md46,List.length_append,List.length_singleton,decide_true,Option.bind_some,w_succ (show k < 9223372036854775807 by omega),w64 (show -9223372036854775808≤t+a∧t+a≤9223372036854775807 by omega),Sum.map_inl]
       ·have g0:decide ((G.length:Int) > 0)=false:=decide_eq_false (by omega)
        have:G=[]:=List.length_eq_zero_iff.1 (by omega)
        subst this
        have hq:¬ lastR []=b:=by show ¬ (0:Int)=b; omega
        rw [if_neg hq]
        simp only [g0,cond_false,cond_true,Option.bind_some,cb,Bool.and_self,snoc46,fa46,md46,List.length_append,List.length_singleton,decide_true,w_succ (show k < 9223372036854775807 by omega),w64 (show -9223372036854775808≤t+a∧t+a≤9223372036854775807 by omega),Sum.map_inl]
   refine ⟨step,fun s' h=>?_⟩
   unfold stW at h
   cases hg:grp ws[k] with
   | none=>rw [hg] at h; cases h
   | some g=>
    rw [hg] at h
    have:=grp_in hg
    simp only at h
    split at h
    ·cases h
    ·cases h
     simp only [List.length_append,List.length_singleton]
     omega) (fun x hP=>by
   simp only [R83x250,List.length_map,ge_range,cond_false,fa46,md46,Bool.and_true,cond_true,Option.bind_some,decide_true]) N ([],0) 0 (Nat.zero_le _) (by unfold Big at hN; omega) ⟨rfl,by simp,by simp⟩
 rw [List.drop_zero] at key
 exact key
theorem R83_one (gs:List (Int × Int)) (k:Nat) (hk:k < gs.length) (s0:List Int) (hs:s0.length≤10000000000000) (hg:0≤gs[k].1∧gs[k].1≤999999999):loopR (R83x522854 m N (s0,gs,(k:Int))) N (s0,gs,0)=some (s0++List.replicate gs[k].1.toNat gs[k].2,gs):=by
 obtain ⟨z1,z2⟩:=at46g gs hk
 have key:=loopR_foldl (rd:=R83x522854 m N (s0,gs,(k:Int))) (List.range gs[k].1.toNat) (fun (s:List Int) j=>(s,gs,(j:Int))) (fun s _=>s++[gs[k].2]) (fun s=>(s,gs)) (fun s j=>s.length=s0.length+j∧j≤gs[k].1.toNat)
  (fun s j hj hP=>by
   rw [List.length_range] at hj
   obtain ⟨p1,p2⟩:=hP
   have c1:decide ((j:Int) < gs[k].1)=true:=decide_eq_true (by omega)
   have c2:decide ((s.length+1) * 8≤140737488355328)=true:=decide_eq_true (by omega)
   refine ⟨?_,by rw [List.length_append,List.length_singleton]; omega,by omega⟩
   simp only [R83x522854,Int.toNat_natCast,z1,c1,cond_true,List.length_map,decide_true,c2,Bool.and_self,snoc3,fa3,md3,fa46,md46,List.length_append,List.length_singleton,Option.bind_some,w_succ (show j < 9223372036854775807 by omega)]) (fun s hP=>by
   rw [List.length_range] at hP ⊢
   have c1:decide (((gs[k].1.toNat:Nat):Int) < gs[k].1)=false:=decide_eq_false (by omega)
   simp only [R83x522854,Int.toNat_natCast,z1,c1,cond_false,fa3,md3,fa46,md46,Bool.and_self,cond_true,Option.bind_some,decide_true]) N s0 0 (Nat.zero_le _) (by rw [List.length_range]; unfold Big at hN; omega) ⟨rfl,Nat.zero_le _⟩
 rw [List.drop_zero,grow_rep,List.length_range] at key
 exact key
theorem R83_out (gs:List (Int × Int)) (t:Int) (hl:gs.length≤5000) (hg:∀ g∈gs,1≤g.1∧g.1≤999999999):loopR (R83x2042 m N (gs,t)) N ([],gs,0)=some (outR gs,gs):=by
 have key:=loopR_foldl (rd:=R83x2042 m N (gs,t)) gs (fun (s:List Int) k=>(s,gs,(k:Int))) (fun s g=>s++List.replicate g.1.toNat g.2) (fun s=>(s,gs)) (fun s k=>s.length≤k * 999999999∧k≤gs.length)
  (fun s k hk hP=>by
   obtain ⟨p1,p2⟩:=hP
   obtain ⟨z1,z2⟩:=at46g gs hk
   have hgk:=hg _ (List.getElem_mem hk)
   refine ⟨?_,by rw [List.length_append,List.length_replicate]; omega,hk⟩
   simp only [R83x2042,List.length_map,Int.toNat_natCast,lt_range hk,in_range hk,z2,Bool.and_self,cond_true,fa3,md3,fa46,md46,Option.bind_some,decide_true]
   rw [R83_one m hN gs k hk s (by omega) (by omega),Option.bind_some]
   simp only [fa3,md3,fa46,md46,Bool.and_self,cond_true,Option.bind_some,decide_true,w_succ (show k < 9223372036854775807 by omega)]) (fun s hP=>by
   simp only [R83x2042,List.length_map,ge_range,cond_false,fa3,md3,fa46,md46,Bool.and_self,cond_true,Option.bind_some,decide_true]) N [] 0 (Nat.zero_le _) (by unfold Big at hN; omega) ⟨Nat.zero_le _,Nat.zero_le _⟩
 rw [List.drop_zero] at key
 exact key
def parR (s:List UInt8):List Int × Int:=
 if 4096 < s.length then ([],26) else
 match foldI stW ([],0) (splitL 32 s) with
 | .inr ()=>([],25)
 | .inl x=>if 256 < x.2 then ([],5) else if chkR (outR x.1)=0 then (outR x.1,0) else ([],chkR (outR x.1))
omit hN in
theorem split_in (s:List UInt8) (h:s.length≤4096):(splitL 32 s).length≤5000∧∀ w∈splitL 32 s,w.length≤5000:=by
 constructor
 ·rw [splitL_lenc]
  have:=List.count_le_length (a:=(32:UInt8)) (l:=s)
  omega
 ·intro w hw
  have:=splitL_mem 32 s w hw
  omega
omit hN in
theorem stW_groups (ws:List (List UInt8)) (x:List (Int × Int) × Int) (h:foldI stW ([],0) ws=.inl x):ws.map grp=x.1.map some∧x.2=(x.1.map (·.1)).sum∧x.1.length=ws.length∧∀ g∈x.1,(1≤g.1∧g.1≤999999999)∧1≤g.2∧g.2≤999999999:=by
 have:=PQ ws [] 0
 rw [h] at this
 obtain ⟨_,gs,h2,h3,h4⟩:=this
 rw [List.nil_append] at h3
 rw [h3,h4]
 refine ⟨h2,by omega,by have:=congrArg List.length h2; simpa using this.symm,fun g hg=>?_⟩
 have:some g∈ws.map grp:=by rw [h2]; exact List.mem_map.2 ⟨g,hg,rfl⟩
 obtain ⟨w,_,hw⟩:=List.mem_map.1 this
 have:=grp_in (a:=g.1) (b:=g.2) hw
 omega
theorem T83_par (s:List UInt8) (hs:s.length≤1000000):T83 m N s=some (parR s):=by
 rw [T83_eq]
 unfold parR
 by_cases h0:4096 < s.length
 ·rw [if_pos h0,decide_eq_true (show ((s.length:Nat):Int) > 4096 by omega)]; rfl
 ·rw [if_neg h0,decide_eq_false (show ¬ ((s.length:Nat):Int) > 4096 by omega),cond_false]
  have hsp:splitT (s,[32])=some (splitL 32 s):=by
   show (bif decide (s.length < 4294967281) then some (splitL 32 s) else none)=_
   rw [decide_eq_true (by omega)]; rfl
  obtain ⟨s1,s2⟩:=split_in s (by omega)
  have z1:(bif (allFit (Pat.fits p46) ([]:List AV)&&true) then some ((List.map d46 ([]:List AV)),(0:Int),(0:Int)) else none:Option ((List (Int × Int)) × Int × Int))=some ([],0,0):=rfl
  have z2:(bif (decide (0=(List.map n46 (([]:List (Int × Int)),(0:Int),(0:Int)).1).length)&&true) then some (([]:List (Int × Int)),(0:Int),(0:Int)) else none)=some ([],0,0):=rfl
  rw [hsp,Option.bind_some,z1,Option.bind_some,z2,Option.bind_some,R83_words m hN _ s1 s2,Option.bind_some]
  cases hf:foldI stW ([],0) (splitL 32 s) with
  | inr u=>rfl
  | inl x=>
   obtain ⟨g1,g2,g3,g4⟩:=stW_groups _ x hf
   simp only [Sum.elim_inl,Sum.elim_inr]
   by_cases h1:256 < x.2
   ·rw [if_pos h1,decide_eq_true (show x.2 > 256 from h1)]; rfl
   ·rw [if_neg h1,decide_eq_false (show ¬ x.2 > 256 from h1),cond_false]
    have hol:(outR x.1).length≤1000000:=by
     have:=out_len x.1 [] fun g hg=>by have:=(g4 g hg).1; omega
     unfold outR
     rw [← g2,List.length_nil] at this
     omega
    have hA:allFit (Pat.fits p3) ([]:List AV)=true:=rfl
    have hB:List.map d3 ([]:List AV)=[]:=rfl
    have hC:(List.map n3 ([]:List Int)).length=0:=rfl
    simp only [hA,hB,hC,fa46,md46,Bool.and_self,cond_true,Option.bind_some,decide_true]
    have hR:loopR (R83x2042 m N x) N ([],x.1,0)=some (outR x.1,x.1):=R83_out m hN x.1 x.2 (by omega) fun g hg=>(g4 g hg).1
    rw [hR,Option.bind_some]
    simp only [fa3,md3,Bool.and_true,cond_true,Option.bind_some,T136_chk hN _ hol]
    by_cases hc:chkR (outR x.1)=0
    ·have:(chkR (outR x.1) != 0)=false:=by simp [hc]
     rw [this,if_pos hc]
     rfl
    ·have:(chkR (outR x.1) != 0)=true:=bne_iff_ne.2 hc
     rw [this,if_neg hc]
     rfl
end
end Go.Proofs.YtfiopgedfcaodaaGreatDoor
