/- Plain laws. -/
import Derived.Test.YtegoimldbgdeiaaGreatTrzCc
import Derived.Test.YtegoimldbgdeiaaGreatAmKF
import Derived.Test.YtegoimldbgdeiaaGreatRows
import Derived.ChangeSame
import Derived.ChangeVars
import Derived.JoinedOf
import Derived.RowKit
import Derived.RowKitTokens
import Derived.Handed
import Derived.Test.YtegoimldbgdeiaaGreatSeamKA
set_option linter.all false
open Bool renaming and_self->aaR, and_true->aba, true_and->acq, and_eq_true->acu, false_and->adx, not_true->adF
open Classical renaming byContradiction->acP
open Int renaming toNat_natCast->aaK
open List renaming length_map->aad, mem_append_right->aaS, mem_singleton->aa5, mem_append_left->abk, mem_map->abC, length_take->abN, getElem?_eq_getElem->ab1, getD_eq_getElem?_getD->ab3, mem_cons_self->ab5, mem_cons_of_mem->ab7, mem_cons->ab9, mem_range->aca, mem_append->acd, map_cons->aci, pairwise_map->acJ, append_assoc->acK, isEmpty->acL, getElem_map->acM, getElem_mem->acN, pairwise_append->acO, mem_filter->acV, replicate->adf, length_cons->adh, take_length->adi, map_append->adl, append_nil->adm, drop_zero->adn, take_add_one->adO, nodup_append->adP, range->adR, not_mem_nil->adY, nodup_cons->ad4, length->ad7, range_succ_eq_map->ad8, nodup_nil->aed, Nodup->aee, getElem_of_mem->aes, map_congr_left->aet
open List.Pairwise renaming imp_of_mem->acW, nil->aeT, imp->afy
open Nat renaming beq->aaN, zero_le->acf, le_of_lt->adk, le_refl->ady, lt_or_ge->adT, not_lt_zero->ad6, le_of_ble_eq_true->ad9, zero_add->aeH
open Option renaming bind_some->aaJ
open Option.some renaming inj->acg
open Prod renaming fst->ad3, ext->aek
open Sum renaming inr->aag, inl->aaL, elim->ab6, elim_inl->adj, elim_inr->adU
namespace Go.Proofs.YtegoimldbgdeiaaGreat
open Go Go.Am
open Go.Am.aF (fits)
open Go.IntKind (wrap)
open Int (toNat)
open List (map)
def zB15:=And.intro @ay (And.intro @cond_false.{1} @aad.{0,0})
def T8 (_N:Nat):Unit->Option Bool:=λ _=>some true
def e8 (N:Nat):bJ:=⟨.nil,.bool,T8 N⟩
def aln (N:Nat):aK cd 8 (e8 N):=λ x y h=>by
 cases h;exact cw.mono Lu λ r ⟨y,h1,h2⟩=>by rw [h1,h2]; rfl
end Go.Proofs.YtegoimldbgdeiaaGreat
namespace Go.Proofs.YtegoimldbgdeiaaGreat
open Go Go.Am Go.ChangeShapes Go.WideShapes Go.RowKit
open List (map)
open Int (toNat)
open Go.IntKind (wrap)
open Go.Am.aF (fits)
set_option maxRecDepth 100000
variable {H:Type}{os:Os}{f:FuncId}{fn:Func}{s:ChangeSpec}{conds:List PathCond}{apart:Bool}{enc:TypeId×Value->H}
def own:ownKnob Tryz.prog.godebug=none:=by kernel_rfl
def laidOut:laidOutB Tryz.prog=true:=by kernel_rfl
def agF:Tryz.prog.underlying 4=some .bool:=by kernel_rfl
def agG (W:World) (g:Nat) (cs:List AV) (hg:cd.fU g=some cs):jG (xJ W) W g 0 cs:=by
 cases (show (none:Option (List AV))=some cs from hg)
def readable (h:(fn.params.toList.all λ t=>Tryz.prog.readableRec t&&Nat.blt t Tryz.prog.types.size)=true):∀ t∈fn.params.toList,Tryz.prog.readableRec t=true/\t < Tryz.prog.types.size:=λ t ht=>by
 have:=List.all_eq_true.1 h t ht;rw [acu] at this;exact ⟨this.1,ad9 this.2⟩
noncomputable def agH (os:Os):World:=World.holding Tryz.prog os ⟨#[],#[],[]⟩
def witness6 
  (h:∃ (w:World) (tape:Tape) (i:Input),w.os=os/\(w.forCall tape i).Shaped Tryz.prog/\i.vars=[]/\Input.okWide Tryz.prog (w.forCall tape i) .any w.heap.size f i /\
   ((s.pre enc Tryz.prog fn conds apart (w.forCall tape i).memory i.args/\True)/\sizedMet enc Tryz.prog fn (OpenSpec.ofChange s) apart (w.forCall tape i).memory i.args)/\({ modest:=false }:Assume).holds Tryz.prog (lone (Frame.enter Tryz.prog f i.args .normal) [] (w.forCall tape i))) :
  ∃ (w:World) (tape:Tape) (i:Input),w.os=os/\(w.forCall tape i).Shaped Tryz.prog/\i.vars=[]/\Input.okWide Tryz.prog (w.forCall tape i) .any w.heap.size f i /\
   s.pre6 enc Tryz.prog fn conds apart (w.forCall tape i).memory i.args/\({}:Assume).holds Tryz.prog (lone (Frame.enter Tryz.prog f i.args .normal) [] (w.forCall tape i)):=by
 obtain ⟨w,tape,i,h1,h2,h3,h4,⟨⟨h5,_⟩,h6⟩,h7⟩:=h;exact ⟨w,tape,i,h1,h2,h3,h4,⟨h5,h6⟩,h7⟩
def alo:mapsRowed Tryz.prog=true:=by kernel_rfl
def agI:(Rows.trawlOpeningsRow.plainKeys == Tryz.prog.plainKeys)=true:=by kernel_rfl
def agJ:Tryz.prog.stopsHeard=true:=by kernel_rfl
def agK:Tryz.prog.mayEnter=true:=by kernel_rfl
def agL:(Rows.trawlOpeningsRow.lifted == Tryz.prog.liftsFinal)=true:=by kernel_rfl
def agM:(Tryz.prog.stops == [])=true:=by kernel_rfl
def agN:(Tryz.prog.stopKnobs == [])=true:=by kernel_rfl
end Go.Proofs.YtegoimldbgdeiaaGreat
namespace Go.Proofs.YtegoimldbgdeiaaGreat
noncomputable section
open Go Go.Am
open Go.Am.aF (fits)
open Go.IntKind (wrap)
open Int (toNat)
open List (map)
set_option maxRecDepth 100000
variable {α K:Type}{N k i j n:Nat}{P:List rk}{S:List mi}{q:Int->Bool}{t:bh}{l p:List K}{a b e o:Int×Int}{m:List (K×Int)}{c:Int}{U:List (Int×Int)}{ps:List (K×K)}{w:Bool}{L:List α}{a0 x0 x a1 y b0 z b1:α}
abbrev Lv:aF:=U9
abbrev d79 (v:AV):Int×Int×Int×Int×Bool:=aF.bW Lv v
abbrev Tp (x:Int×Int×Int×Int×Bool):AV:=aF.enc Lv x
abbrev V2 (l:List ms):=map Tp l
abbrev F79 (l:List ms):=allFit (fits Lv) (map Tp l)
abbrev K79 (l:List ms):=map d79 (map Tp l)
def oe (l:List ms):allFit (fits Lv) (map Tp l)=true:=cA (p:=Lv) rfl l
def og (l:List ms):map d79 (map Tp l)=l:=eO (p:=Lv) rfl l
abbrev B5:aF:=(.agg (.cons .str (.cons tZ .nil)))
abbrev d92 (v:AV):fj×aj:=aF.bW B5 v
abbrev Sh (x:fj×aj):AV:=aF.enc B5 x
abbrev xR (l:List lu):=map Sh l
abbrev F92 (l:List lu):=allFit (fits B5) (map Sh l)
abbrev K92 (l:List lu):=map d92 (map Sh l)
def nK (l:List lu):allFit (fits B5) (map Sh l)=true:=cA (p:=B5) rfl l
def nL (l:List lu):map d92 (map Sh l)=l:=eO (p:=B5) rfl l
def zB18:=And.intro @nK (And.intro @nL (And.intro @oe @og))
def ap8 (x:fj×aj):fits B5 (Sh x)=true:=(aF.bt B5 x rfl).1
def ap9 (x:fj×aj):d92 (Sh x)=x:=(aF.bt B5 x rfl).2
abbrev p94:aF:=EM
abbrev d94 (v:AV):Int×Int:=aF.bW p94 v
abbrev XP (x:Int×Int):AV:=aF.enc p94 x
abbrev Tq (l:List cj):=map XP l
def aqa:List (Nat×dF):=[(12,.join [(.norm,⟨(.cons .bool .nil),[13],[],[],[],[]⟩)]),
 (58,.loop [] ⟨(.ci .nil),[3],[],[],[],[]⟩ [(.ret,⟨(.cons .bool .nil),[2],[],[],[],[]⟩),(.ex 0,⟨.nil,[],[],[],[],[]⟩)]),
 (3730,.join [(.norm,⟨(.cons .bool .nil),[5],[],[],[],[]⟩)]),
 (7462,.join [(.norm,⟨(.cons .bool .nil),[54],[],[],[],[]⟩)])]
def aaB (N:Nat):fj->Option Bool:=(cx N [] [(110,aqa)]).fn 1000 110 (.cons .str .nil) .bool
def alr (N:Nat):bJ:=⟨(.cons .str .nil),.bool,aaB N⟩
def aaC (N:Nat):aK cd 110 (alr N):=jj.dQ oV
def zH (N:Nat) (a0:List UInt8) (v2:Int):Option (Int⊕(Bool⊕Unit)):=
 let l1:=((a0).getD (toNat v2) 0); let l3:=(decide (((l1.toNat:Nat):Int)<=90)); let l2:=(decide (((l1.toNat:Nat):Int)>=65)); (bif (decide (v2 < (((a0).length:Nat):Int))) then bif decide ((0:Int)<=v2/\v2 < ((a0).length:Int)) then (((bif (decide (((l1.toNat:Nat):Int)>=97)) then (bif (decide (((l1.toNat:Nat):Int)<=122)) then (some true) else (bif l2 then (some l3) else (some false))) else (bif l2 then (some l3) else (some false))):Option Bool).bind λ o3=>(((bif (!o3) then (bif (v2 == 0) then (some true) else (bif (((l1.toNat:Nat):Int) != 95) then (bif (decide (((l1.toNat:Nat):Int) < 48)) then (some true) else (some (decide (((l1.toNat:Nat):Int) > 57)))) else (some false))) else (some false)):Option Bool).bind λ o4=>(bif o4 then (some (aag (aaL false))) else (some (aaL (wrap .i64 (v2+1))))))) else none else (some (aag (aag ()))))
def aaD (N:Nat) (a0:List UInt8):aaB N a0 =
 (((bif ((((a0).length:Nat):Int) == 0) then (some true) else (some (decide ((((a0).length:Nat):Int) > 24)))):Option Bool).bind λ o1=>(bif o1 then some false else ((ao (zH N a0) N 0).bind λ o9=>(ab6 (λ XG=>some XG) (λ UM=>some true) o9)))):=by kernel_rfl
def aqb:List (Nat×dF):=[(26,.loop [] ⟨(.ci .nil),[3],[],[],[],[]⟩ [(.ret,⟨(.ci .nil),[2],[],[],[],[]⟩),(.ex 0,⟨.nil,[],[],[],[],[]⟩)])]
def aaE (N:Nat):ah->Option Int:=(cx N [] [(111,aqb)]).fn 1000 111 (.cons aO .nil) (.int .i64)
def als (N:Nat):bJ:=⟨(.cons aO .nil),(.int .i64),aaE N⟩
def aaF (N:Nat):aK cd 111 (als N):=jj.dQ oV
def C0 (N:Nat) (a0:List Int) (v1:Int):Option vc:=
 let l3:=(L3 a0); let l2:=(an l3 (toNat v1)); let l1:=(decide ((0:Int)<=v1/\v1 < ((l3).length:Int))&&fits p3 l2); (bif (decide (v1 < (((l3).length:Nat):Int))) then bif l1 then (bif ((d3 l2) != 0) then bif l1 then (some (aag (aaL (d3 l2)))) else none else (some (aaL (wrap .i64 (v1+1))))) else none else (some (aag (aag ()))))
def aaG (N:Nat) (a0:List Int):aaE N a0 =
 ((ao (C0 N a0) N 0).bind λ o6=>(ab6 (λ o7=>some o7) (λ o8=>some 0) o6)):=by kernel_rfl
def aqc:List (Nat×dF):=[(12,.join [(.norm,⟨(.cons .bool .nil),[14],[],[],[],[]⟩)])]
def V3 (N:Nat):Int×Int×Int->Option Int:=(cx N [] [(112,aqc)]).fn 1000 112 (.ci (.ci (.ci .nil))) (.int .i64)
def alu (N:Nat):bJ:=⟨(.ci (.ci (.ci .nil))),(.int .i64),V3 N⟩
def aaH (N:Nat):aK cd 112 (alu N):=jj.dQ oV
def aaI (N:Nat) (a0:Int) (a1:Int) (a2:Int):V3 N (a0,a1,a2) =
 (((bif (decide (a0 < a1)) then (some true) else (some (decide (a0 > a2)))):Option Bool).bind λ o1=>(bif o1 then some 3 else some 0)):=by kernel_rfl
def c44:List (Nat×dF):=[(6,.join [(.norm,⟨(.cons .bool .nil),[4],[],[],[],[]⟩)])]
def V4 (N:Nat):dx×cj->Option Bool:=(cx N [] [(44,c44)]).fn 1000 44 (.cons cJ (.cons bI .nil)) .bool
def e44 (N:Nat):bJ:=⟨(.cons cJ (.cons bI .nil)),.bool,V4 N⟩
def Ox (N:Nat):aK cd 44 (e44 N):=jj.dQ oV
def agO (N:Nat) (a0:aP×aG) (a1:Int×Int):V4 N (a0,a1) =
 (let l1:=(xR a0.1); (((bif (decide (a1.1>=0)) then (bif (decide (a1.1 < (((l1).length:Nat):Int))) then (bif (decide (a1.2>=0)) then bif (decide ((0:Int)<=a1.1/\a1.1 < ((l1).length:Int))&&fits B5 (an l1 (toNat a1.1))) then (some (decide (a1.2 < ((((Tq (d92 (an l1 (toNat a1.1))).2)).length:Nat):Int)))) else none else (some false)) else (some false)) else (some false)):Option Bool).bind λ o1=>some o1)):=by kernel_rfl
def c9:List (Nat×dF):=[(12,.join [(.norm,⟨(.cons .bool .nil),[40],[],[],[],[]⟩)]),
 (58,.loop [] ⟨(.ci .nil),[5],[],[],[],[]⟩ [(.ret,⟨(.cons .bool .nil),[4],[],[],[],[]⟩),(.ex 0,⟨.nil,[],[],[],[],[]⟩)]),
 (1864,.join [(.norm,⟨(.cons .bool .nil),[65],[],[],[],[]⟩)])]
def T9 (N:Nat):dx×Int->Option Bool:=(cx N [] [(9,c9)]).fn 1000 9 (.cons cJ (.ci .nil)) .bool
def e9 (N:Nat):bJ:=⟨(.cons cJ (.ci .nil)),.bool,T9 N⟩
def alv (N:Nat):aK cd 9 (e9 N):=jj.dQ oV
def Lw (N:Nat) (a0:aP×aG) (v2:Int):Option (Int⊕(Bool⊕Unit)):=
 let l3:=(xR a0.1); let l2:=(an l3 (toNat v2)); let l1:=(decide ((0:Int)<=v2/\v2 < ((l3).length:Int))&&fits B5 l2); (bif (decide (v2 < (((l3).length:Nat):Int))) then ((bif l1 then (bif (decide (((((d92 l2).1).length:Nat):Int) > 60)) then (some true) else bif l1 then (some (decide (((((Tq (d92 l2).2)).length:Nat):Int) > 10))) else none) else none).bind λ o3=>(bif o3 then (some (aag (aaL false))) else (some (aaL (wrap .i64 (v2+1)))))) else (some (aag (aag ()))))
def adg (N:Nat) (a0:aP×aG) (a1:Int):T9 N (a0,a1) =
 (let l6:=(xR a0.1); let l3:=(decide (((l6.length:Nat):Int) > 18)); let l2:=(V2 a0.2); let l5:=(decide (((l2.length:Nat):Int)<=64)); let l4:=(decide (((l2.length:Nat):Int) > 12)); let l1:=(decide (((l2.length:Nat):Int) > 66)); (((bif (decide (((l6.length:Nat):Int) > a1)) then (bif (decide (((l6.length:Nat):Int)<=16)) then (some true) else (bif l3 then (some true) else (bif l4 then (bif l5 then (some true) else (some l1)) else (some l1)))) else (bif l3 then (some true) else (bif l4 then (bif l5 then (some true) else (some l1)) else (some l1)))):Option Bool).bind λ o1=>(bif o1 then some false else ((ao (Lw N a0) N 0).bind λ o8=>(ab6 (λ o9=>some o9) (λ XG=>some true) o8))))):=by kernel_rfl
def T69 (N:Nat):dx×cj->Option (cj):=(cx N [] []).fn 1000 69 (.cons cJ (.cons bI .nil)) bI
def e69 (N:Nat):bJ:=⟨(.cons cJ (.cons bI .nil)),bI,T69 N⟩
def V5 (N:Nat):aK cd 69 (e69 N):=jj.dQ oV
def agQ (N:Nat) (a0:aP×aG) (a1:Int×Int):T69 N (a0,a1) =
 (let l3:=(an (xR a0.1) (toNat a1.1)); let l1:=(Tq (d92 l3).2); let l2:=(an l1 (toNat a1.2)); bif (decide ((0:Int)<=a1.1/\a1.1 < ((xR a0.1).length:Int))&&fits B5 l3) then bif (decide ((0:Int)<=a1.2/\a1.2 < ((l1).length:Int))&&fits p94 l2) then some ((d94 l2).1,(d94 l2).2) else none else none):=by kernel_rfl
def c48:List (Nat×dF):=[(12,.join [(.norm,⟨(.cons .bool .nil),[22],[],[],[],[]⟩)]),
 (122,.loop [] ⟨(.ci .nil),[7],[],[],[],[]⟩ [(.ret,⟨(.ci .nil),[6],[],[],[],[]⟩),(.ex 0,⟨.nil,[],[],[],[],[]⟩)]),
 (252,.join [(.norm,⟨(.cons .bool .nil),[83],[],[],[],[]⟩)]),
 (7826,.join [(.norm,⟨(.cons .bool .nil),[63],[],[],[],[]⟩)])]
def T48 (N:Nat):dx×aG×ms->Option Int:=(cx N [(44,e44 N),(69,e69 N)] [(48,c48)]).fn 1000 48 (.cons cJ (.cons cm (.cons wY .nil))) (.int .i64)
def e48 (N:Nat):bJ:=⟨(.cons cJ (.cons cm (.cons wY .nil))),(.int .i64),T48 N⟩
def agS (N:Nat):aK cd 48 (e48 N):=jj.dQ (jw (Ox N) (jw (V5 N) oV))
def zI (N:Nat) (a1:List ms) (a2:Int×Int×Int×Int×Bool) (v6:Int):Option vc:=
 let l2:=(V2 a1); let l1:=(d79 (an l2 (toNat v6))); (bif (decide (v6 < (((l2).length:Nat):Int))) then bif (decide ((0:Int)<=v6/\v6 < ((l2).length:Int))&&fits Lv (an l2 (toNat v6))) then (((bif ((l1.1 == a2.1)&&((l1.2.1 == a2.2.1)&&true)) then (some true) else (bif ((l1.1 == a2.2.2.1)&&((l1.2.1 == a2.2.2.2.1)&&true)) then (some true) else (bif ((l1.2.2.1 == a2.1)&&((l1.2.2.2.1 == a2.2.1)&&true)) then (some true) else (some ((l1.2.2.1 == a2.2.2.1)&&((l1.2.2.2.1 == a2.2.2.2.1)&&true)))))):Option Bool).bind λ o7=>(bif o7 then (some (aag (aaL 9))) else (some (aaL (wrap .i64 (v6+1)))))) else none else (some (aag (aag ()))))
def agT (N:Nat) (a0:aP×aG) (a1:List ms) (a2:Int×Int×Int×Int×Bool):T48 N (a0,a1,a2) =
 (let l6:=fj; let l3:=(V2 a0.2); let l5:=(map d79 l3); let l2:=(xR a0.1); let l4:=(map d92 l2); let l1:=((allFit (fits B5) l2&&(allFit (fits Lv) l3&&true))&&true); ((((bif l1 then some ((l4,l5),(a2.1,a2.2.1)) else none).bind λ x2=>(V4 N x2).bind λ y1=>(bif (!y1) then (some true) else ((bif l1 then some ((l4,l5),(a2.2.2.1,a2.2.2.2.1)) else none).bind λ x4=>(V4 N x4).bind λ y3=>(some (!y3))))):Option Bool).bind λ o5=>(bif o5 then some 10 else (bif ((a2.1 == a2.2.2.1)&&((a2.2.1 == a2.2.2.2.1)&&true)) then some 9 else ((ao (zI N a1 a2) N 0).bind λ Z4=>(ab6 (λ Gl=>some Gl) (λ Cs=>((bif l1 then some ((l4,l5),(a2.1,a2.2.1)) else none).bind λ x16=>(T69 N x16).bind λ y15=>bif (((a2.2.2.1 == a2.2.2.1)&&((a2.2.2.2.1 == a2.2.2.2.1)&&true))&&((au l2 l2&&(au l3 l3&&true))&&true)) then ((bif l1 then some ((l4,l5),(a2.2.2.1,a2.2.2.2.1)) else none).bind λ x18=>(T69 N x18).bind λ yk=>(((bif (decide (y15.1 > (wrap .i64 (2*yk.1)))) then (some true) else (some (decide (yk.1 > (wrap .i64 (2*y15.1)))))):Option Bool).bind λ Hm=>(bif Hm then some 24 else some 0))) else none)) Z4)))))):=by kernel_rfl
def c64:List (Nat×dF):=[(58,.loop [] ⟨(.ci .nil),[5],[],[],[],[]⟩ [(.ret,⟨(.ci .nil),[4],[],[],[],[]⟩),(.ex 0,⟨.nil,[],[],[],[],[]⟩)]),
 (60,.join [(.norm,⟨(.cons .bool .nil),[47],[],[],[],[]⟩)]),
 (250,.loop [] ⟨(.ci .nil),[6],[],[],[],[]⟩ [(.ret,⟨(.ci .nil),[4],[],[],[],[]⟩),(.ex 2,⟨.nil,[],[],[],[],[]⟩)])]
def T64 (N:Nat):aP×Int->Option Int:=(cx N [(110,alr N),(111,als N),(112,alu N)] [(64,c64)]).fn 1000 64 (.cons cp (.ci .nil)) (.int .i64)
def e64 (N:Nat):bJ:=⟨(.cons cp (.ci .nil)),(.int .i64),T64 N⟩
def agU (N:Nat):aK cd 64 (e64 N):=jj.dQ (jw (aaC N) (jw (aaF N) (jw (aaH N) oV)))
def E4 (N:Nat) (a0:List lu) (a1:Int) (v2:Int):Option vc:=
 let l1:=(xR a0); (bif (decide (v2 < a1)) then bif (decide ((0:Int)<=v2/\v2 < ((l1).length:Int))&&fits B5 (an l1 (toNat v2))) then bif (decide ((0:Int)<=a1/\a1 < ((l1).length:Int))&&fits B5 (an l1 (toNat a1))) then (bif ((d92 (an l1 (toNat v2))).1 == (d92 (an l1 (toNat a1))).1) then (some (aag (aaL 9))) else (some (aaL (wrap .i64 (v2+1))))) else none else none else (some (aag (aag ()))))
def zJ (N:Nat) (a0:List lu) (a1:Int) (v11:Int):Option vc:=
 let l4:=(an (xR a0) (toNat a1)); let l2:=(decide ((0:Int)<=a1/\a1 < ((xR a0).length:Int))&&fits B5 l4); let l1:=(Tq (d92 l4).2); let l3:=(an l1 (toNat v11)); bif l2 then (bif (decide (v11 < (((l1).length:Nat):Int))) then bif l2 then bif (decide ((0:Int)<=v11/\v11 < ((l1).length:Int))&&fits p94 l3) then (V3 N ((d94 l3).1,1,10000)).bind λ XQ=>bif (((d94 l3).2 == (d94 l3).2)&&true) then (V3 N ((d94 l3).2,(-100000),100000)).bind λ y13=>((bif (allFit (fits p3) [(aI XQ),(aI y13)]&&true) then some (map d3 [(aI XQ),(aI y13)]) else none).bind λ x15=>(aaE N x15).bind λ Si=>(bif (Si != 0) then (some (aag (aaL Si))) else (some (aaL (wrap .i64 (v11+1)))))) else none else none else none else (some (aag (aag ())))) else none
def agV (N:Nat) (a0:List lu) (a1:Int):T64 N (a0,a1) =
 (let l2:=(an (xR a0) (toNat a1)); let l1:=(decide ((0:Int)<=a1/\a1 < ((xR a0).length:Int))&&fits B5 l2); bif l1 then (aaB N (d92 l2).1).bind λ y1=>(bif (!y1) then some 8 else ((ao (E4 N a0 a1) N 0).bind λ o7=>(ab6 (λ o8=>some o8) (λ o9=>((bif l1 then (bif (decide (((((Tq (d92 l2).2)).length:Nat):Int) < 3)) then (some true) else bif l1 then (some (decide (((((Tq (d92 l2).2)).length:Nat):Int) > 8))) else none) else none).bind λ XG=>(bif XG then some 2 else ((ao (zJ N a0 a1) N 0).bind λ Gm=>(ab6 (λ o21=>some o21) (λ o22=>some 0) Gm))))) o7))) else none):=by kernel_rfl
def c14:List (Nat×dF):=[(122,.loop [] ⟨(.ci .nil),[3],[],[],[],[]⟩ [(.ret,⟨(.ci .nil),[2],[],[],[],[]⟩),(.ex 0,⟨.nil,[],[],[],[],[]⟩)]),
 (506,.loop [] ⟨(.ci .nil),[5],[],[],[],[]⟩ [(.ret,⟨(.ci .nil),[2],[],[],[],[]⟩),(.ex 2,⟨.nil,[],[],[],[],[]⟩)])]
def T14 (N:Nat):dx->Option Int:=(cx N [(48,e48 N),(64,e64 N)] [(14,c14)]).fn 1000 14 (.cons cJ .nil) (.int .i64)
def e14 (N:Nat):bJ:=⟨(.cons cJ .nil),(.int .i64),T14 N⟩
def agW (N:Nat):aK cd 14 (e14 N):=jj.dQ (jw (agS N) (jw (agU N) oV))
def zK (N:Nat) (a0:aP×aG) (v1:Int):Option vc:=
 let l1:=(xR a0.1); (bif (decide (v1 < (((l1).length:Nat):Int))) then ((bif (allFit (fits B5) l1&&true) then some ((map d92 l1),v1) else none).bind λ x3=>(T64 N x3).bind λ y2=>(bif (y2 != 0) then (some (aag (aaL y2))) else (some (aaL (wrap .i64 (v1+1)))))) else (some (aag (aag ()))))
def zM (N:Nat) (a0:aP×aG) (v11:Int):Option vc:=
 let l2:=(V2 a0.2); let l1:=(an l2 (toNat v11)); (bif (decide (v11 < (((l2).length:Nat):Int))) then bif (decide ((0:Int)<=v11/\v11<=((l2).length:Int))&&true) then bif (decide ((0:Int)<=v11/\v11 < ((l2).length:Int))&&fits Lv l1) then ((bif ((F92 a0.1&&(allFit (fits Lv) l2&&true))&&(allFit (fits Lv) (Az 0 (toNat v11) l2)&&true)) then some (((K92 a0.1),(map d79 l2)),(map d79 (Az 0 (toNat v11) l2)),((d79 l1).1,(d79 l1).2.1,(d79 l1).2.2.1,(d79 l1).2.2.2.1,(d79 l1).2.2.2.2)) else none).bind λ x13=>(T48 N x13).bind λ XQ=>(bif (XQ != 0) then (some (aag (aaL XQ))) else (some (aaL (wrap .i64 (v11+1)))))) else none else none else (some (aag (aag ()))))
def agX (N:Nat) (a0:aP×aG):T14 N a0 =
 (bif ((((xR a0.1).length:Nat):Int) == 0) then some 12 else (bif (decide ((((xR a0.1).length:Nat):Int) > 16)) then some 5 else ((ao (zK N a0) N 0).bind λ o8=>(ab6 (λ o9=>some o9) (λ XG=>(bif (decide ((((V2 a0.2).length:Nat):Int) > 64)) then some 5 else ((ao (zM N a0) N 0).bind λ On=>(ab6 (λ Hm=>some Hm) (λ Gm=>some 0) On)))) o8)))):=by kernel_rfl
def aqg:List (Nat×dF):=[(26,.loop [] ⟨(pl [pI,pI,pI]),[7],[],[(4,2)],[],[]⟩ [(.ret,⟨(pl [.bool,.bool,pI,pI]),[5,6],[],[(4,2)],[],[]⟩),(.ex 0,⟨(pl [pI,pI]),[],[],[(4,2)],[],[]⟩)])]
def aqh (N:Nat):dx×cj->Option (cj×Bool×Bool):=(cx N [] [(113,aqg)]).fn 1000 113 (.cons cJ (.cons bI .nil)) (.cD (.cons bI (.cons .bool (.cons .bool .nil))))
def alw (N:Nat):bJ:=⟨(.cons cJ (.cons bI .nil)),(.cD (.cons bI (.cons .bool (.cons .bool .nil)))),aqh N⟩
def c65:List (Nat×dF):=[(58,.loop [(.slot 3,2,77)] ⟨(pl [.own 0 2 bI,pI]),[3,4],[],[],[.tok 0 2 77],[]⟩ [(.ex 0,⟨(.cons (.own 0 2 bI) .nil),[3],[],[],[.tok 0 2 77],[]⟩)]),
 (3730,.loop [] ⟨(pl [.own 0 2 bI,pI]),[3,5],[],[],[.tok 0 2 77],[]⟩ [(.ex 2,⟨(.cons (.own 0 2 bI) .nil),[3],[],[],[.tok 0 2 77],[]⟩)]),
 (29842,.join [(.norm,⟨(.cons (.own 0 2 bI) .nil),[3],[],[],[.tok 0 2 77],[]⟩)])]
def T65 (N:Nat):dx->Option (aj):=(cx N [(113,alw N)] [(65,c65)]).fn 1000 65 (.cons cJ .nil) aR
def e65 (N:Nat):bJ:=⟨(.cons cJ .nil),aR,T65 N⟩
def Ba (x0:aP) (x1:aG) (x2:Int) (x3:Int):Option (dx×cj):=
 bif ((F92 x0&&(F79 x1&&true))&&true) then some (((K92 x0),(K79 x1)),(x2,x3)) else none
def c11:List (Nat×dF):=[(58,.loop [(.box 3 0,2,131)] ⟨(pl [pI,.own 0 2 Hf,.bD (.list .nil 0 [])]),[14],[],[(3,2)],[.tok 1 2 131],[]⟩ [(.ex 0,⟨(pl [.own 0 2 Hf,.bD (.list .nil 0 [])]),[],[],[(3,2)],[.tok 0 2 131],[]⟩)]),
 (122,.loop [(.box 3 1,5,110)] ⟨(pl [pI,.own 0 2 Hf,.own 1 5 wY]),[45],[],[(3,2)],[.tok 1 2 131,.tok 2 5 110],[]⟩ [(.ex 4,⟨(pl [.own 0 2 Hf,.own 1 5 wY]),[],[],[(3,2)],[.tok 0 2 131,.tok 1 5 110],[]⟩)]),
 (59802,.loop [(.box 6 1,2,132)] ⟨(pl [pI,.str,.own 1 2 bI]),[24],[],[(6,2)],[.kp,.tok 2 2 132],[]⟩ [(.ex 2,⟨(pl [.str,.own 1 2 bI]),[],[],[(6,2)],[.kp,.tok 1 2 132],[]⟩)])]
def XR (N:Nat):dx->Option (dx):=(cx N [] [(11,c11)]).fn 1000 11 (.cons cJ .nil) cJ
def e11 (N:Nat):bJ:=⟨(.cons cJ .nil),cJ,XR N⟩
def agY (N:Nat):aK cd 11 (e11 N):=jj.dQ oV
def r9 (N:Nat) (a0:aP×aG) (v1:Int×aP×Unit) (v2:Int×fj×aj):Option (BV⊕(lu)):=
 let l3:=(cE v1.2.1).length; let l2:=(zw v2.2.2); let l1:=(Tq (d92 (an (map Sh a0.1) (toNat v1.1))).2); let l4:=(an l1 (toNat v2.1)); (bif (decide (v2.1 < (((l1).length:Nat):Int))) then bif (decide ((0:Int)<=v2.1/\v2.1 < ((l1).length:Int))&&fits p94 l4) then bif (decide (((l2).length)=(l2).length)&&decide (((l2).length+1)*16<=140737488355328)) then (((IU (wrap .i64 (v2.1+1)) v2.2.1 (l2++[(AV.agg [(aI (d94 l4).1),(aI (d94 l4).2)])])).bind λ w3=>bif ((decide (l3=l3)&&true)&&(decide ((((l2).length)+1)=(map n132 w3.2.2).length)&&true)) then some w3 else none).bind λ u4=>some (aaL u4)) else none else none else (((IT v2.2.1 v2.2.2).bind λ w5=>bif ((decide (l3=l3)&&true)&&(decide (((l2).length)=(map n132 w5.2).length)&&true)) then some w5 else none).bind λ u6=>some (aag u6)))
def E5 (N:Nat) (a0:aP×aG) (v1:Int×aP×Unit):Option ((Int×aP×Unit)⊕((aP×Unit))):=
 let l5:=fj; let l3:=(xR a0.1); let l1:=(cE v1.2.1); let l4:=((l1).length); (bif (decide (v1.1 < (((l3).length:Nat):Int))) then bif (decide ((0:Int)<=v1.1/\v1.1 < ((l3).length:Int))&&fits B5 (an l3 (toNat v1.1))) then (((IU 0 ((d92 (an l3 (toNat v1.1))).1) ([]:List AV)).bind λ w7=>bif ((decide (l4=l4)&&true)&&(decide (0=(map n132 w7.2.2).length)&&true)) then some w7 else none).bind λ KT=>(ao (r9 N a0 v1) N KT).bind λ o8=>let l2:=(l1++[(AV.agg [(AV.str o8.1),(AV.list .bV 2 (zw o8.2))])]); bif (decide (l4=(l1).length)&&decide (((l1).length+1)*40<=140737488355328)) then (((bif (allFit (fits fY) l2&&true) then some ((wrap .i64 (v1.1+1)),(map d131 l2),()) else none).bind λ w9=>bif (decide ((l4+1)=(map n131 w9.2.1).length)&&true) then some w9 else none).bind λ ZB=>some (aaL ZB)) else none) else none else (((bif (allFit (fits fY) l1&&true) then some ((map d131 l1),()) else none).bind λ Of=>bif (decide (l4=(map n131 Of.1).length)&&true) then some Of else none).bind λ u13=>some (aag u13)))
def agZ (x0:Int) (x1:aP) (x2:List AV):Option (Int×aP×aG):=
 bif (mI x1&&(allFit (fits ir) x2&&true)) then some (x0,(jH x1),(map d110 x2)) else none
def zN (N:Nat) (a0:aP×aG) (oh:Int×aP×aG):Option ((Int×aP×aG)⊕(dx)):=
 let l4:=(cE oh.2.1).length; let l3:=(V2 a0.2); let l2:=(dc oh.2.2); let l1:=(an l3 (toNat oh.1)); (bif (decide (oh.1 < (((l3).length:Nat):Int))) then bif (decide ((0:Int)<=oh.1/\oh.1 < ((l3).length:Int))&&fits Lv l1) then bif (decide (((l2).length)=(l2).length)&&decide (((l2).length+1)*40<=140737488355328)) then (((agZ (wrap .i64 (oh.1+1)) oh.2.1 (l2++[(AV.agg [(aI (d79 l1).1),(aI (d79 l1).2.1),(aI (d79 l1).2.2.1),(aI (d79 l1).2.2.2.1),(AV.bool (d79 l1).2.2.2.2)])])).bind λ Oq=>bif (decide (l4=(map n131 Oq.2.1).length)&&(decide ((((l2).length)+1)=(map n110 Oq.2.2).length)&&true)) then some Oq else none).bind λ u18=>some (aaL u18)) else none else none else (((Oo oh.2.1 oh.2.2).bind λ w19=>bif (decide (l4=(map n131 w19.1).length)&&(decide (((l2).length)=(map n110 w19.2).length)&&true)) then some w19 else none).bind λ u20=>some (aag u20)))
def ag0 (N:Nat) (a0:aP×aG):XR N a0 =
 (let l1:=fj; (((bif (allFit (fits fY) ([]:List AV)&&true) then some (0,(map d131 ([]:List AV)),()) else none:Option (Int×(List (l1×aj))×Unit)).bind λ ZF=>bif (decide (0=(map n131 ZF.2.1).length)&&true) then some ZF else none).bind λ x24=>(ao (E5 N a0) N x24).bind λ o15=>let l2:=(cE o15.1); (((bif (allFit (fits fY) l2&&(allFit (fits ir) ([]:List AV)&&true)) then some (0,(map d131 l2),(map d110 ([]:List AV))) else none:Option (Int×(List (l1×aj))×aG)).bind λ XO=>bif (decide (((l2).length)=(map n131 XO.2.1).length)&&(decide (0=(map n110 XO.2.2).length)&&true)) then some XO else none).bind λ x23=>(ao (zN N a0) N x23).bind λ o22=>(bif (mI o22.1&&(nH o22.2&&true)) then some ((jH o22.1),(j8 o22.2)) else none)))):=by kernel_rfl
abbrev oW:aF:=aO
abbrev d59 (v:AV):List Int:=aF.bW oW v
abbrev n59 (x:List Int):AV:=aF.enc oW x
abbrev mQ (l:List ah):=map n59 l
abbrev F59 (l:List ah):=allFit (fits oW) (map n59 l)
abbrev XS (l:List ah):=map d59 (map n59 l)
def gH (l:List ah):allFit (fits oW) (map n59 l)=true:=cA (p:=oW) rfl l
def gJ (l:List ah):map d59 (map n59 l)=l:=eO (p:=oW) rfl l
def alx (x:List Int):fits oW (n59 x)=true:=(aF.bt oW x rfl).1
def aly (x:List Int):d59 (n59 x)=x:=(aF.bt oW x rfl).2
def o75:List RF:=[⟨true,[.RE (.agg (.cons aO (.cons dR .nil))),.RE (.bD .qn)]⟩,⟨true,[.RE (.agg (.cons aO (.cons dR .nil))),.ep (.ci (.cons aO .nil))]⟩]
def c27:List (Nat×dF):=[(58,.loop [] ⟨(pl [pI,.bD (.eK 1 0 0 1 0),aO]),[4],[],[],[.rw,.bO 1 3],[]⟩ [(.ex 0,⟨(pl [.bD (.eK 1 0 0 1 0),aO]),[],[],[],[.rw,.bO 1 3],[]⟩)]),
 (122,.loop [] ⟨(pl [.bD (.tP 0 0 1 1 1),pI,.bD (.eK 1 0 0 1 0),aO]),[3,5],[],[],[.rw,.bO 1 3],[]⟩ [(.ex 2,⟨(pl [.bD (.tP 0 0 1 1 1),.bD (.eK 1 0 0 1 0),aO]),[3],[],[],[.rw,.bO 1 3],[]⟩)])]
def ag2:List (Nat×dF):=[(1682,.loop [] ⟨(pl [pI,.bD (.eK 1 0 0 1 0),aO]),[8],[],[],[.rw,.bO 1 3],[]⟩ [(.ex 2,⟨(pl [.bD (.eK 1 0 0 1 0),aO]),[],[],[],[.rw,.bO 1 3],[]⟩)]),
 (13458,.join [(.norm,⟨(pl [.bD (.eK 1 0 0 1 0),aO]),[],[],[],[.rw,.bO 1 3],[]⟩)])]
def ag3:List (Nat×dF):=[(31306,.loop [(.slot 3,1,3),(.slot 6,1,3)] ⟨(pl [.own 2 1 (.int .i64),.own 3 1 (.int .i64),pI,.bD (.eK 1 0 0 1 0),aO]),[3,6,7],[],[],[.rw,.bO 1 3,.tok 0 1 3,.tok 1 1 3],[]⟩ [(.ex 2,⟨(pl [.own 2 1 (.int .i64),.own 3 1 (.int .i64),.bD (.eK 1 0 0 1 0),aO]),[3,6],[],[],[.rw,.bO 1 3,.tok 0 1 3,.tok 1 1 3],[]⟩)]),
 (4007204,.loop [] ⟨(pl [.own 2 1 (.int .i64),.own 3 1 (.int .i64),pI,.bD (.eK 1 0 0 1 0),aO]),[3,6,8],[],[],[.rw,.bO 1 3,.tok 0 1 3,.tok 1 1 3],[]⟩ [(.ex 4,⟨(pl [.own 2 1 (.int .i64),.own 3 1 (.int .i64),pI,.bD (.eK 1 0 0 1 0),aO]),[3,6,8],[],[],[.rw,.bO 1 3,.tok 0 1 3,.tok 1 1 3],[]⟩)]),
 (8014413,.join [(.norm,⟨(pl [.own 2 1 (.int .i64),.own 3 1 (.int .i64),.bD (.eK 1 0 0 1 0),aO]),[3,6],[],[],[.rw,.bO 1 3,.tok 0 1 3,.tok 1 1 3],[]⟩)]),
 (32057632,.join [(.norm,⟨(pl [.own 2 1 (.int .i64),.own 3 1 (.int .i64),.bool,.bD (.eK 1 0 0 1 0),aO]),[3,6,41],[],[],[.rw,.bO 1 3,.tok 0 1 3,.tok 1 1 3],[]⟩)])]
def T27 (N:Nat):dx->Option (ah):=(cxG N [] [(27,c27),(72,ag2),(73,ag3)]).fn 1000 27 (.cons cJ .nil) aO
def e27 (N:Nat):bJ:=⟨(.cons cJ .nil),aO,T27 N⟩
def V6 (N:Nat):aK cd 27 (e27 N):=jj.dQ oV
def Oy (x0:ah) (x1:Bool):Option (Unit×ah):=
 bif ((x1&&x1)&&(F3 x0&&true)) then some ((),(K3 x0)) else none
def E6 (N:Nat) (a0:aP×aG) (v1:Int×Unit×ah):Option ((Int×Unit×ah)⊕((Unit×ah))):=
 let l1:=(L3 v1.2.2); let l4:=((l1).length+1); let l3:=((l1).length); let l2:=(l1++[(aI v1.1)]); (bif (decide (v1.1 < (((xR a0.1).length:Nat):Int))) then bif (decide (l3=(l1).length)&&decide (0=0)&&decide (l3=l3)&&decide (l4*8<=140737488355328)) then (((bif ((aaN l4 (l2).length&&aaN l4 (l2).length)&&(allFit (fits p3) l2&&true)) then some ((wrap .i64 (v1.1+1)),(),(map d3 l2)) else none).bind λ w2=>some w2).bind λ u3=>some (aaL u3)) else none else (((Oy v1.2.2 (aaN l3 (l1).length)).bind λ w4=>some w4).bind λ u5=>some (aag u5)))
def aaM (x0:List AV) (x1:Bool):Option (Unit×ah):=
 bif ((x1&&x1)&&(allFit (fits p3) x0&&true)) then some ((),(map d3 x0)) else none
def Oz (x0:Int) (x1:ah) (x2:Bool):Option (Int×Unit×ah):=
 bif ((x2&&x2)&&(F3 x1&&true)) then some (x0,(),(K3 x1)) else none
def lF (N:Nat) (a0:aP×aG) (v8:Unit×Int×Unit×ah) (v9:Int×Unit×ah):Option ((Int×Unit×ah)⊕((Unit×ah))):=
 let l5:=(d79 (an (V2 a0.2) (toNat v8.2.1))); let l3:=(0+toNat v9.1); let l1:=(L3 v9.2.2); let l4:=((l1).length); let l6:=(Oy v9.2.2 (aaN l4 (l1).length)); let l2:=(aC l1 l3 (aI (d3 (an (L3 v8.2.2.2) (0+toNat l5.2.2.1))))); (bif (decide (v9.1 < ((l4:Nat):Int))) then ((bif decide ((0:Int)<=v9.1/\v9.1 < ((l4:Nat):Int)) then bif (decide (l4=(l1).length)&&decide (l3 < (l1).length)&&fits p3 (an l1 l3)) then (bif ((d3 (an l1 l3)) == (d3 (an (L3 v8.2.2.2) (0+toNat l5.1)))) then bif decide ((0:Int)<=v9.1/\v9.1 < ((l4:Nat):Int)) then bif (decide (l4=(l1).length)&&decide (l3 < (l1).length)) then ((aaM l2 (aaN l4 (l2).length)).bind λ w10=>some w10) else none else none else (l6.bind λ ZC=>some ZC)) else none else none:Option ((Unit×ah))).bind λ Z4=>(((Oz (wrap .i64 (v9.1+1)) Z4.2 (aaN (L3 Z4.2).length (L3 Z4.2).length)).bind λ ZE=>some ZE).bind λ u14=>some (aaL u14))) else ((l6.bind λ Z5=>some Z5).bind λ u16=>some (aag u16)))
def vX (N:Nat) (a0:aP×aG) (v8:Unit×Int×Unit×ah):Option ((Unit×Int×Unit×ah)⊕((Unit×Unit×ah))):=
 let l6:=(V2 a0.2); let l2:=(L3 v8.2.2.2); let l5:=((l2).length); let l1:=(an l6 (toNat v8.2.1)); let l7:=(0+toNat (d79 l1).2.2.1); let l3:=(decide ((0:Int)<=v8.2.1/\v8.2.1 < ((l6).length:Int))&&fits Lv l1); (bif (decide (v8.2.1 < (((l6).length:Nat):Int))) then bif l3 then bif decide ((0:Int)<=(d79 l1).1/\(d79 l1).1 < ((l5:Nat):Int)) then bif (decide (l5=(l2).length)&&decide ((0+toNat (d79 l1).1) < (l2).length)&&fits p3 (an l2 (0+toNat (d79 l1).1))) then bif l3 then bif decide ((0:Int)<=(d79 l1).2.2.1/\(d79 l1).2.2.1 < ((l5:Nat):Int)) then bif (decide (l5=(l2).length)&&decide (l7 < (l2).length)&&fits p3 (an l2 l7)) then (((Oz 0 v8.2.2.2 (aaN l5 (l2).length)).bind λ Oq=>some Oq).bind λ x21=>(ao (lF N a0 v8) N x21).bind λ On=>let l4:=(L3 On.2); (((bif ((aaN ((l4).length) (l4).length&&aaN ((l4).length) (l4).length)&&(allFit (fits p3) l4&&true)) then some ((),(wrap .i64 (v8.2.1+1)),(),(map d3 l4)) else none).bind λ w19=>some w19).bind λ u20=>some (aaL u20))) else none else none else none else none else none else none else (((bif ((aaN l5 (l2).length&&aaN l5 (l2).length)&&(allFit (fits p3) l2&&true)) then some ((),(),(map d3 l2)) else none).bind λ VI=>some VI).bind λ u23=>some (aag u23)))
def V7 (x0:ah) (x1:ah) (x2:Bool) (x3:ah) (x4:Bool):Option (ah×ah×Bool×Unit×ah):=
 bif (F3 x0&&(F3 x1&&((x4&&x4)&&(F3 x3&&true)))) then some ((K3 x0),(K3 x1),x2,(),(K3 x3)) else none
def I3 (x0:ah) (x1:ah) (x2:Int) (x3:ah) (x4:Bool):Option Le:=
 bif (F3 x0&&(F3 x1&&((x4&&x4)&&(F3 x3&&true)))) then some ((K3 x0),(K3 x1),x2,(),(K3 x3)) else none
def iC (N:Nat) (v26:ah×ah×Int×Unit×ah) (sG:ah×ah×Int×Unit×ah):Option (Le⊕(Le)):=
 let l6:=(L3 sG.2.1).length; let l4:=(0+toNat v26.2.2.1); let l3:=(L3 sG.1); let l8:=(an l3 (toNat sG.2.2.1)); let l1:=(L3 sG.2.2.2.2); let l5:=(aaN ((l1).length) (l1).length); (((bif (decide (sG.2.2.1 < (((l3).length:Nat):Int))) then bif (decide ((0:Int)<=sG.2.2.1/\sG.2.2.1 < ((l3).length:Int))&&fits p3 l8) then bif decide ((0:Int)<=v26.2.2.1/\v26.2.2.1 < ((((l1).length):Nat):Int)) then bif (decide (((l1).length)=(l1).length)&&decide (l4 < (l1).length)&&fits p3 (an l1 l4)) then ((V7 sG.1 sG.2.1 ((d3 l8) != (d3 (an l1 l4))) sG.2.2.2.2 l5).bind λ Tk=>bif (decide (((l3).length)=(map n3 Tk.1).length)&&(decide (l6=(map n3 Tk.2.1).length)&&true)) then some Tk else none) else none else none else none else ((V7 sG.1 sG.2.1 false sG.2.2.2.2 l5).bind λ Tl=>bif (decide (((l3).length)=(map n3 Tl.1).length)&&(decide (l6=(map n3 Tl.2.1).length)&&true)) then some Tl else none)):Option ((ah×ah×Bool×Unit×ah))).bind λ tC=>let l9:=(L3 tC.1).length; let l7:=(L3 tC.2.1).length; let l2:=(aaN (L3 tC.2.2.2.2).length (L3 tC.2.2.2.2).length); (bif tC.2.2.1 then (((I3 tC.1 tC.2.1 (wrap .i64 (sG.2.2.1+1)) tC.2.2.2.2 l2).bind λ Tm=>bif (decide (l9=(map n3 Tm.1).length)&&(decide (l7=(map n3 Tm.2.1).length)&&true)) then some Tm else none).bind λ u32=>some (aaL u32)) else (((I3 tC.1 tC.2.1 sG.2.2.1 tC.2.2.2.2 l2).bind λ w33=>bif (decide (l9=(map n3 w33.1).length)&&(decide (l7=(map n3 w33.2.1).length)&&true)) then some w33 else none).bind λ u34=>some (aag u34))))
def aaO (x0:List AV) (x1:ah) (x2:ah) (x3:Bool):Option (ah×ah×Unit×ah):=
 bif (allFit (fits p3) x0&&(F3 x1&&((x3&&x3)&&(F3 x2&&true)))) then some ((map d3 x0),(K3 x1),(),(K3 x2)) else none
def V8 (x0:ah) (x1:ah) (x2:ah) (x3:Bool):Option (ah×ah×Unit×ah):=
 bif (F3 x0&&(F3 x1&&((x3&&x3)&&(F3 x2&&true)))) then some ((K3 x0),(K3 x1),(),(K3 x2)) else none
def iZ (N:Nat) (v26:ah×ah×Int×Unit×ah):Option (Le⊕((ah×ah×Unit×ah))):=
 let eu:=(L3 v26.1).length; let cW:=(L3 v26.2.1).length; let l6:=(0+toNat v26.2.2.1); let l3:=(L3 v26.2.2.2.2); let dV:=(aaN (l3.length) l3.length); (bif (decide (v26.2.2.1 < (((l3.length):Nat):Int))) then (((I3 v26.1 v26.2.1 0 v26.2.2.2.2 dV).bind λ w35=>bif (decide (eu=(map n3 w35.1).length)&&(decide (cW=(map n3 w35.2.1).length)&&true)) then some w35 else none).bind λ x42=>(ao (iC N v26) N x42).bind λ Mt=>let cX:=(L3 Mt.2.1).length; let l4:=(L3 Mt.1); let l1:=(L3 Mt.2.2.2.2); let l7:=(aaN ((l1).length) (l1).length); (((bif (Mt.2.2.1 == (((l4).length:Nat):Int)) then bif decide ((0:Int)<=v26.2.2.1/\v26.2.2.1 < ((((l1).length):Nat):Int)) then bif (decide (((l1).length)=(l1).length)&&decide (l6 < (l1).length)&&fits p3 (an l1 l6)) then bif (decide (((l4).length)=(l4).length)&&decide (((l4).length+1)*8<=140737488355328)) then ((aaO (l4++[(aI (d3 (an l1 l6)))]) Mt.2.1 Mt.2.2.2.2 l7).bind λ RW=>bif (decide ((((l4).length)+1)=(map n3 RW.1).length)&&(decide (cX=(map n3 RW.2.1).length)&&true)) then some RW else none) else none else none else none else ((V8 Mt.1 Mt.2.1 Mt.2.2.2.2 l7).bind λ Lj=>bif (decide (((l4).length)=(map n3 Lj.1).length)&&(decide (cX=(map n3 Lj.2.1).length)&&true)) then some Lj else none)):Option ((ah×ah×Unit×ah))).bind λ Ms=>let l8:=(L3 Ms.1); let l5:=(L3 Ms.2.1); let l9:=(l5++[(aI Mt.2.2.1)]); let l2:=(L3 Ms.2.2.2); bif (decide (((l5).length)=(l5).length)&&decide (((l5).length+1)*8<=140737488355328)) then (((bif (allFit (fits p3) l8&&(allFit (fits p3) l9&&((aaN ((l2).length) (l2).length&&aaN ((l2).length) (l2).length)&&(allFit (fits p3) l2&&true)))) then some ((map d3 l8),(map d3 l9),(wrap .i64 (v26.2.2.1+1)),(),(map d3 l2)) else none).bind λ XJ=>bif (decide (((l8).length)=(map n3 XJ.1).length)&&(decide ((((l5).length)+1)=(map n3 XJ.2.1).length)&&true)) then some XJ else none).bind λ u41=>some (aaL u41)) else none)) else (((V8 v26.1 v26.2.1 v26.2.2.2.2 dV).bind λ R5=>bif (decide (eu=(map n3 R5.1).length)&&(decide (cW=(map n3 R5.2.1).length)&&true)) then some R5 else none).bind λ u44=>some (aag u44)))
def ag4 (N:Nat) (a0:aP×aG):T27 N a0 =
 (let l5:=(fits p3); let l4:=(map d3 ([]:List AV)); (((bif ((aaN 0 (([]:List AV)).length&&aaN 0 (([]:List AV)).length)&&(allFit l5 ([]:List AV)&&true)) then some (0,(),l4) else none:Option (Int×Unit×ah)).bind λ w6=>some w6).bind λ x49=>(ao (E6 N a0) N x49).bind λ o7=>let l3:=(L3 o7.2); (((bif ((aaN ((l3).length) (l3).length&&aaN ((l3).length) (l3).length)&&(allFit l5 l3&&true)) then some ((),0,(),(map d3 l3)) else none:Option (Unit×Int×Unit×ah)).bind λ w24=>some w24).bind λ x48=>(ao (vX N a0) N x48).bind λ o25=>let l2:=(L3 o25.2.2); (((bif (allFit l5 ([]:List AV)&&(allFit l5 ([]:List AV)&&((aaN ((l2).length) (l2).length&&aaN ((l2).length) (l2).length)&&(allFit l5 l2&&true)))) then some (l4,l4,0,(),(map d3 l2)) else none:Option Le).bind λ w45=>bif (decide (0=(map n3 w45.1).length)&&(decide (0=(map n3 w45.2.1).length)&&true)) then some w45 else none).bind λ x47=>(ao (iZ N) N x47).bind λ o46=>let l1:=(([]:List AV)++[(AV.list .bV 1 (L3 o46.2.1))]); let l6:=(L3 (d59 (an l1 (toNat 0)))); bif (decide ((0:Int)<=0/\0 < ((l1).length:Int))&&fits oW (an l1 (toNat 0))) then (bif allFit l5 l6 then some (map d3 l6) else none) else none)))):=by kernel_rfl
def c26:List (Nat×dF):=[(58,.loop [] ⟨(.ci .nil),[5],[],[],[],[]⟩ [(.ret,⟨(.cons .bool .nil),[4],[],[],[],[]⟩),(.ex 0,⟨.nil,[],[],[],[],[]⟩)])]
def T26 (N:Nat):ah×ah->Option Bool:=(cxG N [] [(26,c26)]).fn 1000 26 (.cons aO (.cons aO .nil)) .bool
def e26 (N:Nat):bJ:=⟨(.cons aO (.cons aO .nil)),.bool,T26 N⟩
def ag5 (N:Nat):aK cd 26 (e26 N):=jj.dQ oV
def E7 (N:Nat) (a0:List Int) (a1:List Int) (v1:Int):Option (Int⊕(Bool⊕Unit)):=
 let l2:=(an (L3 a1) (toNat v1)); let l1:=(L3 a0); (bif (decide (v1 < (((l1).length:Nat):Int))) then bif (decide ((0:Int)<=v1/\v1 < ((l1).length:Int))&&fits p3 (an l1 (toNat v1))) then bif (decide ((0:Int)<=v1/\v1 < ((L3 a1).length:Int))&&fits p3 l2) then (bif ((d3 (an l1 (toNat v1))) != (d3 l2)) then (some (aag (aaL false))) else (some (aaL (wrap .i64 (v1+1))))) else none else none else (some (aag (aag ()))))
def ag6 (N:Nat) (a0:List Int) (a1:List Int):T26 N (a0,a1) =
 (bif ((((L3 a0).length:Nat):Int) != (((L3 a1).length:Nat):Int)) then some false else ((ao (E7 N a0 a1) N 0).bind λ o6=>(ab6 (λ o7=>some o7) (λ o8=>some true) o6))):=by kernel_rfl
abbrev ft:aF:=(.gW 0 1)
abbrev cY (v:AV):Nat×Nat:=aF.bW ft v
abbrev fV (x:Nat×Nat):AV:=aF.enc ft x
abbrev fM (l:List (Nat×Nat)):=map fV l
abbrev rq (l:List (Nat×Nat)):=allFit (fits ft) (map fV l)
abbrev pW (l:List (Nat×Nat)):=map cY (map fV l)
def dY (l:List (Nat×Nat)):allFit (fits ft) (map fV l)=true:=cA (p:=ft) rfl l
def dZ (l:List (Nat×Nat)):map cY (map fV l)=l:=eO (p:=ft) rfl l
def aaP (x:Nat×Nat):fits ft (fV x)=true:=(aF.bt ft x rfl).1
def aaQ (x:Nat×Nat):cY (fV x)=x:=(aF.bt ft x rfl).2
def c66:List (Nat×dF):=[(6,.loop [] ⟨(pl [.bool,pI,pI,pI,pI]),[2],[],[(4,2),(6,2)],[],[]⟩ [(.ret,⟨(pl [.bool,pI,pI,pI,pI]),[7],[],[(4,2),(6,2)],[],[]⟩)]),
 (197,.join [(.norm,⟨(pl [pI,pI]),[],[],[(4,2)],[],[]⟩)])]
def T66 (N:Nat):dx×cj×Bool->Option (cj×Bool):=(cx N [(113,alw N)] [(66,c66)]).fn 1000 66 (.cons cJ (.cons bI (.cons .bool .nil))) (.cD (.cons bI (.cons .bool .nil)))
def e66 (N:Nat):bJ:=⟨(.cons cJ (.cons bI (.cons .bool .nil))),(.cD (.cons bI (.cons .bool .nil))),T66 N⟩
def c15:List (Nat×dF):=[(250,.loop [(.slot 5,1,49)] ⟨(pl [.own 1 1 aR,pI,bF]),[5,6],[],[],[.map,.tok 0 1 49],[]⟩ [(.ex 0,⟨(pl [.own 1 1 aR,bF]),[5],[],[],[.map,.tok 0 1 49],[]⟩)]),
 (2002,.join [(.norm,⟨(pl [.own 1 1 aR,bF]),[5],[],[],[.map,.tok 0 1 49],[]⟩)]),
 (128156,.loop [(.slot 7,2,77)] ⟨(pl [.own 1 1 aR,.own 2 2 bI,.bool,pI,pI,bF]),[5,7,9],[],[(8,2)],[.map,.tok 0 1 49,.tok 1 2 77],[]⟩ [(.ex 2,⟨(pl [.own 1 1 aR,.own 2 2 bI,pI,pI,bF]),[5,7],[],[(8,2)],[.map,.tok 0 1 49,.tok 1 2 77],[]⟩)])]
def T15 (N:Nat):dx->Option ((List aj)):=(cx N [(65,e65 N),(66,e66 N)] [(15,c15)]).fn 1000 15 (.cons cJ .nil) (.list 1 aR)
def e15 (N:Nat):bJ:=⟨(.cons cJ .nil),(.list 1 aR),T15 N⟩
def T39 (N:Nat):dx×cj->Option (cj):=(cx N [] []).fn 1000 39 (.cons cJ (.cons bI .nil)) bI
def e39 (N:Nat):bJ:=⟨(.cons cJ (.cons bI .nil)),bI,T39 N⟩
def ag8 (N:Nat):aK cd 39 (e39 N):=jj.dQ oV
def ag9 (N:Nat) (a0:aP×aG) (a1:Int×Int):T39 N (a0,a1) =
 some (a1.1,a1.2):=by kernel_rfl
def T40 (N:Nat):dx×cj->Option (cj):=(cx N [] []).fn 1000 40 (.cons cJ (.cons bI .nil)) bI
def e40 (N:Nat):bJ:=⟨(.cons cJ (.cons bI .nil)),bI,T40 N⟩
def V9 (N:Nat):aK cd 40 (e40 N):=jj.dQ oV
def aha (N:Nat) (a0:aP×aG) (a1:Int×Int):T40 N (a0,a1) =
 (let l1:=(an (xR a0.1) (toNat a1.1)); bif (decide ((0:Int)<=a1.1/\a1.1 < ((xR a0.1).length:Int))&&fits B5 l1) then bif !(decide (((((Tq (d92 l1).2)).length:Nat):Int)=0)) then some (a1.1,(Int.tmod (wrap .i64 (a1.2+1)) ((((Tq (d92 l1).2)).length:Nat):Int))) else none else none):=by kernel_rfl
def c25:List (Nat×dF):=[(58,.loop [] ⟨(pl [.bD (.eK 1 0 0 1 0),pI,dR,.list 1 (.gW 0 1)]),[3,4],[],[],[.jv 1 3,.bO 1 59],[]⟩ [(.ex 0,⟨(pl [.bD (.eK 1 0 0 1 0),dR,.list 1 (.gW 0 1)]),[3],[],[],[.jv 1 3,.bO 1 59],[]⟩)]),
 (122,.loop [] ⟨(pl [.bD (.eK 1 0 0 1 0),pI,dR,.list 1 (.gW 0 1)]),[3,7],[],[],[.jv 1 3,.bO 1 59],[]⟩ [(.ex 4,⟨(pl [.bD (.eK 1 0 0 1 0),dR,.list 1 (.gW 0 1)]),[3],[],[],[.jv 1 3,.bO 1 59],[]⟩)]),
 (14922,.loop [] ⟨(pl [.bD (.eK 2 0 0 1 0),pI,dR,.list 1 (.gW 0 1),aO]),[5,6],[],[],[.jv 1 3,.bO 1 59,.bO 1 3],[]⟩ [(.ex 2,⟨(pl [.bD (.eK 2 0 0 1 0),dR,.list 1 (.gW 0 1),aO]),[5],[],[],[.jv 1 3,.bO 1 59,.bO 1 3],[]⟩)]),
 (31309,.join [(.norm,⟨(pl [pI,pI,pI,pI,dR,.list 1 (.gW 0 1)]),[],[],[(11,2),(12,2)],[.jv 1 3,.bO 1 59],[]⟩)])]
def ahb:List (Nat×dF):=[(26,.loop [] ⟨(pl [pI,dR,.list 1 (.gW 0 1)]),[7],[],[],[.jv 1 3,.bO 1 59],[]⟩ [(.ex 0,⟨(pl [dR,.list 1 (.gW 0 1)]),[],[],[],[.jv 1 3,.bO 1 59],[]⟩)]),
 (1682,.loop [] ⟨(pl [pI,dR,.list 1 (.gW 0 1)]),[8],[],[],[.jv 1 3,.bO 1 59],[]⟩ [(.ex 2,⟨(pl [dR,.list 1 (.gW 0 1)]),[],[],[],[.jv 1 3,.bO 1 59],[]⟩)]),
 (13458,.join [(.norm,⟨(pl [dR,.list 1 (.gW 0 1)]),[],[],[],[.jv 1 3,.bO 1 59],[]⟩)])]
def ahc:List (Nat×dF):=[(122,.loop [(.slot 3,1,3),(.slot 4,1,59)] ⟨(pl [.own 2 1 (.int .i64),.own 3 1 aO,pI,dR,.list 1 (.gW 0 1)]),[3,4,5],[],[],[.jv 1 3,.bO 1 59,.tok 0 1 3,.tok 1 1 59],[]⟩ [(.ex 0,⟨(pl [.own 3 1 aO,dR,.list 1 (.gW 0 1)]),[4],[],[],[.jv 1 3,.bO 1 59,.dead,.tok 0 1 59],[]⟩)]),
 (31306,.loop [(.slot 6,1,3)] ⟨(pl [.own 2 1 (.int .i64),.own 3 1 aO,.own 4 1 (.int .i64),pI,dR,.list 1 (.gW 0 1)]),[3,4,6,7],[],[],[.jv 1 3,.bO 1 59,.tok 0 1 3,.tok 1 1 59,.tok 2 1 3],[]⟩ [(.ex 2,⟨(pl [.own 2 1 (.int .i64),.own 3 1 aO,.own 4 1 (.int .i64),dR,.list 1 (.gW 0 1)]),[3,4,6],[],[],[.jv 1 3,.bO 1 59,.tok 0 1 3,.tok 1 1 59,.tok 2 1 3],[]⟩)]),
 (4007204,.loop [] ⟨(pl [.own 2 1 (.int .i64),.own 3 1 aO,.own 4 1 (.int .i64),pI,dR,.list 1 (.gW 0 1)]),[3,4,6,8],[],[],[.jv 1 3,.bO 1 59,.tok 0 1 3,.tok 1 1 59,.tok 2 1 3],[]⟩ [(.ex 4,⟨(pl [.own 2 1 (.int .i64),.own 3 1 aO,.own 4 1 (.int .i64),pI,dR,.list 1 (.gW 0 1)]),[3,4,6,8],[],[],[.jv 1 3,.bO 1 59,.tok 0 1 3,.tok 1 1 59,.tok 2 1 3],[]⟩)]),
 (8014413,.join [(.norm,⟨(pl [.own 2 1 (.int .i64),.own 3 1 aO,.own 4 1 (.int .i64),dR,.list 1 (.gW 0 1)]),[3,4,6],[],[],[.jv 1 3,.bO 1 59,.tok 0 1 3,.tok 1 1 59,.tok 2 1 3],[]⟩)]),
 (32057632,.join [(.norm,⟨(pl [.own 2 1 (.int .i64),.own 3 1 aO,.own 4 1 (.int .i64),.bool,dR,.list 1 (.gW 0 1)]),[3,4,6,41],[],[],[.jv 1 3,.bO 1 59,.tok 0 1 3,.tok 1 1 59,.tok 2 1 3],[]⟩)])]
def T25 (N:Nat):dx->Option (bz):=(cx N [(39,e39 N),(40,e40 N)] [(25,c25),(72,ahb),(73,ahc)]).fn 1000 25 (.cons cJ .nil) dR
def e25 (N:Nat):bJ:=⟨(.cons cJ .nil),dR,T25 N⟩
def Wa (N:Nat):aK cd 25 (e25 N):=jj.dQ (jw (ag8 N) (jw (V9 N) oV))
def Sj (x0:Int) (x1:List AV) (x2:dm) (x3:List AV) (x4:Bool):Option (Unit×Int×bz×dm×ah):=
 bif ((x4&&x4)&&(allFit (fits oW) x1&&(rq x2&&(allFit (fits p3) x3&&true)))) then some ((),x0,(map d59 x1),(pW x2),(map d3 x3)) else none
def sh (N:Nat) (a0:aP×aG) (v1:Unit×Int×bz×dm) (v2:Unit×Int×bz×dm×ah):Option ((Unit×Int×bz×dm×ah)⊕((Unit×bz×dm×ah))):=
 let l6:=(fM v2.2.2.2.1); let l4:=(an (xR a0.1) (toNat v1.2.1)); let l2:=(bR (mQ v2.2.2.1)); let l1:=(L3 v2.2.2.2.2); let l5:=((l1).length); let l3:=(l1++[(aI (wrap .i64 ((wrap .i64 (v1.2.1*8))+v2.2.1)))]); bif (decide ((0:Int)<=v1.2.1/\v1.2.1 < ((xR a0.1).length:Int))&&fits B5 l4) then (bif (decide (v2.2.1 < ((((Tq (d92 l4).2)).length:Nat):Int))) then bif (decide (l5=(l1).length)&&decide (0=0)&&decide (l5=l5)&&decide (((l1).length+1)*8<=140737488355328)) then (((Sj (wrap .i64 (v2.2.1+1)) (fC 1 l2) v2.2.2.2.1 l3 (aaN ((l1).length+1) (l3).length)).bind λ w3=>bif (dP l2&&true) then some w3 else none).bind λ u4=>some (aaL u4)) else none else (((bif ((aaN l5 (l1).length&&aaN l5 (l1).length)&&(allFit (fits oW) (fC 1 l2)&&(allFit (fits ft) l6&&(allFit (fits p3) l1&&true)))) then some ((),(map d59 (fC 1 l2)),(map cY l6),(map d3 l1)) else none).bind λ w5=>bif (dP l2&&true) then some w5 else none).bind λ u6=>some (aag u6))) else none
def ahd (x0:Int) (x1:List AV) (x2:List AV) (x3:Bool):Option Lf:=
 bif ((x3&&x3)&&(allFit (fits oW) x1&&(allFit (fits ft) x2&&true))) then some ((),x0,(map d59 x1),(map cY x2)) else none
def OA (x0:List AV) (x1:dm) (x2:Bool):Option Hg:=
 bif ((x2&&x2)&&(allFit (fits oW) x0&&(rq x1&&true))) then some ((),(map d59 x0),(pW x1)) else none
def E8 (N:Nat) (a0:aP×aG) (v1:Unit×Int×bz×dm):Option (Lf⊕(Hg)):=
 let l7:=(fM v1.2.2.2); let l4:=(bR (mQ v1.2.2.1)); let l2:=(l7.length); (bif (decide (v1.2.1 < (((xR a0.1).length:Nat):Int))) then (((Sj 0 (fC 1 l4) v1.2.2.2 ([]:List AV) (aaN 0 (([]:List AV)).length)).bind λ w7=>bif (dP l4&&true) then some w7 else none).bind λ KT=>(ao (sh N a0 v1) N KT).bind λ o8=>let l6:=(bR (mQ o8.2.1)); let l5:=(fM o8.2.2.1); let l1:=(L3 o8.2.2.2); let l3:=(l5++[(AV.gW 0 ((l6).length) 1 ((l1).length))]); bif (decide (((l1).length)=(l1).length)&&decide (((l1).length)=(l1).length)&&aZ l1) then bif (decide (l2=(l5).length)&&decide (0=0)&&decide (l2=l2)&&decide (((l5).length+1)*24<=140737488355328)) then (((ahd (wrap .i64 (v1.2.1+1)) (fC 1 (l6++[l1])) l3 (aaN ((l5).length+1) (l3).length)).bind λ w9=>bif (dP (l6++[l1])&&true) then some w9 else none).bind λ ZB=>some (aaL ZB)) else none else none) else (((OA (fC 1 l4) v1.2.2.2 (aaN l2 l7.length)).bind λ Of=>bif (dP l4&&true) then some Of else none).bind λ u13=>some (aag u13)))
def rC (x0:Int) (x1:List AV) (x2:dm):Option (Int×bz×dm):=
 bif (allFit (fits oW) x1&&(rq x2&&true)) then some (x0,(map d59 x1),(pW x2)) else none
def ug (x0:List AV) (x1:dm):Option (bz×dm):=
 bif (allFit (fits oW) x0&&(rq x1&&true)) then some ((map d59 x0),(pW x1)) else none
def lG (N:Nat) (oh:Unit×Int×bz×dm) (yk:cj) (lC:He) (v28:Int×bz×dm) (Tr:Int×bz×dm):Option PV:=
 let cX:=(fM lC.2.2.2.2.2); let cW:=(bR (mQ lC.2.2.2.2.1)); let l8:=(fM Tr.2.2); let l7:=(toNat Tr.1); let l6:=(fM oh.2.2.2).length; let l2:=(bR (mQ Tr.2.1)); let l1:=(an l8 (0+toNat v28.1)); let l9:=(cY l1); let l5:=(rowOf l2 l9.1); let l4:=(aC l2 l9.1 (aC l5 l7 (aI (d3 (an (rowOf cW (cY (an cX (0+toNat lC.1))).1) (toNat lC.2.1)))))); let l3:=(decide (l6=(l8).length)&&decide ((0+toNat v28.1) < (l8).length)&&fits ft l1); bif decide ((0:Int)<=v28.1/\v28.1 < ((l6:Nat):Int)) then bif l3 then (bif (decide (Tr.1 < ((l9.2:Nat):Int))) then ((bif decide ((0:Int)<=v28.1/\v28.1 < ((l6:Nat):Int)) then bif l3 then bif decide ((0:Int)<=Tr.1/\Tr.1 < ((l9.2:Nat):Int)) then bif (decide (l9.2=(l5).length)&&decide (l7 < (l5).length)&&fits p3 (an l5 l7)) then (bif ((d3 (an l5 l7)) == (d3 (an (rowOf cW (cY (an cX (0+toNat yk.1))).1) (toNat yk.2)))) then bif decide ((0:Int)<=v28.1/\v28.1 < ((l6:Nat):Int)) then bif l3 then bif decide ((0:Int)<=Tr.1/\Tr.1 < ((l9.2:Nat):Int)) then bif (decide (l9.2=(l5).length)&&decide (l7 < (l5).length)&&true) then ((ug (fC 1 l4) Tr.2.2).bind λ ZK=>bif (dP l4&&true) then some ZK else none) else none else none else none else none else ((ug (fC 1 l2) Tr.2.2).bind λ Tm=>bif (dP l2&&true) then some Tm else none)) else none else none else none else none:Option ((bz×dm))).bind λ R6=>let dV:=(bR (mQ R6.1)); (((rC (wrap .i64 (Tr.1+1)) (fC 1 dV) R6.2).bind λ w33=>bif (dP dV&&true) then some w33 else none).bind λ u34=>some (aaL u34))) else (((ug (fC 1 l2) Tr.2.2).bind λ w35=>bif (dP l2&&true) then some w35 else none).bind λ u36=>some (aag u36))) else none else none
def sj (N:Nat) (oh:Unit×Int×bz×dm) (yk:cj) (lC:He) (v28:Int×bz×dm):Option PV:=
 let l1:=(bR (mQ v28.2.1)); (bif (decide (v28.1 < (((fM oh.2.2.2).length:Nat):Int))) then (((rC 0 (fC 1 l1) v28.2.2).bind λ RW=>bif (dP l1&&true) then some RW else none).bind λ x41=>(ao (lG N oh yk lC v28) N x41).bind λ o38=>let l2:=(bR (mQ o38.1)); (((rC (wrap .i64 (v28.1+1)) (fC 1 l2) o38.2).bind λ w39=>bif (dP l2&&true) then some w39 else none).bind λ u40=>some (aaL u40))) else (((ug (fC 1 l1) v28.2.2).bind λ w42=>bif (dP l1&&true) then some w42 else none).bind λ u43=>some (aag u43)))
def j9 (N:Nat) (oh:Unit×Int×bz×dm) (As:cj) (lC:He) (vh:(bz×dm)) (v46:Int×bz×dm) (Ts:Int×bz×dm):Option PV:=
 let cW:=(bR (mQ vh.1)); let l8:=(fM Ts.2.2); let l7:=(toNat Ts.1); let l6:=(fM oh.2.2.2).length; let l2:=(bR (mQ Ts.2.1)); let l1:=(an l8 (0+toNat v46.1)); let l9:=(cY l1); let l5:=(rowOf l2 l9.1); let l4:=(aC l2 l9.1 (aC l5 l7 (aI (d3 (an (rowOf cW (cY (an (fM vh.2) (0+toNat lC.2.2.1))).1) (toNat lC.2.2.2.1)))))); let l3:=(decide (l6=(l8).length)&&decide ((0+toNat v46.1) < (l8).length)&&fits ft l1); bif decide ((0:Int)<=v46.1/\v46.1 < ((l6:Nat):Int)) then bif l3 then (bif (decide (Ts.1 < ((l9.2:Nat):Int))) then ((bif decide ((0:Int)<=v46.1/\v46.1 < ((l6:Nat):Int)) then bif l3 then bif decide ((0:Int)<=Ts.1/\Ts.1 < ((l9.2:Nat):Int)) then bif (decide (l9.2=(l5).length)&&decide (l7 < (l5).length)&&fits p3 (an l5 l7)) then (bif ((d3 (an l5 l7)) == (d3 (an (rowOf cW (cY (an (fM vh.2) (0+toNat As.1))).1) (toNat As.2)))) then bif decide ((0:Int)<=v46.1/\v46.1 < ((l6:Nat):Int)) then bif l3 then bif decide ((0:Int)<=Ts.1/\Ts.1 < ((l9.2:Nat):Int)) then bif (decide (l9.2=(l5).length)&&decide (l7 < (l5).length)&&true) then ((ug (fC 1 l4) Ts.2.2).bind λ w48=>bif (dP l4&&true) then some w48 else none) else none else none else none else none else ((ug (fC 1 l2) Ts.2.2).bind λ w49=>bif (dP l2&&true) then some w49 else none)) else none else none else none else none:Option ((bz×dm))).bind λ o50=>let cX:=(bR (mQ o50.1)); (((rC (wrap .i64 (Ts.1+1)) (fC 1 cX) o50.2).bind λ w51=>bif (dP cX&&true) then some w51 else none).bind λ u52=>some (aaL u52))) else (((ug (fC 1 l2) Ts.2.2).bind λ w53=>bif (dP l2&&true) then some w53 else none).bind λ u54=>some (aag u54))) else none else none
def pX (N:Nat) (oh:Unit×Int×bz×dm) (As:cj) (lC:He) (vh:(bz×dm)) (v46:Int×bz×dm):Option PV:=
 let l1:=(bR (mQ v46.2.1)); (bif (decide (v46.1 < (((fM oh.2.2.2).length:Nat):Int))) then (((rC 0 (fC 1 l1) v46.2.2).bind λ w55=>bif (dP l1&&true) then some w55 else none).bind λ x59=>(ao (j9 N oh As lC vh v46) N x59).bind λ o56=>let l2:=(bR (mQ o56.1)); (((rC (wrap .i64 (v46.1+1)) (fC 1 l2) o56.2).bind λ w57=>bif (dP l2&&true) then some w57 else none).bind λ u58=>some (aaL u58))) else (((ug (fC 1 l1) v46.2.2).bind λ w60=>bif (dP l1&&true) then some w60 else none).bind λ u61=>some (aag u61)))
def Wb (x0:Int) (x1:Int) (x2:Int) (x3:Int) (x4:List AV) (x5:dm):Option He:=
 bif (allFit (fits oW) x4&&(rq x5&&true)) then some (x0,x1,x2,x3,(map d59 x4),(pW x5)) else none
def tK (N:Nat) (a0:aP×aG) (oh:Unit×Int×bz×dm):Option (Lf⊕(Hg)):=
 let Ct:=(fM oh.2.2.2); let fa:=(V2 a0.2); let Cu:=(an fa (toNat oh.2.1)); let cW:=(bR (mQ oh.2.2.1)); let uf:=(dP cW&&true); let l4:=(Ct.length); let l2:=(au (xR a0.1) (xR a0.1)&&(au fa fa&&true)); let l1:=(d79 Cu); let BX:=(Ba a0.1 a0.2 (l1.1) (l1.2.1)); let mu:=(Ba a0.1 a0.2 (l1.2.2.1) (l1.2.2.2.1)); let l6:=((l1.2.2.1 == l1.2.2.1)&&((l1.2.2.2.1 == l1.2.2.2.1)&&true)); (bif (decide (oh.2.1 < (((fa).length:Nat):Int))) then bif (decide ((0:Int)<=oh.2.1/\oh.2.1 < ((fa).length:Int))&&fits Lv Cu) then (BX.bind λ x18=>(T39 N x18).bind λ yk=>let lY:=(0+toNat yk.1); bif (l6&&(l2&&(l6&&(l2&&(((l1.1 == l1.1)&&((l1.2.1 == l1.2.1)&&true))&&(l2&&true)))))) then (BX.bind λ x20=>(T40 N x20).bind λ As=>let rE:=(0+toNat As.1); bif (l6&&(l2&&(l6&&(l2&&true)))) then (mu.bind λ x22=>(T40 N x22).bind λ y21=>bif (l6&&(l2&&true)) then (mu.bind λ x24=>(T39 N x24).bind λ Z6=>(((bif l1.2.2.2.2 then ((Wb Z6.1 Z6.2 y21.1 y21.2 (fC 1 cW) oh.2.2.2).bind λ Z7=>bif uf then some Z7 else none) else ((Wb y21.1 y21.2 Z6.1 Z6.2 (fC 1 cW) oh.2.2.2).bind λ XI=>bif uf then some XI else none)):Option (He)).bind λ lC=>let j1:=lC.2.2; let lN:=(0+toNat lC.1); let hJ:=(0+toNat j1.1); let l7:=(bR (mQ j1.2.2.1)); let l3:=(fM j1.2.2.2); let dV:=(cY (an l3 lN)); let Gj:=(rowOf l7 dV.1); let cX:=(cY (an l3 lY)); let BW:=(rowOf l7 cX.1); bif decide ((0:Int)<=yk.1/\yk.1 < ((l4:Nat):Int)) then bif (decide (l4=(l3).length)&&decide (lY < (l3).length)&&fits ft (an l3 lY)) then bif decide ((0:Int)<=yk.2/\yk.2 < ((cX.2:Nat):Int)) then bif (decide (cX.2=(BW).length)&&decide ((toNat yk.2) < (BW).length)&&fits p3 (an BW (toNat yk.2))) then bif decide ((0:Int)<=lC.1/\lC.1 < ((l4:Nat):Int)) then bif (decide (l4=(l3).length)&&decide (lN < (l3).length)&&fits ft (an l3 lN)) then bif decide ((0:Int)<=lC.2.1/\lC.2.1 < ((dV.2:Nat):Int)) then bif (decide (dV.2=(Gj).length)&&decide ((toNat lC.2.1) < (Gj).length)&&fits p3 (an Gj (toNat lC.2.1))) then (((rC 0 (fC 1 l7) j1.2.2.2).bind λ Tn=>bif (dP l7&&true) then some Tn else none).bind λ x67=>(ao (sj N oh yk lC) N x67).bind λ vh=>let l8:=(bR (mQ vh.1)); let l5:=(fM vh.2); let eu:=(cY (an l5 rE)); let tD:=(rowOf l8 eu.1); let l9:=(cY (an l5 hJ)); bif decide ((0:Int)<=As.1/\As.1 < ((l4:Nat):Int)) then bif (decide (l4=(l5).length)&&decide (rE < (l5).length)&&fits ft (an l5 rE)) then bif decide ((0:Int)<=As.2/\As.2 < ((eu.2:Nat):Int)) then bif (decide (eu.2=(tD).length)&&decide ((toNat As.2) < (tD).length)&&fits p3 (an tD (toNat As.2))) then bif decide ((0:Int)<=j1.1/\j1.1 < ((l4:Nat):Int)) then bif (decide (l4=(l5).length)&&decide (hJ < (l5).length)&&fits ft (an l5 hJ)) then bif decide ((0:Int)<=j1.2.1/\j1.2.1 < ((l9.2:Nat):Int)) then bif (decide (l9.2=((rowOf l8 l9.1)).length)&&decide ((toNat j1.2.1) < ((rowOf l8 l9.1)).length)&&fits p3 (an (rowOf l8 l9.1) (toNat j1.2.1))) then (((rC 0 (fC 1 l8) vh.2).bind λ ZJ=>bif (dP l8&&true) then some ZJ else none).bind λ x66=>(ao (pX N oh As lC vh) N x66).bind λ VJ=>let fZ:=(bR (mQ VJ.1)); let fL:=(fM VJ.2); (((bif ((aaN l4 (fL).length&&aaN l4 (fL).length)&&(allFit (fits oW) (fC 1 fZ)&&(allFit (fits ft) fL&&true))) then some ((),(wrap .i64 (oh.2.1+1)),(map d59 (fC 1 fZ)),(map cY fL)) else none).bind λ Ap=>bif (dP fZ&&true) then some Ap else none).bind λ u65=>some (aaL u65))) else none else none else none else none else none else none else none else none) else none else none else none else none else none else none else none else none)) else none) else none) else none) else none else (((OA (fC 1 cW) oh.2.2.2 (aaN l4 Ct.length)).bind λ w68=>bif uf then some w68 else none).bind λ u69=>some (aag u69)))
def Wc (x0:ah) (x1:bz) (x2:ah) (x3:Bool) (x4:List AV) (x5:dm):Option (ah×bz×ah×Bool×bz×dm):=
 bif (F3 x0&&(F59 x1&&(F3 x2&&(allFit (fits oW) x4&&(rq x5&&true))))) then some ((K3 x0),(XS x1),(K3 x2),x3,(map d59 x4),(pW x5)) else none
def I4 (x0:ah) (x1:bz) (x2:ah) (x3:Int) (x4:List AV) (x5:dm):Option Lb:=
 bif (F3 x0&&(F59 x1&&(F3 x2&&(allFit (fits oW) x4&&(rq x5&&true))))) then some ((K3 x0),(XS x1),(K3 x2),x3,(map d59 x4),(pW x5)) else none
def iD (N:Nat) (Au:Hg) (v72:ah×bz×Int×bz×dm) (E9:ah×bz×ah×Int×bz×dm) (I5:ah×bz×ah×Int×bz×dm):Option (Lb⊕(Lb)):=
 let dV:=(mQ I5.2.1).length; let l9:=(L3 I5.2.2.1).length; let l8:=(fM Au.2.2).length; let l7:=(toNat E9.2.2.2.1); let l6:=(fM I5.2.2.2.2.2); let l4:=(L3 I5.1); let cX:=(an l4 (toNat I5.2.2.2.1)); let l2:=(bR (mQ I5.2.2.2.2.1)); let l1:=(an l6 (0+toNat v72.2.2.1)); let l5:=(rowOf l2 (cY l1).1); (((bif (decide (I5.2.2.2.1 < (((l4).length:Nat):Int))) then bif (decide ((0:Int)<=I5.2.2.2.1/\I5.2.2.2.1 < ((l4).length:Int))&&fits p3 cX) then bif decide ((0:Int)<=v72.2.2.1/\v72.2.2.1 < ((l8:Nat):Int)) then bif (decide (l8=(l6).length)&&decide ((0+toNat v72.2.2.1) < (l6).length)&&fits ft l1) then bif decide ((0:Int)<=E9.2.2.2.1/\E9.2.2.2.1 < (((cY l1).2:Nat):Int)) then bif (decide ((cY l1).2=(l5).length)&&decide (l7 < (l5).length)&&fits p3 (an l5 l7)) then ((Wc I5.1 I5.2.1 I5.2.2.1 ((d3 cX) != (d3 (an l5 l7))) (fC 1 l2) I5.2.2.2.2.2).bind λ w75=>bif (dP l2&&(decide (((l4).length)=(map n3 w75.1).length)&&(decide (dV=(map n59 w75.2.1).length)&&(decide (l9=(map n3 w75.2.2.1).length)&&true)))) then some w75 else none) else none else none else none else none else none else ((Wc I5.1 I5.2.1 I5.2.2.1 false (fC 1 l2) I5.2.2.2.2.2).bind λ XU=>bif (dP l2&&(decide (((l4).length)=(map n3 XU.1).length)&&(decide (dV=(map n59 XU.2.1).length)&&(decide (l9=(map n3 XU.2.2.1).length)&&true)))) then some XU else none)):Option ((ah×bz×ah×Bool×bz×dm))).bind λ o77=>let j1:=o77.2.2; let fa:=(L3 o77.1).length; let eu:=(mQ o77.2.1).length; let cW:=(L3 j1.1).length; let l3:=(bR (mQ j1.2.2.1)); (bif j1.2.1 then (((I4 o77.1 o77.2.1 j1.1 (wrap .i64 (I5.2.2.2.1+1)) (fC 1 l3) j1.2.2.2).bind λ w78=>bif (dP l3&&(decide (fa=(map n3 w78.1).length)&&(decide (eu=(map n59 w78.2.1).length)&&(decide (cW=(map n3 w78.2.2.1).length)&&true)))) then some w78 else none).bind λ u79=>some (aaL u79)) else (((I4 o77.1 o77.2.1 j1.1 I5.2.2.2.1 (fC 1 l3) j1.2.2.2).bind λ w80=>bif (dP l3&&(decide (fa=(map n3 w80.1).length)&&(decide (eu=(map n59 w80.2.1).length)&&(decide (cW=(map n3 w80.2.2.1).length)&&true)))) then some w80 else none).bind λ u81=>some (aag u81))))
def aaT (x0:List AV) (x1:bz) (x2:ah) (x3:List AV) (x4:dm):Option PY:=
 bif (allFit (fits p3) x0&&(F59 x1&&(F3 x2&&(allFit (fits oW) x3&&(rq x4&&true))))) then some ((map d3 x0),(XS x1),(K3 x2),(map d59 x3),(pW x4)) else none
def OB (x0:ah) (x1:bz) (x2:List AV) (x3:Int) (x4:List AV) (x5:dm):Option Lb:=
 bif (F3 x0&&(F59 x1&&(allFit (fits p3) x2&&(allFit (fits oW) x4&&(rq x5&&true))))) then some ((K3 x0),(XS x1),(map d3 x2),x3,(map d59 x4),(pW x5)) else none
def Wd (x0:ah) (x1:bz) (x2:ah) (x3:List AV) (x4:dm):Option PY:=
 bif (F3 x0&&(F59 x1&&(F3 x2&&(allFit (fits oW) x3&&(rq x4&&true))))) then some ((K3 x0),(XS x1),(K3 x2),(map d59 x3),(pW x4)) else none
def ja (N:Nat) (Au:Hg) (v72:ah×bz×Int×bz×dm) (E9:ah×bz×ah×Int×bz×dm):Option (Lb⊕(PY)):=
 let hJ:=(L3 E9.1).length; let fL:=(mQ E9.2.1).length; let eu:=(L3 E9.2.2.1).length; let cX:=(toNat E9.2.2.2.1); let l7:=(fM E9.2.2.2.2.2); let l6:=(0+toNat v72.2.2.1); let l4:=(fM Au.2.2).length; let l3:=(bR (mQ E9.2.2.2.2.1)); bif decide ((0:Int)<=v72.2.2.1/\v72.2.2.1 < ((l4:Nat):Int)) then bif (decide (l4=(l7).length)&&decide (l6 < (l7).length)&&fits ft (an l7 l6)) then (bif (decide (E9.2.2.2.1 < (((cY (an l7 l6)).2:Nat):Int))) then (((I4 E9.1 E9.2.1 E9.2.2.1 0 (fC 1 l3) E9.2.2.2.2.2).bind λ w82=>bif (dP l3&&(decide (hJ=(map n3 w82.1).length)&&(decide (fL=(map n59 w82.2.1).length)&&(decide (eu=(map n3 w82.2.2.1).length)&&true)))) then some w82 else none).bind λ x89=>(ao (iD N Au v72 E9) N x89).bind λ o83=>let j1:=o83.2.2; let fZ:=(mQ o83.2.1).length; let fa:=(L3 j1.1).length; let cW:=(fM j1.2.2.2); let l5:=(L3 o83.1); let l2:=(bR (mQ j1.2.2.1)); let l1:=(an cW l6); let l9:=(rowOf l2 (cY l1).1); (((bif (j1.2.1 == (((l5).length:Nat):Int)) then bif decide ((0:Int)<=v72.2.2.1/\v72.2.2.1 < ((l4:Nat):Int)) then bif (decide (l4=(cW).length)&&decide (l6 < (cW).length)&&fits ft l1) then bif decide ((0:Int)<=E9.2.2.2.1/\E9.2.2.2.1 < (((cY l1).2:Nat):Int)) then bif (decide ((cY l1).2=(l9).length)&&decide (cX < (l9).length)&&fits p3 (an l9 cX)) then bif (decide (((l5).length)=(l5).length)&&decide (((l5).length+1)*8<=140737488355328)) then ((aaT (l5++[(aI (d3 (an l9 cX)))]) o83.2.1 j1.1 (fC 1 l2) j1.2.2.2).bind λ w84=>bif (dP l2&&(decide ((((l5).length)+1)=(map n3 w84.1).length)&&(decide (fZ=(map n59 w84.2.1).length)&&(decide (fa=(map n3 w84.2.2.1).length)&&true)))) then some w84 else none) else none else none else none else none else none else ((Wd o83.1 o83.2.1 j1.1 (fC 1 l2) j1.2.2.2).bind λ w85=>bif (dP l2&&(decide (((l5).length)=(map n3 w85.1).length)&&(decide (fZ=(map n59 w85.2.1).length)&&(decide (fa=(map n3 w85.2.2.1).length)&&true)))) then some w85 else none)):Option (PY)).bind λ o86=>let dV:=(bR (mQ o86.2.2.2.1)); let l8:=(L3 o86.2.2.1); bif (decide (((l8).length)=(l8).length)&&decide (((l8).length+1)*8<=140737488355328)) then (((OB o86.1 o86.2.1 (l8++[(aI j1.2.1)]) (wrap .i64 (E9.2.2.2.1+1)) (fC 1 dV) o86.2.2.2.2).bind λ w87=>bif (dP dV&&(decide ((L3 o86.1).length=(map n3 w87.1).length)&&(decide ((mQ o86.2.1).length=(map n59 w87.2.1).length)&&(decide ((((l8).length)+1)=(map n3 w87.2.2.1).length)&&true)))) then some w87 else none).bind λ u88=>some (aaL u88)) else none)) else (((Wd E9.1 E9.2.1 E9.2.2.1 (fC 1 l3) E9.2.2.2.2.2).bind λ w90=>bif (dP l3&&(decide (hJ=(map n3 w90.1).length)&&(decide (fL=(map n59 w90.2.1).length)&&(decide (eu=(map n3 w90.2.2.1).length)&&true)))) then some w90 else none).bind λ u91=>some (aag u91))) else none else none
def mR (N:Nat) (Au:Hg) (v72:ah×bz×Int×bz×dm):Option ((ah×bz×Int×bz×dm)⊕((bz×bz×dm))):=
 let l9:=(fM v72.2.2.2.2); let l7:=(fits oW); let l4:=(mQ v72.2.1); let l1:=(bR (mQ v72.2.2.2.1)); (bif (decide (v72.2.2.1 < (((fM Au.2.2).length:Nat):Int))) then (((OB v72.1 v72.2.1 ([]:List AV) 0 (fC 1 l1) v72.2.2.2.2).bind λ w92=>bif (dP l1&&(decide ((L3 v72.1).length=(map n3 w92.1).length)&&(decide (((l4).length)=(map n59 w92.2.1).length)&&(decide (0=(map n3 w92.2.2.1).length)&&true)))) then some w92 else none).bind λ x96=>(ao (ja N Au v72) N x96).bind λ o93=>let l8:=(fM o93.2.2.2.2); let l6:=(L3 o93.1); let l3:=(bR (mQ o93.2.2.2.1)); let l2:=(mQ o93.2.1); let l5:=(l2++[(AV.list .bV 1 (L3 o93.2.2.1))]); bif (decide (((l2).length)=(l2).length)&&decide (((l2).length+1)*24<=140737488355328)) then (((bif (allFit (fits p3) l6&&(allFit l7 l5&&(allFit l7 (fC 1 l3)&&(allFit (fits ft) l8&&true)))) then some ((map d3 l6),(map d59 l5),(wrap .i64 (v72.2.2.1+1)),(map d59 (fC 1 l3)),(map cY l8)) else none).bind λ w94=>bif (dP l3&&(decide (((l6).length)=(map n3 w94.1).length)&&(decide ((((l2).length)+1)=(map n59 w94.2.1).length)&&true))) then some w94 else none).bind λ u95=>some (aaL u95)) else none) else (((bif (allFit l7 l4&&(allFit l7 (fC 1 l1)&&(allFit (fits ft) l9&&true))) then some ((map d59 l4),(map d59 (fC 1 l1)),(map cY l9)) else none).bind λ w97=>bif (dP l1&&(decide (((l4).length)=(map n59 w97.1).length)&&true)) then some w97 else none).bind λ u98=>some (aag u98)))
def ahf (N:Nat) (a0:aP×aG):T25 N a0 =
 (let l6:=(fits ft); let l5:=(fC 1 ([]:List (List AV))); let l4:=(fits oW); (((bif ((aaN 0 (([]:List AV)).length&&aaN 0 (([]:List AV)).length)&&(allFit l4 l5&&(allFit l6 ([]:List AV)&&true))) then some ((),0,(map d59 l5),(map cY ([]:List AV))) else none:Option Lf).bind λ ZF=>bif (dP ([]:List (List AV))&&true) then some ZF else none).bind λ aqv=>(ao (E8 N a0) N aqv).bind λ o15=>let l2:=(bR (mQ o15.2.1)); let l1:=(fM o15.2.2); (((bif ((aaN ((l1).length) (l1).length&&aaN ((l1).length) (l1).length)&&(allFit l4 (fC 1 l2)&&(allFit l6 l1&&true))) then some ((),0,(map d59 (fC 1 l2)),(map cY l1)) else none:Option Lf).bind λ w70=>bif (dP l2&&true) then some w70 else none).bind λ aqw=>(ao (tK N a0) N aqw).bind λ Au=>let l3:=(bR (mQ Au.2.1)); (((bif (allFit (fits p3) ([]:List AV)&&(allFit l4 ([]:List AV)&&(allFit l4 (fC 1 l3)&&(allFit l6 (fM Au.2.2)&&true)))) then some ((map d3 ([]:List AV)),(map d59 ([]:List AV)),0,(map d59 (fC 1 l3)),(pW Au.2.2)) else none:Option (ah×bz×Int×bz×dm)).bind λ w99=>bif (dP l3&&(decide (0=(map n3 w99.1).length)&&(decide (0=(map n59 w99.2.1).length)&&true))) then some w99 else none).bind λ aqx=>(ao (mR N Au) N aqx).bind λ alG=>(bif allFit l4 (mQ alG.1) then some (XS alG.1) else none))))):=by kernel_rfl
def c74:List (Nat×dF):=[(58,.loop [] ⟨(pl [pI,pI]),[3,4],[],[],[],[]⟩ [(.ex 0,⟨(.ci .nil),[3],[],[],[],[]⟩)]),
 (3730,.loop [] ⟨(pl [pI,pI]),[3,5],[],[],[],[]⟩ [(.ex 2,⟨(.ci .nil),[3],[],[],[],[]⟩)])]
def T74 (N:Nat):bz->Option Int:=(cx N [] [(74,c74)]).fn 1000 74 (.cons dR .nil) (.int .i64)
def e74 (N:Nat):bJ:=⟨(.cons dR .nil),(.int .i64),T74 N⟩
def ahg (N:Nat):aK cd 74 (e74 N):=jj.dQ oV
def vj (N:Nat) (a0:List ah) (v1:Int×Int) (v2:Int×Int):Option (cj⊕Int):=
 let l4:=(an (mQ a0) (toNat v1.2)); let l2:=(decide ((0:Int)<=v1.2/\v1.2 < ((mQ a0).length:Int))&&fits oW l4); let l1:=(L3 (d59 l4)); let l3:=(an l1 (toNat v2.2)); bif l2 then (bif (decide (v2.2 < (((l1).length:Nat):Int))) then bif l2 then bif (decide ((0:Int)<=v2.2/\v2.2 < ((l1).length:Int))&&fits p3 l3) then (some (aaL ((if (d3 l3) > v2.1 then (d3 l3) else v2.1),(wrap .i64 (v2.2+1))))) else none else none else (some (aag v2.1))) else none
def Fa (N:Nat) (a0:List ah) (v1:Int×Int):Option (cj⊕Int):=
 (bif (decide (v1.2 < (((mQ a0).length:Nat):Int))) then ((ao (vj N a0 v1) N (v1.1,0)).bind λ o4=>(some (aaL (o4,(wrap .i64 (v1.2+1)))))) else (some (aag v1.1)))
def ahh (N:Nat) (a0:List ah):T74 N a0 =
 ((ao (Fa N a0) N ((-1),0)).bind λ o6=>some o6):=by kernel_rfl
def T28 (N:Nat):dx->Option (Ld):=(cx N [(15,e15 N),(25,e25 N),(27,e27 N),(65,e65 N),(74,e74 N)] []).fn 1000 28 (.cons cJ .nil) Hd
def e28 (N:Nat):bJ:=⟨(.cons cJ .nil),Hd,T28 N⟩
def aaU:List (Nat×dF):=[(6,.loop [] ⟨(pl [pI,bF,.bD (.map 0),aO,.list 1 (.bC 2 1 (.int .i64)),.bD (.eK 3 0 0 1 0),cp,cm]),[8],[],[],[.map,.rw,.bC 1 3,.bO 1 59,.rw,.row 2,.kp,.lp .open_],[]⟩ [(.ex 0,⟨(pl [bF,.bD (.map 0),aO,.list 1 (.bC 2 1 (.int .i64)),.bD (.eK 3 0 0 1 0),cp,cm]),[],[],[],[.map,.rw,.bC 1 3,.bO 1 59,.rw,.row 2,.kp,.lp .open_],[]⟩)]),
 (1638,.loop [] ⟨(pl [pI,bF,.bD (.map 0),aO,.list 1 (.bC 2 1 (.int .i64)),.bD (.eK 3 0 0 1 0),cp,cm]),[18],[],[],[.map,.rw,.bC 1 3,.bO 1 59,.rw,.row 2,.kp,.lp .open_],[]⟩ [(.ex 2,⟨(pl [bF,.bD (.map 0),aO,.list 1 (.bC 2 1 (.int .i64)),.bD (.eK 3 0 0 1 0),cp,cm]),[],[],[],[.map,.rw,.bC 1 3,.bO 1 59,.rw,.row 2,.kp,.lp .open_],[]⟩)])]
def aqz (N:Nat):(g:FuncId)->Option (ob cd g)
 |70=>some (x70 N)
 |_=>none
def T21 (N:Nat):dx->Option (bz×Int):=({ cx N [(56,e56 N)] [(117,aaU)] with xt:=aqz N }:jj).fn 1000 21 (.cons cJ .nil) (.cD (.cons dR (.ci .nil)))
def e21 (N:Nat):bJ:=⟨(.cons cJ .nil),(.cD (.cons dR (.ci .nil))),T21 N⟩
abbrev Mu:aF:=(.list 3 BT)
abbrev d83 (v:AV):List iM:=aF.bW Mu v
abbrev n83 (x:List iM):AV:=aF.enc Mu x
def alH (x:List iM):fits Mu (n83 x)=true:=(aF.bt Mu x rfl).1
def alI (x:List iM):d83 (n83 x)=x:=(aF.bt Mu x rfl).2
abbrev gC:aF:=(.agg (.cons (.int .i64) (.cons (.list 3 BT) .nil)))
abbrev gD (v:AV):Int×eJ:=aF.bW gC v
abbrev kF (x:Int×eJ):AV:=aF.enc gC x
abbrev cU (l:List (Int×eJ)):=ax (map kF l)
abbrev so (l:List (Int×eJ)):=aD (ax (map kF l))
def dM (l:List (Int×eJ)):allFit (fits gC) (map kF l)=true:=cA (p:=gC) rfl l
def dN (l:List (Int×eJ)):map gD (map kF l)=l:=eO (p:=gC) rfl l
def c81:List (Nat×dF):=[(1013,.join [(.norm,⟨(pl [bF,.bD (.map 3),aR,.bD (.map 5),eQ,.bD (.map 7),.bD (.fn 122 [] [.ptr 0 0,.ptr 4 0])]),[],[],[],[.kp,.kp,.kp,.map,.rw,.map,.rw,.map,.rw,.rw,.kp,.kp,.lp .busy],[]⟩)]),
 (32430,.rot [true,true,true] [] ⟨(pl [.bool,bF,.bD (.map 3),aR,.bD (.map 5),eQ,.bD (.map 7),.bD (.fn 122 [] [.ptr 0 0,.ptr 4 0]),.bool]),[121],[],[],[.kp,.kp,.kp,.map,.rw,.map,.rw,.map,.rw,.rw,.kp,.kp,.lp .busy,.rw],[]⟩ [(.ex 2,⟨(pl [bF,.bD (.map 3),aR,.bD (.map 5),eQ,.bD (.map 7),.bD (.fn 122 [] [.ptr 0 0,.ptr 4 0]),.bool]),[],[],[],[.kp,.kp,.kp,.map,.rw,.map,.rw,.map,.rw,.rw,.kp,.kp,.lp .busy,.rw],[]⟩)]),
 (8302157,(.PF 16 (.join [(.norm,⟨(pl [bF,.bD (.map 3),aR,.bD (.map 5),eQ,.bD (.map 7),.bD (.fn 122 [] [.ptr 0 0,.ptr 4 0]),.bool]),[],[],[],[.kp,.kp,.kp,.map,.rw,.map,.rw,.map,.rw,.rw,.kp,.kp,.lp .busy,.rw,.kp,.lp .busy],[]⟩)]) (.join [(.norm,⟨(pl [bF,.bD (.map 3),aR,.bD (.map 5),eQ,.bD (.map 7),.bD (.fn 122 [] [.ptr 0 0,.ptr 4 0]),.bool]),[],[],[],[.kp,.kp,.kp,.map,.rw,.map,.rw,.map,.rw,.rw,.kp,.kp,.lp .busy,.kp,.rw,.kp,.lp .busy],[]⟩)]))),
 (531338076,(.PF 16 (.join [(.norm,⟨(pl [.bool,bF,.bD (.map 3),aR,.bD (.map 5),eQ,.bD (.map 7),.bD (.fn 122 [] [.ptr 0 0,.ptr 4 0])]),[63],[],[],[.kp,.kp,.kp,.map,.rw,.map,.rw,.map,.rw,.rw,.kp,.kp,.lp .busy,.kp,.kp,.lp .busy],[]⟩)]) (.join [(.norm,⟨(pl [.bool,bF,.bD (.map 3),aR,.bD (.map 5),eQ,.bD (.map 7),.bD (.fn 122 [] [.ptr 0 0,.ptr 4 0])]),[63],[],[],[.kp,.kp,.kp,.map,.rw,.map,.rw,.map,.rw,.rw,.kp,.kp,.lp .busy,.kp,.kp,.kp,.lp .busy],[]⟩)]))),
 (2125352310,(.PF 16 (.join [(.norm,⟨(pl [.bool,bF,.bD (.map 3),aR,.bD (.map 5),eQ,.bD (.map 7),.bD (.fn 122 [] [.ptr 0 0,.ptr 4 0])]),[92],[],[],[.kp,.kp,.kp,.map,.rw,.map,.rw,.map,.rw,.rw,.kp,.kp,.lp .busy,.kp,.kp,.lp .busy],[]⟩)]) (.join [(.norm,⟨(pl [.bool,bF,.bD (.map 3),aR,.bD (.map 5),eQ,.bD (.map 7),.bD (.fn 122 [] [.ptr 0 0,.ptr 4 0])]),[92],[],[],[.kp,.kp,.kp,.map,.rw,.map,.rw,.map,.rw,.rw,.kp,.kp,.lp .busy,.kp,.kp,.kp,.lp .busy],[]⟩)])))]
def Qj:List (Nat×dF):=[(1,(.PF 13 (.join [(.norm,⟨(pl [fx,bF,.bD (.map 3),aR,.bD (.map 5),eQ,.bD (.map 7),.bD (.fn 122 [] [.ptr 0 0,.ptr 4 0])]),[],[],[],[.kp,.kp,.rw,.map,.rw,.map,.rw,.map,.rw,.rw,.kp,.kp,.lp .open_],[]⟩)]) (.PF 16 (.join [(.norm,⟨(pl [bF,.bD (.map 3),aR,.bD (.map 5),eQ,.bD (.map 7),.bD (.fn 122 [] [.ptr 0 0,.ptr 4 0]),.bool,cp,cm]),[],[],[],[.kp,.kp,.kp,.map,.rw,.map,.rw,.map,.rw,.rw,.kp,.kp,.lp .busy,.rw,.row 2,.lp .open_],[]⟩)]) (.PF 17 (.join [(.norm,⟨(pl [bF,.bD (.map 3),aR,.bD (.map 5),eQ,.bD (.map 7),.bD (.fn 122 [] [.ptr 0 0,.ptr 4 0]),.bool,cp,cm]),[],[],[],[.kp,.kp,.kp,.map,.rw,.map,.rw,.map,.rw,.rw,.kp,.kp,.lp .busy,.kp,.rw,.row 2,.lp .open_],[]⟩)]) (.join [(.norm,⟨(pl [.bD .fk,fx,bF,.bD (.map 3),aR,.bD (.map 5),eQ,.bD (.map 7),.bD (.fn 122 [] [.ptr 0 0,.ptr 4 0]),aO,aO]),[],[],[],[.kp,.rw,.rw,.map,.rw,.map,.rw,.map,.rw,.rw,.kp,.kp,.dead,.bO 1 3,.bO 1 3,.kp,.kp,.lp .open_],[]⟩),(.ret,⟨(pl [.bD (.map 5),fx,bF,.bD (.map 3),aR,.bD (.map 5),eQ,.bD (.map 7),.bD (.fn 122 [] [.ptr 0 0,.ptr 4 0]),aO,aO]),[],[],[],[.kp,.rw,.rw,.map,.rw,.map,.rw,.map,.rw,.rw,.kp,.kp,.dead,.bO 1 3,.bO 1 3,.kp,.kp,.lp .ret],[]⟩)]))))),
 (6,(.PF 13 (.loop [] ⟨(pl [pI,cp,cm,fx,bF,.bD (.map 3),aR,.bD (.map 5),eQ,.bD (.map 7),.bD (.fn 122 [] [.ptr 0 0,.ptr 4 0]),cp,cm]),[8],[],[],[.row 2,.kp,.rw,.map,.rw,.map,.rw,.map,.rw,.rw,.row 2,.kp,.lp .open_],[]⟩ [(.ex 0,⟨(pl [cp,cm,fx,bF,.bD (.map 3),aR,.bD (.map 5),eQ,.bD (.map 7),.bD (.fn 122 [] [.ptr 0 0,.ptr 4 0]),cp,cm]),[],[],[],[.row 2,.kp,.rw,.map,.rw,.map,.rw,.map,.rw,.rw,.row 2,.kp,.lp .open_],[]⟩)]) (.PF 16 (.loop [] ⟨(pl [pI,bF,.bD (.map 3),aR,.bD (.map 5),eQ,.bD (.map 7),.bD (.fn 122 [] [.ptr 0 0,.ptr 4 0]),.bool,cp,cm]),[8],[],[],[.kp,.kp,.kp,.map,.rw,.map,.rw,.map,.rw,.rw,.kp,.kp,.lp .busy,.rw,.row 2,.lp .open_],[]⟩ [(.ex 0,⟨(pl [bF,.bD (.map 3),aR,.bD (.map 5),eQ,.bD (.map 7),.bD (.fn 122 [] [.ptr 0 0,.ptr 4 0]),.bool,cp,cm]),[],[],[],[.kp,.kp,.kp,.map,.rw,.map,.rw,.map,.rw,.rw,.kp,.kp,.lp .busy,.rw,.row 2,.lp .open_],[]⟩)]) (.PF 17 (.loop [] ⟨(pl [pI,bF,.bD (.map 3),aR,.bD (.map 5),eQ,.bD (.map 7),.bD (.fn 122 [] [.ptr 0 0,.ptr 4 0]),.bool,cp,cm]),[8],[],[],[.kp,.kp,.kp,.map,.rw,.map,.rw,.map,.rw,.rw,.kp,.kp,.lp .busy,.kp,.rw,.row 2,.lp .open_],[]⟩ [(.ex 0,⟨(pl [bF,.bD (.map 3),aR,.bD (.map 5),eQ,.bD (.map 7),.bD (.fn 122 [] [.ptr 0 0,.ptr 4 0]),.bool,cp,cm]),[],[],[],[.kp,.kp,.kp,.map,.rw,.map,.rw,.map,.rw,.rw,.kp,.kp,.lp .busy,.kp,.rw,.row 2,.lp .open_],[]⟩)]) (.loop [] ⟨(pl [pI,cp,cm,.bD .fk,fx,bF,.bD (.map 3),aR,.bD (.map 5),eQ,.bD (.map 7),.bD (.fn 122 [] [.ptr 0 0,.ptr 4 0]),cp,cm,aO,aO,cp,cm]),[8],[],[],[.row 2,.rw,.rw,.map,.rw,.map,.rw,.map,.rw,.rw,.row 2,.kp,.dead,.bO 1 3,.bO 1 3,.row 2,.kp,.lp .open_],[]⟩ [(.ret,⟨(pl [cp,cm,.bD (.map 5),fx,bF,.bD (.map 3),aR,.bD (.map 5),eQ,.bD (.map 7),.bD (.fn 122 [] [.ptr 0 0,.ptr 4 0]),cp,cm,aO,aO,cp,cm]),[],[],[],[.row 2,.rw,.rw,.map,.rw,.map,.rw,.map,.rw,.rw,.row 2,.kp,.dead,.bO 1 3,.bO 1 3,.row 2,.kp,.lp .ret],[]⟩),(.ex 0,⟨(pl [cp,cm,.bD .fk,fx,bF,.bD (.map 3),aR,.bD (.map 5),eQ,.bD (.map 7),.bD (.fn 122 [] [.ptr 0 0,.ptr 4 0]),cp,cm,aO,aO,cp,cm]),[],[],[],[.row 2,.rw,.rw,.map,.rw,.map,.rw,.map,.rw,.rw,.row 2,.kp,.dead,.bO 1 3,.bO 1 3,.row 2,.kp,.lp .open_],[]⟩)]))))),
 (1638,(.PF 13 (.loop [] ⟨(pl [pI,bF,.bD (.map 3),aR,.bD (.map 5),eQ,.bD (.map 7),.bD (.fn 122 [] [.ptr 0 0,.ptr 4 0])]),[18],[],[],[.kp,.kp,.kp,.map,.rw,.map,.rw,.map,.rw,.rw,.kp,.kp,.lp .open_],[]⟩ [(.ex 2,⟨(pl [bF,.bD (.map 3),aR,.bD (.map 5),eQ,.bD (.map 7),.bD (.fn 122 [] [.ptr 0 0,.ptr 4 0])]),[],[],[],[.kp,.kp,.kp,.map,.rw,.map,.rw,.map,.rw,.rw,.kp,.kp,.lp .open_],[]⟩)]) (.PF 16 (.loop [] ⟨(pl [pI,bF,.bD (.map 3),aR,.bD (.map 5),eQ,.bD (.map 7),.bD (.fn 122 [] [.ptr 0 0,.ptr 4 0]),.bool]),[18],[],[],[.kp,.kp,.kp,.map,.rw,.map,.rw,.map,.rw,.rw,.kp,.kp,.lp .busy,.rw,.kp,.lp .open_],[]⟩ [(.ex 2,⟨(pl [bF,.bD (.map 3),aR,.bD (.map 5),eQ,.bD (.map 7),.bD (.fn 122 [] [.ptr 0 0,.ptr 4 0]),.bool]),[],[],[],[.kp,.kp,.kp,.map,.rw,.map,.rw,.map,.rw,.rw,.kp,.kp,.lp .busy,.rw,.kp,.lp .open_],[]⟩)]) (.PF 17 (.loop [] ⟨(pl [pI,bF,.bD (.map 3),aR,.bD (.map 5),eQ,.bD (.map 7),.bD (.fn 122 [] [.ptr 0 0,.ptr 4 0]),.bool]),[18],[],[],[.kp,.kp,.kp,.map,.rw,.map,.rw,.map,.rw,.rw,.kp,.kp,.lp .busy,.kp,.rw,.kp,.lp .open_],[]⟩ [(.ex 2,⟨(pl [bF,.bD (.map 3),aR,.bD (.map 5),eQ,.bD (.map 7),.bD (.fn 122 [] [.ptr 0 0,.ptr 4 0]),.bool]),[],[],[],[.kp,.kp,.kp,.map,.rw,.map,.rw,.map,.rw,.rw,.kp,.kp,.lp .busy,.kp,.rw,.kp,.lp .open_],[]⟩)]) (.loop [] ⟨(pl [pI,.bD .fk,fx,bF,.bD (.map 3),aR,.bD (.map 5),eQ,.bD (.map 7),.bD (.fn 122 [] [.ptr 0 0,.ptr 4 0]),aO,aO]),[18],[],[],[.kp,.rw,.rw,.map,.rw,.map,.rw,.map,.rw,.rw,.kp,.kp,.dead,.bO 1 3,.bO 1 3,.kp,.kp,.lp .open_],[]⟩ [(.ret,⟨(pl [.bD (.map 5),fx,bF,.bD (.map 3),aR,.bD (.map 5),eQ,.bD (.map 7),.bD (.fn 122 [] [.ptr 0 0,.ptr 4 0]),aO,aO]),[],[],[],[.kp,.rw,.rw,.map,.rw,.map,.rw,.map,.rw,.rw,.kp,.kp,.dead,.bO 1 3,.bO 1 3,.kp,.kp,.lp .ret],[]⟩),(.ex 2,⟨(pl [.bD .fk,fx,bF,.bD (.map 3),aR,.bD (.map 5),eQ,.bD (.map 7),.bD (.fn 122 [] [.ptr 0 0,.ptr 4 0]),aO,aO]),[],[],[],[.kp,.rw,.rw,.map,.rw,.map,.rw,.map,.rw,.rw,.kp,.kp,.dead,.bO 1 3,.bO 1 3,.kp,.kp,.lp .open_],[]⟩)])))))]
def Qk:List (Nat×dF):=[(58,.loop [] ⟨(pl [.bD (.eK 18 0 0 3 0),pI,bF,.bD (.map 3),aR,.bD (.map 5),eQ,.bD (.map 7),.bD (.fn 122 [] [.ptr 0 0,.ptr 4 0]),aO,aO,fx]),[5,13],[],[],[.kp,.kp,.kp,.map,.rw,.map,.rw,.map,.rw,.rw,.kp,.kp,.dead,.bO 1 3,.bO 1 3,.kp,.kp,.lp .busy,.bO 3 119],[]⟩ [(.ex 0,⟨(pl [.bD (.eK 18 0 0 3 0),bF,.bD (.map 3),aR,.bD (.map 5),eQ,.bD (.map 7),.bD (.fn 122 [] [.ptr 0 0,.ptr 4 0]),aO,aO,fx]),[5],[],[],[.kp,.kp,.kp,.map,.rw,.map,.rw,.map,.rw,.rw,.kp,.kp,.dead,.bO 1 3,.bO 1 3,.kp,.kp,.lp .busy,.bO 3 119],[]⟩)])]
def Ql:List (Nat×dF):=[(6,.loop [] ⟨(pl [pI,pI,bF,.bD (.map 3),aR,.bD (.map 5),eQ,.bD (.map 7),.bD (.fn 122 [] [.ptr 0 0,.ptr 4 0]),aO,aO,fx]),[2,3],[],[],[.kp,.kp,.kp,.map,.rw,.map,.rw,.map,.rw,.rw,.kp,.kp,.dead,.bO 1 3,.bO 1 3,.kp,.kp,.lp .busy,.bO 3 119],[]⟩ [(.ex 0,⟨(pl [bF,.bD (.map 3),aR,.bD (.map 5),eQ,.bD (.map 7),.bD (.fn 122 [] [.ptr 0 0,.ptr 4 0]),aO,aO,fx]),[],[],[],[.kp,.kp,.kp,.map,.rw,.map,.rw,.map,.rw,.rw,.kp,.kp,.dead,.bO 1 3,.bO 1 3,.kp,.kp,.lp .busy,.bO 3 119],[]⟩)])]
def Qm:List (Nat×dF):=[(58,.loop [] ⟨(pl [pI,pI,bF,.bD (.map 3),aR,.bD (.map 5),eQ,.bD (.map 7),.bD (.fn 122 [] [.ptr 0 0,.ptr 4 0]),aO,aO]),[3,11],[],[],[.kp,.kp,.kp,.map,.rw,.map,.rw,.map,.rw,.rw,.kp,.kp,.dead,.bO 1 3,.bO 1 3,.kp,.kp,.lp .busy,.dead],[]⟩ [(.ex 0,⟨(pl [pI,bF,.bD (.map 3),aR,.bD (.map 5),eQ,.bD (.map 7),.bD (.fn 122 [] [.ptr 0 0,.ptr 4 0]),aO,aO]),[3],[],[],[.kp,.kp,.kp,.map,.rw,.map,.rw,.map,.rw,.rw,.kp,.kp,.dead,.bO 1 3,.bO 1 3,.kp,.kp,.lp .busy,.dead],[]⟩)]),
 (250,.loop [] ⟨(pl [.bD (.eK 19 0 0 3 0),pI,bF,.bD (.map 3),aR,.bD (.map 5),eQ,.bD (.map 7),.bD (.fn 122 [] [.ptr 0 0,.ptr 4 0]),aO,aO,fx]),[6,27],[],[],[.kp,.kp,.kp,.map,.rw,.map,.rw,.map,.rw,.rw,.kp,.kp,.dead,.bO 1 3,.bO 1 3,.kp,.kp,.lp .busy,.dead,.bO 3 119],[]⟩ [(.ex 2,⟨(pl [.bD (.eK 19 0 0 3 0),bF,.bD (.map 3),aR,.bD (.map 5),eQ,.bD (.map 7),.bD (.fn 122 [] [.ptr 0 0,.ptr 4 0]),aO,aO,fx]),[6],[],[],[.kp,.kp,.kp,.map,.rw,.map,.rw,.map,.rw,.rw,.kp,.kp,.dead,.bO 1 3,.bO 1 3,.kp,.kp,.lp .busy,.dead,.bO 3 119],[]⟩)])]
def alJ (N:Nat):(g:FuncId)->Option (ob cd g)
 |70=>some (x70 N)
 |_=>none
def We:List RF:=[⟨true,[.map bI,.RE (.bD (.list .nil 0 []))]⟩,⟨true,[.map bI,.RE fx]⟩]
def JH (N:Nat):dx->Option ((aj×Unit)⊕(aj×eJ)):=({ cxK N [(88,e88 N),(100,RT N)] [(81,c81),(117,Qj),(124,Qk),(126,Ql),(127,Qm)] with xt:=alJ N }:jj).fnX 1000 81 (.cons cJ .nil) We
def ahi (N:Nat):∀ x y,JH N x=some y->tj cd 81 (a6.enc (.cons cJ .nil) x) We (λ z=>z=y):=by
 refine jj.U4 (C:=({ cxK N [(88,e88 N),(100,RT N)] [(81,c81),(117,Qj),(124,Qk),(126,Ql),(127,Qm)] with xt:=alJ N }:jj)) (n:=1000) (g:=81) (ps:=(.cons cJ .nil)) (outs:=We) ?_ ?_ ?_
 .exact (jw (Od N) (jw (CX N) oV))
 .kernel_rfl
 .kernel_rfl
def x81 (N:Nat):ob cd 81:=⟨(.cons cJ .nil),We,JH N,ahi N⟩
def Cv (x0:Bool) (x1:bw) (x2:aj) (x3:bU):Option La:=
 bif (allFit (fits cO) (ab (bg x1))&&(allFit (fits cB) (ab (aX x2))&&(allFit (fits gC) (ab (cU x3))&&true))) then some (x0,(map cH (ab (bg x1))),(),(map bY (ab (aX x2))),(),(map gD (ab (cU x3))),(),()) else none
def Lx (x0:bw) (x1:List AV) (x2:List AV) (x3:Bool):Option zv:=
 bif (allFit (fits cO) (ab (bg x0))&&(allFit (fits cB) x1&&(allFit (fits gC) x2&&true))) then some ((map cH (ab (bg x0))),(),(map bY x1),(),(map gD x2),(),(),x3) else none
def Cw (x0:Int) (x1:bw) (x2:aj) (x3:bU) (x4:Bool):Option Vi:=
 bif (allFit (fits cO) (ab (bg x1))&&(allFit (fits cB) (ab (aX x2))&&(allFit (fits gC) (ab (cU x3))&&true))) then some (x0,(map cH (ab (bg x1))),(),(map bY (ab (aX x2))),(),(map gD (ab (cU x3))),(),(),x4) else none
def Fb (x0:bw) (x1:aj) (x2:bU) (x3:Bool):Option zv:=
 bif (allFit (fits cO) (ab (bg x0))&&(allFit (fits cB) (ab (aX x1))&&(allFit (fits gC) (ab (cU x2))&&true))) then some ((map cH (ab (bg x0))),(),(map bY (ab (aX x1))),(),(map gD (ab (cU x2))),(),(),x3) else none
def jb (N:Nat) (v3:Int×aP×aG×eJ×bw×Unit×aj×Unit×bU×Unit×Unit×aP×aG) (v6:Bool×bw×Unit×aj×Unit×bU×Unit×Unit×Bool) (v7:Int×bw×Unit×aj×Unit×bU×Unit×Unit×Bool×aP×aG) (v8:Int×bw×Unit×aj×Unit×bU×Unit×Unit×Bool):Option (Vi⊕(zv)):=
 let l58:=(AV.bool v8.2.2.2.2.2.2.2.2); let l57:=(AV.bool v6.2.2.2.2.2.2.2.2); let l50:=(AV.list .bV 2 (cE v3.2.1)); let l47:=(AV.list .bV 5 (dc v3.2.2.1)); let l46:=(cU v8.2.2.2.2.2.1); let l45:=(AV.list .bV 3 (gG v3.2.2.2.1)); let l41:=(AV.list .bV 5 (dc v7.2.2.2.2.2.2.2.2.2.2)); let l39:=(AV.list .bV 5 (dc v3.2.2.2.2.2.2.2.2.2.2.2.2)); let Wf:=(AV.list .bV 2 (cE v3.2.2.2.2.2.2.2.2.2.2.2.1)); let Tt:=(r7 v3.2.1 v3.2.2.1 v7.1 v8.1); let Sk:=(cE v7.2.2.2.2.2.2.2.2.2.1); let Mw:=(au [l57] [l57]&&true); let JG:=(AV.list .nil 0 []); let tD:=(aI 0); let BW:=((v7.1 == v7.1)&&((v8.1 == v8.1)&&true)); let rE:=(bg v8.2.1); let lY:=(au [AV.fk] [AV.fk]&&true); let lN:=((au [(AV.list .bV 2 Sk),l41] [(AV.list .bV 2 Sk),l41]&&true)&&true); let mu:=(au [Wf,l39] [Wf,l39]&&true); let l9:=(aX v8.2.2.2.1); let l8:=(au [l45] [l45]&&true); let l7:=(au [l50,l47] [l50,l47]&&true); let l4:=(mu&&(Mw&&((au [l58] [l58]&&true)&&lN))); let Gj:=(l7&&(lY&&(l8&&(aD rE&&(aD l9&&(aD l46&&l4)))))); let l3:=(mu&&(Mw&&lN)); (bif (decide (v8.1 < ((((zw (d131 (an Sk (toNat v7.1))).2)).length:Nat):Int))) then (((Tt.bind λ NN=>(tA N NN).bind λ y9=>let l42:=(AV.agg [(aI y9.1),(aI y9.2.1)]); let l40:=(AV.agg [(aI y9.2.2.1),(aI y9.2.2.2)]); let Ct:=(bu qv l42 tD rE); let Cu:=(bu qv l40 tD rE); let l2:=(d3 Ct); let OC:=((l2 == l2)&&true); let l54:=((l2 == l2)&&OC); let fa:=(aI l2); let l1:=(d3 Cu); let Mx:=((l1 == l1)&&true); let l53:=((l1 == l1)&&Mx); let fL:=(aI l1); bif (bL qv l42 rE&&fits p3 Ct) then bif (bL qv l40 rE&&fits p3 Cu) then bif (bL .int fa l9&&fits p3 (bu .int fa tD l9)) then bif (bL .int fL l9&&fits p3 (bu .int fL tD l9)) then (((bif (Option.isSome (gO .int fa l9)) then ((Cv (!(Option.isSome (gO .int fL l9))) v8.2.1 v8.2.2.2.1 v8.2.2.2.2.2.1).bind λ ZC=>bif Gj then some ZC else none) else ((Cv false v8.2.1 v8.2.2.2.1 v8.2.2.2.2.2.1).bind λ Of=>bif Gj then some Of else none)):Option (La)).bind λ Gl=>let j1:=Gl.2.2.2; let l51:=(bg Gl.2.1); let dV:=(cU j1.2.2.1); let Wg:=(bL .int fa dV&&fits Mu (bu .int fa JG dV)); let cW:=(aX j1.1); let l43:=(eL .int fL (bu .int fL tD cW) cW); let Aq:=(l7&&(lY&&(l8&&(aD l51&&(aD cW&&(aD dV&&l4)))))); let l5:=(gG (d83 (bu .int fa JG dV))); let l55:=((l5).length+1); let fZ:=(l5++[(AV.agg [(aI v7.1),(aI v8.1),(AV.bool false)])]); let l48:=(eL .int fL (AV.list .bV 3 fZ) dV); (bif Gl.1 then bif Wg then (Tt.bind λ x15=>(Oc N x15).bind λ Si=>let uf:=(lP l43 (toNat ((jd .int fL cW:Nat):Int)) (aI (wrap .i64 ((d3 (bu .int fa tD l9))+Si.2)))); bif (BW&&((Wg&&au l5 l5)&&((l2 == l2)&&l53))) then bif ((aaN 3 3 || acL l5)&&decide ((l5).length*24<=140737488355328)) then bif (BW&&l53) then bif (decide ((l5).length=(l5).length)&&decide (0=0)&&decide ((l5).length=(l5).length)&&decide (l55*24<=140737488355328)) then bif l53 then bif bL .int fL cW then bif Mx then bif (decide (0<=((jd .int fL cW:Nat):Int))&&decide (toNat ((jd .int fL cW:Nat):Int) < ad7 l43)) then bif Mx then bif ((decide (l55=(fZ).length)&&decide (l55=(fZ).length)&&aaN 3 3&&aZ fZ)&&(bL .int fL dV)) then ((Lx Gl.2.1 (ab uf) (ab l48) true).bind λ ZD=>bif (l7&&(lY&&(l8&&(aD l51&&(aD uf&&(aD l48&&l3)))))) then some ZD else none) else none else none else none else none else none else none else none else none else none else none) else none else (((bif (Option.isSome (gO .int fL l9)) then ((Cv (!(Option.isSome (gO .int fa l9))) Gl.2.1 j1.1 j1.2.2.1).bind λ Oq=>bif Aq then some Oq else none) else ((Cv false Gl.2.1 j1.1 j1.2.2.1).bind λ w18=>bif Aq then some w18 else none)):Option (La)).bind λ Hm=>let l52:=(bg Hm.2.1); let eu:=(cU Hm.2.2.2.2.2.1); let Wh:=(bL .int fL eu&&fits Mu (bu .int fL JG eu)); let cX:=(aX Hm.2.2.2.1); let XV:=(eL .int fa (bu .int fa tD cX) cX); let l6:=(gG (d83 (bu .int fL JG eu))); let l56:=((l6).length+1); let hJ:=(l6++[(AV.agg [(aI v7.1),(aI v8.1),(AV.bool true)])]); let l49:=(eL .int fa (AV.list .bV 3 hJ) eu); (bif Hm.1 then bif Wh then (Tt.bind λ x21=>(Oc N x21).bind λ Qb=>let BX:=(lP XV (toNat ((jd .int fa cX:Nat):Int)) (aI (wrap .i64 ((d3 (bu .int fL tD l9)) - Qb.2)))); bif (BW&&((Wh&&au l6 l6)&&((l1 == l1)&&l54))) then bif ((aaN 3 3 || acL l6)&&decide ((l6).length*24<=140737488355328)) then bif (BW&&l54) then bif (decide ((l6).length=(l6).length)&&decide (0=0)&&decide ((l6).length=(l6).length)&&decide (l56*24<=140737488355328)) then bif l54 then bif bL .int fa cX then bif OC then bif (decide (0<=((jd .int fa cX:Nat):Int))&&decide (toNat ((jd .int fa cX:Nat):Int) < ad7 XV)) then bif OC then bif ((decide (l56=(hJ).length)&&decide (l56=(hJ).length)&&aaN 3 3&&aZ hJ)&&(bL .int fa eu)) then ((Lx Hm.2.1 (ab BX) (ab l49) true).bind λ VI=>bif (l7&&(lY&&(l8&&(aD l52&&(aD BX&&(aD l49&&l3)))))) then some VI else none) else none else none else none else none else none else none else none else none else none else none) else none else ((Fb Hm.2.1 Hm.2.2.2.1 Hm.2.2.2.2.2.1 v8.2.2.2.2.2.2.2.2).bind λ w23=>bif (l7&&(lY&&(l8&&(aD l52&&(aD cX&&(aD eu&&l3)))))) then some w23 else none))))) else none else none else none else none):Option (zv)).bind λ yj=>(((Cw (wrap .i64 (v8.1+1)) yj.1 yj.2.2.1 yj.2.2.2.2.1 yj.2.2.2.2.2.2.2).bind λ Z7=>bif (l7&&(lY&&(l8&&(gm yj.1&&(pL yj.2.2.1&&(so yj.2.2.2.2.1&&l3)))))) then some Z7 else none).bind λ u26=>some (aaL u26))) else (((Fb v8.2.1 v8.2.2.2.1 v8.2.2.2.2.2.1 v8.2.2.2.2.2.2.2.2).bind λ w27=>bif (l7&&(lY&&(l8&&(aD rE&&(aD l9&&(aD l46&&l3)))))) then some w27 else none).bind λ u28=>some (aag u28)))
def I6 (x0:Int) (x1:bw) (x2:aj) (x3:bU) (x4:Bool) (x5:aP) (x6:aG):Option Ve:=
 bif (allFit (fits cO) (ab (bg x1))&&(allFit (fits cB) (ab (aX x2))&&(allFit (fits gC) (ab (cU x3))&&(mI x5&&(nH x6&&true))))) then some (x0,(map cH (ab (bg x1))),(),(map bY (ab (aX x2))),(),(map gD (ab (cU x3))),(),(),x4,(jH x5),(j8 x6)) else none
def Bb (x0:bw) (x1:aj) (x2:bU) (x3:Bool) (x4:aP) (x5:aG):Option PT:=
 bif (allFit (fits cO) (ab (bg x0))&&(allFit (fits cB) (ab (aX x1))&&(allFit (fits gC) (ab (cU x2))&&(mI x4&&(nH x5&&true))))) then some ((map cH (ab (bg x0))),(),(map bY (ab (aX x1))),(),(map gD (ab (cU x2))),(),(),x3,(jH x4),(j8 x5)) else none
def sq (N:Nat) (v3:Int×aP×aG×eJ×bw×Unit×aj×Unit×bU×Unit×Unit×aP×aG) (v6:Bool×bw×Unit×aj×Unit×bU×Unit×Unit×Bool) (v7:Int×bw×Unit×aj×Unit×bU×Unit×Unit×Bool×aP×aG):Option (Ve⊕(PT)):=
 let fZ:=(AV.bool v6.2.2.2.2.2.2.2.2); let fL:=(bg v7.2.1); let fa:=(aX v7.2.2.2.1); let eu:=(cE v3.2.1); let dV:=(AV.list .bV 5 (dc v3.2.2.1)); let cX:=(cU v7.2.2.2.2.2.1); let cW:=(AV.list .bV 3 (gG v3.2.2.2.1)); let l9:=(AV.list .bV 5 (dc v7.2.2.2.2.2.2.2.2.2.2)); let l8:=(AV.list .bV 5 (dc v3.2.2.2.2.2.2.2.2.2.2.2.2)); let l7:=(AV.list .bV 2 (cE v3.2.2.2.2.2.2.2.2.2.2.2.1)); let l6:=(au [AV.fk] [AV.fk]&&true); let l5:=(cE v7.2.2.2.2.2.2.2.2.2.1); let l4:=(au [fZ] [fZ]&&true); let l3:=(au [cW] [cW]&&true); let l2:=(au [(AV.list .bV 2 eu),dV] [(AV.list .bV 2 eu),dV]&&true); let l1:=(au [l7,l8] [l7,l8]&&true); (bif (decide (v7.1 < (((eu).length:Nat):Int))) then bif (decide ((0:Int)<=v7.1/\v7.1 < ((l5).length:Int))&&fits fY (an l5 (toNat v7.1))) then (((Cw 0 v7.2.1 v7.2.2.2.1 v7.2.2.2.2.2.1 v7.2.2.2.2.2.2.2.2.1).bind λ Tl=>bif (l2&&(l6&&(l3&&(aD fL&&(aD fa&&(aD cX&&(l1&&(l4&&((au [(AV.list .bV 2 l5),l9] [(AV.list .bV 2 l5),l9]&&true)&&true))))))))) then some Tl else none).bind λ x33=>(ao (jb N v3 v6 v7) N x33).bind λ tC=>(((I6 (wrap .i64 (v7.1+1)) tC.1 tC.2.2.1 tC.2.2.2.2.1 tC.2.2.2.2.2.2.2 v7.2.2.2.2.2.2.2.2.2.1 v7.2.2.2.2.2.2.2.2.2.2).bind λ Tm=>bif (l2&&(l6&&(l3&&(gm tC.1&&(pL tC.2.2.1&&(so tC.2.2.2.2.1&&(l1&&(l4&&true)))))))) then some Tm else none).bind λ u32=>some (aaL u32))) else none else (((Bb v7.2.1 v7.2.2.2.1 v7.2.2.2.2.2.1 v7.2.2.2.2.2.2.2.2.1 v7.2.2.2.2.2.2.2.2.2.1 v7.2.2.2.2.2.2.2.2.2.2).bind λ w34=>bif (l2&&(l6&&(l3&&(aD fL&&(aD fa&&(aD cX&&(l1&&(l4&&true)))))))) then some w34 else none).bind λ u35=>some (aag u35)))
def gY (N:Nat) (v3:Int×aP×aG×eJ×bw×Unit×aj×Unit×bU×Unit×Unit×aP×aG) (xe:Int×bw×Unit×aj×Unit×bU×Unit×Unit×Bool×aP×aG) (v46:Int×bw×Unit×aj×Unit×bU×Unit×Unit×Bool):Option (Vi⊕(zv)):=
 let l56:=(AV.bool v46.2.2.2.2.2.2.2.2); let l49:=(AV.list .bV 2 (cE v3.2.1)); let l46:=(AV.list .bV 5 (dc v3.2.2.1)); let l45:=(cU v46.2.2.2.2.2.1); let XV:=(AV.list .bV 3 (gG v3.2.2.2.1)); let l40:=(AV.list .bV 5 (dc xe.2.2.2.2.2.2.2.2.2.2)); let Wf:=(AV.list .bV 5 (dc v3.2.2.2.2.2.2.2.2.2.2.2.2)); let Tt:=(AV.list .bV 2 (cE v3.2.2.2.2.2.2.2.2.2.2.2.1)); let OC:=(r7 v3.2.1 v3.2.2.1 xe.1 v46.1); let Mw:=(cE xe.2.2.2.2.2.2.2.2.2.1); let JG:=(AV.list .nil 0 []); let tD:=(aI 0); let BW:=((xe.1 == xe.1)&&((v46.1 == v46.1)&&true)); let rE:=(au [AV.fk] [AV.fk]&&true); let lY:=(bg v46.2.1); let lN:=((au [(AV.list .bV 2 Mw),l40] [(AV.list .bV 2 Mw),l40]&&true)&&true); let mu:=(au [Tt,Wf] [Tt,Wf]&&true); let l9:=(aX v46.2.2.2.1); let l8:=(au [XV] [XV]&&true); let l7:=(au [l49,l46] [l49,l46]&&true); let l4:=(mu&&((au [l56] [l56]&&true)&&lN)); let Gj:=(l7&&(rE&&(l8&&(aD lY&&(aD l9&&(aD l45&&l4)))))); let l3:=(mu&&lN); (bif (decide (v46.1 < ((((zw (d131 (an Mw (toNat xe.1))).2)).length:Nat):Int))) then (((OC.bind λ x48=>(tA N x48).bind λ y47=>let l41:=(AV.agg [(aI y47.1),(aI y47.2.1)]); let l39:=(AV.agg [(aI y47.2.2.1),(aI y47.2.2.2)]); let Ct:=(bu qv l41 tD lY); let Cu:=(bu qv l39 tD lY); let l2:=(d3 Ct); let Mx:=((l2 == l2)&&true); let l53:=((l2 == l2)&&Mx); let fZ:=(aI l2); let l1:=(d3 Cu); let Sk:=((l1 == l1)&&true); let l52:=((l1 == l1)&&Sk); let hJ:=(aI l1); bif (bL qv l41 lY&&fits p3 Ct) then bif (bL qv l39 lY&&fits p3 Cu) then bif (bL .int fZ l9&&fits p3 (bu .int fZ tD l9)) then bif (bL .int hJ l9&&fits p3 (bu .int hJ tD l9)) then (((bif (Option.isSome (gO .int fZ l9)) then ((Cv (!(Option.isSome (gO .int hJ l9))) v46.2.1 v46.2.2.2.1 v46.2.2.2.2.2.1).bind λ w49=>bif Gj then some w49 else none) else ((Cv false v46.2.1 v46.2.2.2.1 v46.2.2.2.2.2.1).bind λ w50=>bif Gj then some w50 else none)):Option (La)).bind λ JF=>let j1:=JF.2.2.2; let l50:=(bg JF.2.1); let dV:=(cU j1.2.2.1); let Wg:=(bL .int fZ dV&&fits Mu (bu .int fZ JG dV)); let cW:=(aX j1.1); let l42:=(eL .int hJ (bu .int hJ tD cW) cW); let Aq:=(l7&&(rE&&(l8&&(aD l50&&(aD cW&&(aD dV&&l4)))))); let l5:=(gG (d83 (bu .int fZ JG dV))); let l54:=((l5).length+1); let fa:=(l5++[(AV.agg [(aI xe.1),(aI v46.1),(AV.bool false)])]); let l47:=(eL .int hJ (AV.list .bV 3 fa) dV); (bif JF.1 then bif Wg then (OC.bind λ x53=>(Oc N x53).bind λ y52=>let uf:=(lP l42 (toNat ((jd .int hJ cW:Nat):Int)) (aI (wrap .i64 ((d3 (bu .int fZ tD l9))+y52.2)))); bif (BW&&((Wg&&au l5 l5)&&((l2 == l2)&&l52))) then bif ((aaN 3 3 || acL l5)&&decide ((l5).length*24<=140737488355328)) then bif (BW&&l52) then bif (decide ((l5).length=(l5).length)&&decide (0=0)&&decide ((l5).length=(l5).length)&&decide (l54*24<=140737488355328)) then bif l52 then bif bL .int hJ cW then bif Sk then bif (decide (0<=((jd .int hJ cW:Nat):Int))&&decide (toNat ((jd .int hJ cW:Nat):Int) < ad7 l42)) then bif Sk then bif ((decide (l54=(fa).length)&&decide (l54=(fa).length)&&aaN 3 3&&aZ fa)&&(bL .int hJ dV)) then ((Lx JF.2.1 (ab uf) (ab l47) true).bind λ w54=>bif (l7&&(rE&&(l8&&(aD l50&&(aD uf&&(aD l47&&l3)))))) then some w54 else none) else none else none else none else none else none else none else none else none else none else none) else none else (((bif (Option.isSome (gO .int hJ l9)) then ((Cv (!(Option.isSome (gO .int fZ l9))) JF.2.1 j1.1 j1.2.2.1).bind λ w55=>bif Aq then some w55 else none) else ((Cv false JF.2.1 j1.1 j1.2.2.1).bind λ XM=>bif Aq then some XM else none)):Option (La)).bind λ BY=>let l51:=(bg BY.2.1); let eu:=(cU BY.2.2.2.2.2.1); let Wh:=(bL .int hJ eu&&fits Mu (bu .int hJ JG eu)); let cX:=(aX BY.2.2.2.1); let l43:=(eL .int fZ (bu .int fZ tD cX) cX); let l6:=(gG (d83 (bu .int hJ JG eu))); let l55:=((l6).length+1); let fL:=(l6++[(AV.agg [(aI xe.1),(aI v46.1),(AV.bool true)])]); let l48:=(eL .int fZ (AV.list .bV 3 fL) eu); (bif BY.1 then bif Wh then (OC.bind λ x59=>(Oc N x59).bind λ y58=>let BX:=(lP l43 (toNat ((jd .int fZ cX:Nat):Int)) (aI (wrap .i64 ((d3 (bu .int hJ tD l9)) - y58.2)))); bif (BW&&((Wh&&au l6 l6)&&((l1 == l1)&&l53))) then bif ((aaN 3 3 || acL l6)&&decide ((l6).length*24<=140737488355328)) then bif (BW&&l53) then bif (decide ((l6).length=(l6).length)&&decide (0=0)&&decide ((l6).length=(l6).length)&&decide (l55*24<=140737488355328)) then bif l53 then bif bL .int fZ cX then bif Mx then bif (decide (0<=((jd .int fZ cX:Nat):Int))&&decide (toNat ((jd .int fZ cX:Nat):Int) < ad7 l43)) then bif Mx then bif ((decide (l55=(fL).length)&&decide (l55=(fL).length)&&aaN 3 3&&aZ fL)&&(bL .int fZ eu)) then ((Lx BY.2.1 (ab BX) (ab l48) true).bind λ w60=>bif (l7&&(rE&&(l8&&(aD l51&&(aD BX&&(aD l48&&l3)))))) then some w60 else none) else none else none else none else none else none else none else none else none else none else none) else none else ((Fb BY.2.1 BY.2.2.2.1 BY.2.2.2.2.2.1 v46.2.2.2.2.2.2.2.2).bind λ w61=>bif (l7&&(rE&&(l8&&(aD l51&&(aD cX&&(aD eu&&l3)))))) then some w61 else none))))) else none else none else none else none):Option (zv)).bind λ o62=>(((Cw (wrap .i64 (v46.1+1)) o62.1 o62.2.2.1 o62.2.2.2.2.1 o62.2.2.2.2.2.2.2).bind λ w63=>bif (l7&&(rE&&(l8&&(gm o62.1&&(pL o62.2.2.1&&(so o62.2.2.2.2.1&&l3)))))) then some w63 else none).bind λ u64=>some (aaL u64))) else (((Fb v46.2.1 v46.2.2.2.1 v46.2.2.2.2.2.1 v46.2.2.2.2.2.2.2.2).bind λ w65=>bif (l7&&(rE&&(l8&&(aD lY&&(aD l9&&(aD l45&&l3)))))) then some w65 else none).bind λ u66=>some (aag u66)))
def pY (N:Nat) (v3:Int×aP×aG×eJ×bw×Unit×aj×Unit×bU×Unit×Unit×aP×aG) (xe:Int×bw×Unit×aj×Unit×bU×Unit×Unit×Bool×aP×aG):Option (Ve⊕(PT)):=
 let fa:=(bg xe.2.1); let eu:=(aX xe.2.2.2.1); let dV:=(cE v3.2.1); let cX:=(AV.list .bV 5 (dc v3.2.2.1)); let cW:=(cU xe.2.2.2.2.2.1); let l9:=(AV.list .bV 3 (gG v3.2.2.2.1)); let l8:=(AV.list .bV 5 (dc xe.2.2.2.2.2.2.2.2.2.2)); let l7:=(AV.list .bV 5 (dc v3.2.2.2.2.2.2.2.2.2.2.2.2)); let l6:=(AV.list .bV 2 (cE v3.2.2.2.2.2.2.2.2.2.2.2.1)); let l5:=(au [AV.fk] [AV.fk]&&true); let l4:=(cE xe.2.2.2.2.2.2.2.2.2.1); let l3:=(au [l9] [l9]&&true); let l2:=(au [(AV.list .bV 2 dV),cX] [(AV.list .bV 2 dV),cX]&&true); let l1:=(au [l6,l7] [l6,l7]&&true); (bif (decide (xe.1 < (((dV).length:Nat):Int))) then bif (decide ((0:Int)<=xe.1/\xe.1 < ((l4).length:Int))&&fits fY (an l4 (toNat xe.1))) then (((Cw 0 xe.2.1 xe.2.2.2.1 xe.2.2.2.2.2.1 xe.2.2.2.2.2.2.2.2.1).bind λ w67=>bif (l2&&(l5&&(l3&&(aD fa&&(aD eu&&(aD cW&&(l1&&((au [(AV.list .bV 2 l4),l8] [(AV.list .bV 2 l4),l8]&&true)&&true)))))))) then some w67 else none).bind λ x71=>(ao (gY N v3 xe) N x71).bind λ o68=>(((I6 (wrap .i64 (xe.1+1)) o68.1 o68.2.2.1 o68.2.2.2.2.1 o68.2.2.2.2.2.2.2 xe.2.2.2.2.2.2.2.2.2.1 xe.2.2.2.2.2.2.2.2.2.2).bind λ w69=>bif (l2&&(l5&&(l3&&(gm o68.1&&(pL o68.2.2.1&&(so o68.2.2.2.2.1&&(l1&&true))))))) then some w69 else none).bind λ u70=>some (aaL u70))) else none else (((Bb xe.2.1 xe.2.2.2.1 xe.2.2.2.2.2.1 xe.2.2.2.2.2.2.2.2.1 xe.2.2.2.2.2.2.2.2.2.1 xe.2.2.2.2.2.2.2.2.2.2).bind λ w72=>bif (l2&&(l5&&(l3&&(aD fa&&(aD eu&&(aD cW&&(l1&&true))))))) then some w72 else none).bind λ u73=>some (aag u73)))
def mS (N:Nat) (v3:Int×aP×aG×eJ×bw×Unit×aj×Unit×bU×Unit×Unit×aP×aG) (v6:Bool×bw×Unit×aj×Unit×bU×Unit×Unit×Bool):Option ((Bool×bw×Unit×aj×Unit×bU×Unit×Unit×Bool)⊕(zv)):=
 let hJ:=(AV.bool v6.2.2.2.2.2.2.2.2); let fZ:=(bg v6.2.1); let fL:=(aX v6.2.2.2.1); let fa:=(AV.list .bV 2 (cE v3.2.1)); let eu:=(AV.list .bV 5 (dc v3.2.2.1)); let dV:=(cU v6.2.2.2.2.2.1); let cX:=(AV.list .bV 3 (gG v3.2.2.2.1)); let cW:=(AV.list .bV 5 (dc v3.2.2.2.2.2.2.2.2.2.2.2.2)); let l9:=(AV.list .bV 2 (cE v3.2.2.2.2.2.2.2.2.2.2.2.1)); let l4:=(au [AV.fk] [AV.fk]&&true); let l3:=(au [cX] [cX]&&true); let l2:=(au [fa,eu] [fa,eu]&&true); let l1:=(au [l9,cW] [l9,cW]&&true); let l5:=(l1&&((au [hJ] [hJ]&&true)&&true)); (bif v6.1 then (((((I6 0 v6.2.1 v6.2.2.2.1 v6.2.2.2.2.2.1 false v3.2.1 v3.2.2.1).bind λ XN=>bif (l2&&(l4&&(l3&&(aD fZ&&(aD fL&&(aD dV&&l5)))))) then some XN else none).bind λ x39=>(ao (sq N v3 v6) N x39).bind λ Gi=>let j1:=Gi.2.2.2.2; ((Bb Gi.1 Gi.2.2.1 j1.1 j1.2.2.2.1 j1.2.2.2.2.1 j1.2.2.2.2.2).bind λ Lj=>bif (l2&&(l4&&(l3&&(gm Gi.1&&(pL Gi.2.2.1&&(so j1.1&&l5)))))) then some Lj else none)):Option (PT)).bind λ P6=>let l8:=(bg P6.1); let l7:=(aX P6.2.2.1); let l6:=(cU P6.2.2.2.2.1); (((bif (allFit (fits cO) (ab l8)&&(allFit (fits cB) (ab l7)&&(allFit (fits gC) (ab l6)&&true))) then some (P6.2.2.2.2.2.2.2.1,(map cH (ab l8)),(),(map bY (ab l7)),(),(map gD (ab l6)),(),(),v6.2.2.2.2.2.2.2.2) else none).bind λ Vu=>bif (l2&&(l4&&(l3&&(aD l8&&(aD l7&&(aD l6&&(l1&&true))))))) then some Vu else none).bind λ u42=>some (aaL u42))) else (((Fb v6.2.1 v6.2.2.2.1 v6.2.2.2.2.2.1 v6.2.2.2.2.2.2.2.2).bind λ R5=>bif (l2&&(l4&&(l3&&(aD fZ&&(aD fL&&(aD dV&&(l1&&true))))))) then some R5 else none).bind λ u44=>some (aag u44)))
def OD (x0:Int) (x1:bw) (x2:aj) (x3:bU):Option (Int×bw×Unit×aj×Unit×bU×Unit×Unit):=
 bif (allFit (fits cO) (ab (bg x1))&&(allFit (fits cB) (ab (aX x2))&&(allFit (fits gC) (ab (cU x3))&&true))) then some (x0,(map cH (ab (bg x1))),(),(map bY (ab (aX x2))),(),(map gD (ab (cU x3))),(),()) else none
def Wi (x0:bw) (x1:aj) (x2:bU):Option Vj:=
 bif (allFit (fits cO) (ab (bg x0))&&(allFit (fits cB) (ab (aX x1))&&(allFit (fits gC) (ab (cU x2))&&true))) then some ((map cH (ab (bg x0))),(),(map bY (ab (aX x1))),(),(map gD (ab (cU x2))),(),()) else none
def gn (N:Nat) (v3:Int×aP×aG×eJ×bw×Unit×aj×Unit×bU×Unit×Unit×aP×aG) (v4:Int×bw×Unit×aj×Unit×bU×Unit×Unit):Option ((Int×bw×Unit×aj×Unit×bU×Unit×Unit)⊕(Vj)):=
 let BX:=fj; let uf:=(Wi v4.2.1 v4.2.2.2.1 v4.2.2.2.2.2.1); let rE:=(AV.list .bV 3 (gG v3.2.2.2.1)); let lY:=(AV.agg [(aI v3.1),(aI v4.1)]); let lN:=(cE v3.2.1); let mu:=(AV.list .bV 5 (dc v3.2.2.2.2.2.2.2.2.2.2.2.2)); let fZ:=(dc v3.2.2.1); let cX:=(cE v3.2.2.2.2.2.2.2.2.2.2.2.1); let l8:=(cU v4.2.2.2.2.2.1); let l7:=(au [AV.fk] [AV.fk]&&true); let l6:=(bg v4.2.1); let l5:=(aX v4.2.2.2.1); let l4:=(au [rE] [rE]&&true); let l3:=(au [(AV.list .bV 2 lN),(AV.list .bV 5 fZ)] [(AV.list .bV 2 lN),(AV.list .bV 5 fZ)]&&true); let l2:=(bu qv lY (aI 0) l6); let cW:=(aI (d3 l2)); let fa:=(eL .int cW (aI 0) l5); let l9:=(bL qv lY l6&&fits p3 l2); let l1:=((au [(AV.list .bV 2 cX),mu] [(AV.list .bV 2 cX),mu]&&true)&&true); let fL:=(l3&&(l7&&(l4&&(aD l6&&(aD l5&&(aD l8&&l1)))))); (bif (decide (v4.1 < ((((zw (d131 (an cX (toNat v3.1))).2)).length:Nat):Int))) then ((bif l9 then bif (bL .int cW l5&&fits p3 (bu .int cW (aI 0) l5)) then (bif (Option.isSome (gO .int cW l5)) then (uf.bind λ w5=>bif fL then some w5 else none) else bif l9 then bif (bL .int cW l5) then ((((((((bif (allFit (fits cO) (ab l6)&&(allFit (fits cB) (ab fa)&&(allFit (fits gC) (ab l8)&&(allFit (fits fY) lN&&(allFit (fits ir) fZ&&true))))) then some (0,(map cH (ab l6)),(),(map bY (ab fa)),(),(map gD (ab l8)),(),(),false,(map d131 lN),(map d110 fZ)) else none:Option (Int×bw×Unit×aj×Unit×bU×Unit×Unit×Bool×(List (BX×aj))×aG)).bind λ w74=>bif (l3&&(l7&&(l4&&(aD l6&&(aD fa&&(aD l8&&l1)))))) then some w74 else none).bind λ x77=>(ao (pY N v3) N x77).bind λ o75=>let j1:=o75.2.2.2.2; ((Bb o75.1 o75.2.2.1 j1.1 j1.2.2.2.1 j1.2.2.2.2.1 j1.2.2.2.2.2).bind λ XU=>bif (l3&&(l7&&(l4&&(gm o75.1&&(pL o75.2.2.1&&(so j1.1&&l1)))))) then some XU else none)):Option ((bw×Unit×aj×Unit×bU×Unit×Unit×Bool×(List (BX×aj))×aG))).bind λ Wj=>let hJ:=(bg Wj.1); let eu:=(aX Wj.2.2.1); let dV:=(cU Wj.2.2.2.2.1); (((bif (allFit (fits cO) (ab hJ)&&(allFit (fits cB) (ab eu)&&(allFit (fits gC) (ab dV)&&true))) then some (Wj.2.2.2.2.2.2.2.1,(map cH (ab hJ)),(),(map bY (ab eu)),(),(map gD (ab dV)),(),(),Wj.2.2.2.2.2.2.2.1) else none).bind λ w79=>bif (l3&&(l7&&(l4&&(aD hJ&&(aD eu&&(aD dV&&l1)))))) then some w79 else none).bind λ u80=>some (aaL u80))):Option ((Bool×bw×Unit×aj×Unit×bU×Unit×Unit×Bool)⊕(zv))).bind λ r83=>(ab6 (λ x84=>(ao (mS N v3) N x84)) (λ x84=>some x84) r83:Option (zv))).bind λ We=>((Wi We.1 We.2.2.1 We.2.2.2.2.1).bind λ w82=>bif (l3&&(l7&&(l4&&(gm We.1&&(pL We.2.2.1&&(so We.2.2.2.2.1&&l1)))))) then some w82 else none)) else none else none) else none else none:Option (Vj)).bind λ o85=>(((OD (wrap .i64 (v4.1+1)) o85.1 o85.2.2.1 o85.2.2.2.2.1).bind λ w86=>bif (l3&&(l7&&(l4&&(gm o85.1&&(pL o85.2.2.1&&(so o85.2.2.2.2.1&&l1)))))) then some w86 else none).bind λ u87=>some (aaL u87))) else ((uf.bind λ w88=>bif fL then some w88 else none).bind λ u89=>some (aag u89)))
def nN (N:Nat) (a0:aP×aG) (v3:Int×aP×aG×eJ×bw×Unit×aj×Unit×bU×Unit×Unit×aP×aG):Option ((Int×aP×aG×eJ×bw×Unit×aj×Unit×bU×Unit×Unit×aP×aG)⊕((aP×aG×eJ×bw×Unit×aj×Unit×bU×Unit×Unit×aP×aG))):=
 let fa:=fj; let cX:=(au [AV.fk] [AV.fk]&&true); let l8:=(cE v3.2.1); let l7:=(dc v3.2.2.1); let l6:=(bg v3.2.2.2.2.1); let l5:=(gG v3.2.2.2.1); let l4:=(aX v3.2.2.2.2.2.2.1); let l3:=(cU v3.2.2.2.2.2.2.2.2.1); let l2:=(dc v3.2.2.2.2.2.2.2.2.2.2.2.2); let l1:=(cE v3.2.2.2.2.2.2.2.2.2.2.2.1); let dV:=(allFit (fits fY) l1&&(allFit (fits ir) l2&&true)); (bif (decide (v3.1 < (((cE a0.1).length:Nat):Int))) then bif (decide ((0:Int)<=v3.1/\v3.1 < ((l1).length:Int))&&fits fY (an l1 (toNat v3.1))) then (((OD 0 v3.2.2.2.2.1 v3.2.2.2.2.2.2.1 v3.2.2.2.2.2.2.2.2.1).bind λ w90=>bif ((au [(AV.list .bV 2 l8),(AV.list .bV 5 l7)] [(AV.list .bV 2 l8),(AV.list .bV 5 l7)]&&true)&&(cX&&((au [(AV.list .bV 3 l5)] [(AV.list .bV 3 l5)]&&true)&&(aD l6&&(aD l4&&(aD l3&&((au [(AV.list .bV 2 l1),(AV.list .bV 5 l2)] [(AV.list .bV 2 l1),(AV.list .bV 5 l2)]&&true)&&true))))))) then some w90 else none).bind λ x94=>(ao (gn N v3) N x94).bind λ o91=>let eu:=(bg o91.1); let cW:=(aX o91.2.2.1); let l9:=(cU o91.2.2.2.2.1); (((bif (allFit (fits fY) l8&&(allFit (fits ir) l7&&(allFit (fits kU) l5&&(allFit (fits cO) (ab eu)&&(allFit (fits cB) (ab cW)&&(allFit (fits gC) (ab l9)&&dV)))))) then some ((wrap .i64 (v3.1+1)),(map d131 l8),(map d110 l7),(map d119 l5),(map cH (ab eu)),(),(map bY (ab cW)),(),(map gD (ab l9)),(),(),(map d131 l1),(map d110 l2)) else none).bind λ w92=>bif (cX&&(aD eu&&(aD cW&&(aD l9&&true)))) then some w92 else none).bind λ u93=>some (aaL u93))) else none else (((bif (allFit (fits fY) l8&&(allFit (fits ir) l7&&(allFit (fits kU) l5&&(allFit (fits cO) (ab l6)&&(allFit (fits cB) (ab l4)&&(allFit (fits gC) (ab l3)&&dV)))))) then some ((map d131 l8),(map d110 l7),(map d119 l5),(map cH (ab l6)),(),(map bY (ab l4)),(),(map gD (ab l3)),(),(),(map d131 l1),(map d110 l2)) else none).bind λ w95=>bif (cX&&(aD l6&&(aD l4&&(aD l3&&true)))) then some w95 else none).bind λ u96=>some (aag u96)))
def Bc (x0:Int) (x1:bw) (x2:aj) (x3:bU) (x4:ah) (x5:ah) (x6:List AV) (x7:Bool):Option Va:=
 bif ((x7&&x7)&&(allFit (fits cO) (ab (bg x1))&&(allFit (fits cB) (ab (aX x2))&&(allFit (fits gC) (ab (cU x3))&&(F3 x4&&(F3 x5&&(allFit (fits kU) x6&&true))))))) then some ((),x0,(map cH (ab (bg x1))),(),(map bY (ab (aX x2))),(),(map gD (ab (cU x3))),(),(),(K3 x4),(K3 x5),(map d119 x6)) else none
def Ly (x0:bw) (x1:aj) (x2:bU) (x3:ah) (x4:ah) (x5:eJ) (x6:Bool):Option PR:=
 bif ((x6&&x6)&&(allFit (fits cO) (ab (bg x0))&&(allFit (fits cB) (ab (aX x1))&&(allFit (fits gC) (ab (cU x2))&&(F3 x3&&(F3 x4&&(Om x5&&true))))))) then some ((),(map cH (ab (bg x0))),(),(map bY (ab (aX x1))),(),(map gD (ab (cU x2))),(),(),(K3 x3),(K3 x4),(Gk x5)) else none
def pZ (N:Nat) (cR:Int×aP×aG×Unit×eJ×bw×Unit×aj×Unit×bU×Unit×Unit×aP×aG×ah×ah×aP×aG) (hY:Int×Unit×eJ×bw×Unit×aj×Unit×bU×Unit×Unit×ah×ah) (wF:wZ) (sr:Unit×Int×bw×Unit×aj×Unit×bU×Unit×Unit×ah×ah×eJ):Option (Va⊕(PR)):=
 let dV:=(AV.list .bV 2 (cE cR.2.1)); let cX:=(AV.list .bV 3 (gG hY.2.2.1)); let cW:=(AV.list .bV 5 (dc cR.2.2.1)); let l9:=(AV.list .bV 2 (cE cR.2.2.2.2.2.2.2.2.2.2.2.2.1)); let l8:=(AV.list .bV 5 (dc cR.2.2.2.2.2.2.2.2.2.2.2.2.2.1)); let l7:=(AV.list .bV 5 (dc cR.2.2.2.2.2.2.2.2.2.2.2.2.2.2.2.2.2)); let l6:=(AV.list .bV 2 (cE cR.2.2.2.2.2.2.2.2.2.2.2.2.2.2.2.2.1)); let l3:=(gG sr.2.2.2.2.2.2.2.2.2.2.2); let eu:=((l3).length); let l2:=((au [dV,cW] [dV,cW]&&true)&&((au [AV.fk] [AV.fk]&&true)&&((au [cX] [cX]&&true)&&(gm sr.2.2.1&&(pL sr.2.2.2.2.1&&(so sr.2.2.2.2.2.2.1&&((au [l9,l8] [l9,l8]&&true)&&((au [l6,l7] [l6,l7]&&true)&&true)))))))); let l1:=(gG (d83 (bu .int (aI (d3 (bu qv (AV.agg [(aI wF.2.2.1),(aI wF.2.2.2)]) (aI 0) (bg hY.2.2.2.1)))) (AV.list .nil 0 []) (cU hY.2.2.2.2.2.2.2.1)))); let l5:=(an l1 (toNat sr.2.1)); let l4:=(l3++[(AV.agg [(aI (d119 l5).1),(aI (d119 l5).2.1),(AV.bool (!(d119 l5).2.2))])]); (bif (decide (sr.2.1 < (((l1).length:Nat):Int))) then bif (decide ((0:Int)<=sr.2.1/\sr.2.1 < ((l1).length:Int))&&fits kU l5) then bif (decide (eu=(l3).length)&&decide (0=0)&&decide (eu=eu)&&decide (((l3).length+1)*24<=140737488355328)) then (((Bc (wrap .i64 (sr.2.1+1)) sr.2.2.1 sr.2.2.2.2.1 sr.2.2.2.2.2.2.1 sr.2.2.2.2.2.2.2.2.2.1 sr.2.2.2.2.2.2.2.2.2.2.1 l4 (aaN ((l3).length+1) (l4).length)).bind λ aqI=>bif l2 then some aqI else none).bind λ aqJ=>some (aaL aqJ)) else none else none else (((Ly sr.2.2.1 sr.2.2.2.2.1 sr.2.2.2.2.2.2.1 sr.2.2.2.2.2.2.2.2.2.1 sr.2.2.2.2.2.2.2.2.2.2.1 sr.2.2.2.2.2.2.2.2.2.2.2 (aaN eu (l3).length)).bind λ aqK=>bif l2 then some aqK else none).bind λ aqL=>some (aag aqL)))
def aho (x0:Int) (x1:Int) (x2:bw) (x3:aj) (x4:bU) (x5:ah) (x6:ah) (x7:List AV):Option Vb:=
 bif (allFit (fits cO) (ab (bg x2))&&(allFit (fits cB) (ab (aX x3))&&(allFit (fits gC) (ab (cU x4))&&(F3 x5&&(F3 x6&&(allFit (fits kU) x7&&true)))))) then some (x0,x1,(map cH (ab (bg x2))),(),(map bY (ab (aX x3))),(),(map gD (ab (cU x4))),(),(),(K3 x5),(K3 x6),(map d119 x7)) else none
def sw (N:Nat) (cR:Int×aP×aG×Unit×eJ×bw×Unit×aj×Unit×bU×Unit×Unit×aP×aG×ah×ah×aP×aG) (hY:Int×Unit×eJ×bw×Unit×aj×Unit×bU×Unit×Unit×ah×ah) (Sl:PR) (v117:Int×Int×bw×Unit×aj×Unit×bU×Unit×Unit×ah×ah×eJ):Option (Vb⊕(Vf)):=
 let mu:=(L3 v117.2.2.2.2.2.2.2.2.2.1); let hJ:=(L3 v117.2.2.2.2.2.2.2.2.2.2.1); let fZ:=(AV.list .bV 2 (cE cR.2.1)); let fL:=(AV.list .bV 3 (gG hY.2.2.1)); let fa:=(AV.list .bV 5 (dc cR.2.2.1)); let eu:=(AV.list .bV 2 (cE cR.2.2.2.2.2.2.2.2.2.2.2.2.1)); let dV:=(AV.list .bV 5 (dc cR.2.2.2.2.2.2.2.2.2.2.2.2.2.1)); let cX:=(AV.list .bV 5 (dc cR.2.2.2.2.2.2.2.2.2.2.2.2.2.2.2.2.2)); let cW:=(AV.list .bV 2 (cE cR.2.2.2.2.2.2.2.2.2.2.2.2.2.2.2.2.1)); let l9:=(bg v117.2.2.1); let l8:=(aX v117.2.2.2.2.1); let l7:=(cU v117.2.2.2.2.2.2.1); let l6:=(0+toNat v117.1); let l5:=(0+toNat v117.2.1); let l4:=(gG Sl.2.2.2.2.2.2.2.2.2.2).length; let l2:=(gG v117.2.2.2.2.2.2.2.2.2.2.2); let lY:=(d119 (an l2 l6)); let lN:=(d119 (an l2 l5)); let l3:=(aC l2 l6 (AV.agg [(aI lN.1),(aI lN.2.1),(AV.bool lN.2.2)])); let l1:=((au [fZ,fa] [fZ,fa]&&true)&&((au [AV.fk] [AV.fk]&&true)&&((au [fL] [fL]&&true)&&(aD l9&&(aD l8&&(aD l7&&((au [eu,dV] [eu,dV]&&true)&&((au [cW,cX] [cW,cX]&&true)&&true)))))))); (bif (decide (v117.1 < v117.2.1)) then bif decide ((0:Int)<=v117.2.1/\v117.2.1 < ((l4:Nat):Int)) then bif (decide (l4=(l2).length)&&decide (l5 < (l2).length)&&fits kU (an l2 l5)) then bif decide ((0:Int)<=v117.1/\v117.1 < ((l4:Nat):Int)) then bif (decide (l4=(l2).length)&&decide (l6 < (l2).length)&&fits kU (an l2 l6)) then bif decide ((0:Int)<=v117.1/\v117.1 < ((l4:Nat):Int)) then bif (decide (l4=(l2).length)&&decide (l6 < (l2).length)) then bif decide ((0:Int)<=v117.2.1/\v117.2.1 < ((l4:Nat):Int)) then bif (decide (l4=(l3).length)&&decide (l5 < (l3).length)) then (((aho (wrap .i64 (v117.1+1)) (wrap .i64 (v117.2.1 - 1)) v117.2.2.1 v117.2.2.2.2.1 v117.2.2.2.2.2.2.1 v117.2.2.2.2.2.2.2.2.2.1 v117.2.2.2.2.2.2.2.2.2.2.1 (aC l3 l5 (AV.agg [(aI lY.1),(aI lY.2.1),(AV.bool lY.2.2)]))).bind λ aqM=>bif l1 then some aqM else none).bind λ aqN=>some (aaL aqN)) else none else none else none else none else none else none else none else none else (((bif (allFit (fits cO) (ab l9)&&(allFit (fits cB) (ab l8)&&(allFit (fits gC) (ab l7)&&(allFit (fits p3) mu&&(allFit (fits p3) hJ&&(allFit (fits kU) l2&&true)))))) then some ((map cH (ab l9)),(),(map bY (ab l8)),(),(map gD (ab l7)),(),(),(map d3 mu),(map d3 hJ),(map d119 l2)) else none).bind λ aqO=>bif l1 then some aqO else none).bind λ aqP=>some (aag aqP)))
def kV (N:Nat) (cR:Int×aP×aG×Unit×eJ×bw×Unit×aj×Unit×bU×Unit×Unit×aP×aG×ah×ah×aP×aG) (hY:Int×Unit×eJ×bw×Unit×aj×Unit×bU×Unit×Unit×ah×ah) (wF:wZ) (Cx:Vf) (v124:Int×Int×bw×Unit×aj×Unit×bU×Unit×Unit×ah×ah):Option ((Int×Int×bw×Unit×aj×Unit×bU×Unit×Unit×ah×ah)⊕((Int×bw×Unit×aj×Unit×bU×Unit×Unit×ah×ah))):=
 let lN:=(AV.list .bV 2 (cE cR.2.1)); let mu:=(AV.list .bV 3 (gG hY.2.2.1)); let hJ:=(AV.list .bV 5 (dc cR.2.2.1)); let fZ:=(AV.list .bV 3 (gG Cx.2.2.2.2.2.2.2.2.2)); let fL:=(AV.list .bV 2 (cE cR.2.2.2.2.2.2.2.2.2.2.2.2.1)); let fa:=(AV.list .bV 5 (dc cR.2.2.2.2.2.2.2.2.2.2.2.2.2.1)); let eu:=(AV.list .bV 5 (dc cR.2.2.2.2.2.2.2.2.2.2.2.2.2.2.2.2.2)); let dV:=(AV.list .bV 2 (cE cR.2.2.2.2.2.2.2.2.2.2.2.2.2.2.2.2.1)); let cX:=(L3 v124.2.2.2.2.2.2.2.2.2.2); let cW:=(L3 v124.2.2.2.2.2.2.2.2.2.1); let l8:=(AV.list .full 3 [(AV.agg [(aI cR.1),(aI hY.1),(AV.bool false)])]); let l7:=(bg v124.2.2.1); let lY:=(map cH (ab l7)); let l6:=(aX v124.2.2.2.2.1); let rE:=(map bY (ab l6)); let l5:=(cU v124.2.2.2.2.2.2.1); let uf:=(map gD (ab l5)); let l4:=(AV.list .bV 3 (gG (d83 (bu .int (aI (d3 (bu qv (AV.agg [(aI wF.1),(aI wF.2.1)]) (aI 0) (bg hY.2.2.2.1)))) (AV.list .nil 0 []) (cU Cx.2.2.2.2.1))))); let l3:=(allFit (fits cO) (ab l7)&&(allFit (fits cB) (ab l6)&&(allFit (fits gC) (ab l5)&&(allFit (fits p3) cW&&(allFit (fits p3) cX&&true))))); let l2:=(an [l4,l8,fZ] (toNat v124.2.1)); let l9:=(wrap .i64 (v124.1+((((gG (d83 l2))).length:Nat):Int))); let l1:=((au [lN,hJ] [lN,hJ]&&true)&&((au [AV.fk] [AV.fk]&&true)&&((au [mu] [mu]&&true)&&(aD l7&&(aD l6&&(aD l5&&((au [fL,fa] [fL,fa]&&true)&&((au [dV,eu] [dV,eu]&&true)&&true)))))))); (bif (decide (v124.2.1 < 3)) then bif (decide ((0:Int)<=v124.2.1/\v124.2.1 < (([l4,l8,fZ]).length:Int))&&fits Mu l2) then (bif (decide (l9 < 0)) then none else (((bif l3 then some (l9,(wrap .i64 (v124.2.1+1)),lY,(),rE,(),uf,(),(),(map d3 cW),(map d3 cX)) else none).bind λ aqQ=>bif l1 then some aqQ else none).bind λ aqR=>some (aaL aqR))) else none else (((bif l3 then some (v124.1,lY,(),rE,(),uf,(),(),(map d3 cW),(map d3 cX)) else none).bind λ aqS=>bif l1 then some aqS else none).bind λ aqT=>some (aag aqT)))
def jU (N:Nat) (cR:Int×aP×aG×Unit×eJ×bw×Unit×aj×Unit×bU×Unit×Unit×aP×aG×ah×ah×aP×aG) (hY:Int×Unit×eJ×bw×Unit×aj×Unit×bU×Unit×Unit×ah×ah) (wF:wZ) (Cx:Vf) (v131:Unit×Int×bw×Unit×aj×Unit×bU×Unit×Unit×ah×ah×eJ):Option (Va⊕(PR)):=
 let fa:=(AV.list .bV 2 (cE cR.2.1)); let eu:=(AV.list .bV 3 (gG hY.2.2.1)); let dV:=(AV.list .bV 5 (dc cR.2.2.1)); let cX:=(AV.list .bV 3 (gG Cx.2.2.2.2.2.2.2.2.2)); let cW:=(AV.list .bV 2 (cE cR.2.2.2.2.2.2.2.2.2.2.2.2.1)); let l8:=(AV.list .bV 5 (dc cR.2.2.2.2.2.2.2.2.2.2.2.2.2.1)); let l7:=(AV.list .bV 5 (dc cR.2.2.2.2.2.2.2.2.2.2.2.2.2.2.2.2.2)); let l6:=(AV.list .bV 2 (cE cR.2.2.2.2.2.2.2.2.2.2.2.2.2.2.2.2.1)); let l5:=(AV.list .full 3 [(AV.agg [(aI cR.1),(aI hY.1),(AV.bool false)])]); let l4:=(AV.list .bV 3 (gG (d83 (bu .int (aI (d3 (bu qv (AV.agg [(aI wF.1),(aI wF.2.1)]) (aI 0) (bg hY.2.2.2.1)))) (AV.list .nil 0 []) (cU Cx.2.2.2.2.1))))); let l3:=(gG v131.2.2.2.2.2.2.2.2.2.2.2); let fL:=((l3).length); let l2:=((au [fa,dV] [fa,dV]&&true)&&((au [AV.fk] [AV.fk]&&true)&&((au [eu] [eu]&&true)&&(gm v131.2.2.1&&(pL v131.2.2.2.2.1&&(so v131.2.2.2.2.2.2.1&&((au [cW,l8] [cW,l8]&&true)&&((au [l6,l7] [l6,l7]&&true)&&true)))))))); let l1:=(an [l4,l5,cX] (toNat v131.2.1)); let l9:=(gG (d83 l1)); (bif (decide (v131.2.1 < 3)) then bif (decide ((0:Int)<=v131.2.1/\v131.2.1 < (([l4,l5,cX]).length:Int))&&fits Mu l1) then bif (decide (fL=(l3).length)&&decide (0=0)&&decide (fL=fL)&&decide (((l3).length+(l9).length)*24<=140737488355328)) then (((Bc (wrap .i64 (v131.2.1+1)) v131.2.2.1 v131.2.2.2.2.1 v131.2.2.2.2.2.2.1 v131.2.2.2.2.2.2.2.2.2.1 v131.2.2.2.2.2.2.2.2.2.2.1 (l3++l9) (aaN ((l3).length+(l9).length) ((l3++l9)).length)).bind λ aqU=>bif l2 then some aqU else none).bind λ aqV=>some (aaL aqV)) else none else none else (((Ly v131.2.2.1 v131.2.2.2.2.1 v131.2.2.2.2.2.2.1 v131.2.2.2.2.2.2.2.2.2.1 v131.2.2.2.2.2.2.2.2.2.2.1 v131.2.2.2.2.2.2.2.2.2.2.2 (aaN fL (l3).length)).bind λ aqW=>bif l2 then some aqW else none).bind λ aqX=>some (aag aqX)))
def Lz (x0:Int) (x1:eJ) (x2:bw) (x3:aj) (x4:bU) (x5:ah) (x6:ah):Option acG:=
 bif (Om x1&&(allFit (fits cO) (ab (bg x2))&&(allFit (fits cB) (ab (aX x3))&&(allFit (fits gC) (ab (cU x4))&&(F3 x5&&(F3 x6&&true)))))) then some (x0,(),(Gk x1),(map cH (ab (bg x2))),(),(map bY (ab (aX x3))),(),(map gD (ab (cU x4))),(),(),(K3 x5),(K3 x6)) else none
def Wk (x0:eJ) (x1:bw) (x2:aj) (x3:bU) (x4:ah) (x5:ah):Option K7:=
 bif (Om x0&&(allFit (fits cO) (ab (bg x1))&&(allFit (fits cB) (ab (aX x2))&&(allFit (fits gC) (ab (cU x3))&&(F3 x4&&(F3 x5&&true)))))) then some ((),(Gk x0),(map cH (ab (bg x1))),(),(map bY (ab (aX x2))),(),(map gD (ab (cU x3))),(),(),(K3 x4),(K3 x5)) else none
def fW (N:Nat) (cR:Int×aP×aG×Unit×eJ×bw×Unit×aj×Unit×bU×Unit×Unit×aP×aG×ah×ah×aP×aG) (hY:Int×Unit×eJ×bw×Unit×aj×Unit×bU×Unit×Unit×ah×ah):Option (acG⊕(K7⊕K7)):=
 let XV:=(fits p3); let Tt:=(r7 cR.2.1 cR.2.2.1 cR.1 hY.1); let Wh:=(AV.list .bV 2 (cE cR.2.1)); let Wg:=(AV.list .bV 5 (dc cR.2.2.1)); let OC:=(AV.list .bV 3 (gG hY.2.2.1)); let Mw:=(aI 0); let Aq:=(AV.list .bV 2 (cE cR.2.2.2.2.2.2.2.2.2.2.2.2.1)); let Gj:=(AV.list .bV 5 (dc cR.2.2.2.2.2.2.2.2.2.2.2.2.2.1)); let Ct:=(AV.list .bV 5 (dc cR.2.2.2.2.2.2.2.2.2.2.2.2.2.2.2.2.2)); let hJ:=(adf (toNat 0) (AV.agg [Mw,Mw,(AV.bool false)])); let fZ:=(au [AV.fk] [AV.fk]&&true); let fL:=(cE cR.2.2.2.2.2.2.2.2.2.2.2.2.2.2.2.2.1); let l8:=(bg hY.2.2.2.1); let l7:=(cU hY.2.2.2.2.2.2.2.1); let l6:=(au [OC] [OC]&&true); let l5:=(aX hY.2.2.2.2.2.1); let l4:=(au [Wh,Wg] [Wh,Wg]&&true); let l1:=((au [Aq,Gj] [Aq,Gj]&&true)&&((au [(AV.list .bV 2 fL),Ct] [(AV.list .bV 2 fL),Ct]&&true)&&true)); let lN:=(aD l8&&(aD l5&&(aD l7&&l1))); (bif (decide (hY.1 < ((((zw (d131 (an fL (toNat cR.1))).2)).length:Nat):Int))) then (Tt.bind λ aqY=>(tA N aqY).bind λ wF=>let Sk:=(AV.agg [(aI wF.1),(aI wF.2.1)]); let JG:=(AV.agg [(aI wF.2.2.1),(aI wF.2.2.2)]); let l3:=(bu qv Sk Mw l8); let rE:=(aI (d3 l3)); let cW:=(bu .int rE Mw l5); let Wf:=(bL .int rE l5&&fits p3 cW); let l2:=(bu qv JG Mw l8); let uf:=(aI (d3 l2)); let cX:=(bu .int uf (AV.list .nil 0 []) l7); let Mx:=((gG (d83 cX))); let l9:=(bu .int uf Mw l5); let l40:=(bL .int uf l5&&fits p3 l9); bif (bL qv Sk l8&&fits p3 l3) then bif (bL qv JG l8&&fits p3 l2) then bif l40 then bif Wf then (Tt.bind λ aqZ=>(Oc N aqZ).bind λ aq0=>bif ((Wf&&((d3 cW) == (d3 cW)))&&(((d3 l3) == (d3 l3))&&((l40&&((d3 l9) == (d3 l9)))&&(((d3 l2) == (d3 l2))&&true)))) then (bif ((wrap .i64 ((d3 l9) - (d3 cW))) == aq0.2) then (((Lz (wrap .i64 (hY.1+1)) hY.2.2.1 hY.2.2.2.1 hY.2.2.2.2.2.1 hY.2.2.2.2.2.2.2.1 hY.2.2.2.2.2.2.2.2.2.2.1 hY.2.2.2.2.2.2.2.2.2.2.2).bind λ aq1=>bif (l4&&lN) then some aq1 else none).bind λ aq2=>some (aaL aq2)) else bif (bL .int uf l7&&fits Mu cX) then bif decide ((0:Int)<=0/\0<=((Mx.length:Nat):Int)/\((Mx.length:Nat):Int)<=140737488355328/\((Mx.length:Nat):Int)*24<=140737488355328) then (((Bc 0 hY.2.2.2.1 hY.2.2.2.2.2.1 hY.2.2.2.2.2.2.2.1 hY.2.2.2.2.2.2.2.2.2.2.1 hY.2.2.2.2.2.2.2.2.2.2.2 hJ (aaN (toNat 0) (hJ).length)).bind λ aq3=>bif (l4&&(fZ&&(l6&&lN))) then some aq3 else none).bind λ aq4=>(ao (pZ N cR hY wF) N aq4).bind λ Sl=>let j3:=Sl.2.2.2.2.2; let l41:=(L3 j3.2.2.2.1); let l39:=(L3 j3.2.2.2.2.1); let BW:=(bg Sl.2.1); let lY:=(aX Sl.2.2.2.1); let mu:=(cU j3.1); let eu:=(gG j3.2.2.2.2.2); (((bif (allFit (fits cO) (ab BW)&&(allFit (fits cB) (ab lY)&&(allFit (fits gC) (ab mu)&&(allFit XV l41&&(allFit XV l39&&(allFit (fits kU) eu&&true)))))) then some (0,(wrap .i64 (((((eu).length):Nat):Int) - 1)),(map cH (ab BW)),(),(map bY (ab lY)),(),(map gD (ab mu)),(),(),(map d3 l41),(map d3 l39),(map d119 eu)) else none:Option Vb).bind λ aq5=>bif (l4&&(fZ&&(l6&&(aD BW&&(aD lY&&(aD mu&&l1)))))) then some aq5 else none).bind λ aq6=>(ao (sw N cR hY Sl) N aq6).bind λ Cx=>let j4:=Cx.2.2.2.2.2.2.2; let l43:=(L3 j4.1); let l42:=(L3 j4.2.1); let tD:=(bg Cx.1); let Cu:=(aX Cx.2.2.1); let BX:=(gG j4.2.2); let dV:=(cU Cx.2.2.2.2.1); bif (decide (((eu).length)=(BX).length)&&decide (((eu).length)=(BX).length)&&aZ BX) then bif (bL .int rE dV&&fits Mu (bu .int rE (AV.list .nil 0 []) dV)) then (((bif (allFit (fits cO) (ab tD)&&(allFit (fits cB) (ab Cu)&&(allFit (fits gC) (ab dV)&&(allFit XV l43&&(allFit XV l42&&true))))) then some (0,0,(map cH (ab tD)),(),(map bY (ab Cu)),(),(map gD (ab dV)),(),(),(map d3 l43),(map d3 l42)) else none:Option (Int×Int×bw×Unit×aj×Unit×bU×Unit×Unit×ah×ah)).bind λ aq7=>bif (l4&&(fZ&&(l6&&(aD tD&&(aD Cu&&(aD dV&&l1)))))) then some aq7 else none).bind λ aq8=>(ao (kV N cR hY wF Cx) N aq8).bind λ Sm=>let j2:=Sm.2.2.2; bif decide ((0:Int)<=Sm.1/\Sm.1*((24:Nat):Int)<=140737488355328/\Sm.1<=4611686018427387904) then (((Bc 0 Sm.2.1 j2.1 j2.2.2.1 j2.2.2.2.2.2.1 j2.2.2.2.2.2.2 ([]:List AV) (aaN 0 (([]:List AV)).length)).bind λ aq9=>bif (l4&&(fZ&&(l6&&(gm Sm.2.1&&(pL j2.1&&(so j2.2.2.1&&l1)))))) then some aq9 else none).bind λ ara=>(ao (jU N cR hY wF Cx) N ara).bind λ Wl=>let j1:=Wl.2.2.2.2.2; let fa:=(gG j1.2.2.2.2.2); bif ((decide (((fa).length)=(fa).length)&&decide (((fa).length)=(fa).length)&&aZ fa)&&true) then ((((Wk j1.2.2.2.2.2 Wl.2.1 Wl.2.2.2.1 j1.1 j1.2.2.2.1 j1.2.2.2.2.1).bind λ arb=>bif (l4&&(gm Wl.2.1&&(pL Wl.2.2.2.1&&(so j1.1&&l1)))) then some arb else none).bind λ arc=>some (aaL arc)).bind λ ard=>some (aag ard)) else none) else none) else none else none)) else none else none) else none) else none else none else none else none) else ((((Wk hY.2.2.1 hY.2.2.2.1 hY.2.2.2.2.2.1 hY.2.2.2.2.2.2.2.1 hY.2.2.2.2.2.2.2.2.2.2.1 hY.2.2.2.2.2.2.2.2.2.2.2).bind λ are=>bif (l4&&lN) then some are else none).bind λ arf=>some (aag arf)).bind λ arh=>some (aag arh)))
def Wm (x0:aP) (x1:aG) (x2:eJ) (x3:bw) (x4:aj) (x5:bU) (x6:aP) (x7:aG) (x8:ah) (x9:ah) (NN:aP) (KT:aG):Option U7:=
 bif (mI x0&&(nH x1&&(Om x2&&(allFit (fits cO) (ab (bg x3))&&(allFit (fits cB) (ab (aX x4))&&(allFit (fits gC) (ab (cU x5))&&(mI x6&&(nH x7&&(F3 x8&&(F3 x9&&(mI NN&&(nH KT&&true)))))))))))) then some ((jH x0),(j8 x1),(),(Gk x2),(map cH (ab (bg x3))),(),(map bY (ab (aX x4))),(),(map gD (ab (cU x5))),(),(),(jH x6),(j8 x7),(K3 x8),(K3 x9),(jH NN),(j8 KT)) else none
def kd (N:Nat) (a0:aP×aG) (cR:Int×aP×aG×Unit×eJ×bw×Unit×aj×Unit×bU×Unit×Unit×aP×aG×ah×ah×aP×aG):Option ((Int×aP×aG×Unit×eJ×bw×Unit×aj×Unit×bU×Unit×Unit×aP×aG×ah×ah×aP×aG)⊕(U7⊕U7)):=
 let dV:=(bg cR.2.2.2.2.2.1); let cX:=(aX cR.2.2.2.2.2.2.2.1); let cW:=(cU cR.2.2.2.2.2.2.2.2.2.1); let l9:=(cE cR.2.1); let l8:=(dc cR.2.2.1); let l4:=(cE cR.2.2.2.2.2.2.2.2.2.2.2.2.1); let l3:=(dc cR.2.2.2.2.2.2.2.2.2.2.2.2.2.1); let l2:=(dc cR.2.2.2.2.2.2.2.2.2.2.2.2.2.2.2.2.2); let l1:=(cE cR.2.2.2.2.2.2.2.2.2.2.2.2.2.2.2.2.1); (bif (decide (cR.1 < (((cE a0.1).length:Nat):Int))) then bif (decide ((0:Int)<=cR.1/\cR.1 < ((l1).length:Int))&&fits fY (an l1 (toNat cR.1))) then (((Lz 0 cR.2.2.2.2.1 cR.2.2.2.2.2.1 cR.2.2.2.2.2.2.2.1 cR.2.2.2.2.2.2.2.2.2.1 cR.2.2.2.2.2.2.2.2.2.2.2.2.2.2.1 cR.2.2.2.2.2.2.2.2.2.2.2.2.2.2.2.1).bind λ ari=>bif ((au [(AV.list .bV 2 l9),(AV.list .bV 5 l8)] [(AV.list .bV 2 l9),(AV.list .bV 5 l8)]&&true)&&(aD dV&&(aD cX&&(aD cW&&((au [(AV.list .bV 2 l4),(AV.list .bV 5 l3)] [(AV.list .bV 2 l4),(AV.list .bV 5 l3)]&&true)&&((au [(AV.list .bV 2 l1),(AV.list .bV 5 l2)] [(AV.list .bV 2 l1),(AV.list .bV 5 l2)]&&true)&&true)))))) then some ari else none).bind λ arj=>(ao (fW N cR) N arj).bind λ ark=>(ab6 (λ aaV=>let j1:=aaV.2.2.2.2; ((((Wm cR.2.1 cR.2.2.1 aaV.2.1 aaV.2.2.1 j1.1 j1.2.2.1 cR.2.2.2.2.2.2.2.2.2.2.2.2.1 cR.2.2.2.2.2.2.2.2.2.2.2.2.2.1 j1.2.2.2.2.2.1 j1.2.2.2.2.2.2 cR.2.2.2.2.2.2.2.2.2.2.2.2.2.2.2.2.1 cR.2.2.2.2.2.2.2.2.2.2.2.2.2.2.2.2.2).bind λ arl=>bif (gm aaV.2.2.1&&(pL j1.1&&(so j1.2.2.1&&true))) then some arl else none).bind λ arm=>some (aaL arm)).bind λ arn=>some (aag arn))) (λ aaW=>let j2:=aaW.2.2.2.2; let fa:=(L3 j2.2.2.2.2.2.2); let eu:=(L3 j2.2.2.2.2.2.1); let l7:=(bg aaW.2.2.1); let l6:=(aX j2.1); let l5:=(cU j2.2.2.1); (((bif (allFit (fits fY) l9&&(allFit (fits ir) l8&&(Om aaW.2.1&&(allFit (fits cO) (ab l7)&&(allFit (fits cB) (ab l6)&&(allFit (fits gC) (ab l5)&&(allFit (fits fY) l4&&(allFit (fits ir) l3&&(allFit (fits p3) eu&&(allFit (fits p3) fa&&(allFit (fits fY) l1&&(allFit (fits ir) l2&&true)))))))))))) then some ((wrap .i64 (cR.1+1)),(map d131 l9),(map d110 l8),(),(Gk aaW.2.1),(map cH (ab l7)),(),(map bY (ab l6)),(),(map gD (ab l5)),(),(),(map d131 l4),(map d110 l3),(map d3 eu),(map d3 fa),(map d131 l1),(map d110 l2)) else none).bind λ aro=>bif (aD l7&&(aD l6&&(aD l5&&true))) then some aro else none).bind λ arp=>some (aaL arp))) ark)) else none else ((((Wm cR.2.1 cR.2.2.1 cR.2.2.2.2.1 cR.2.2.2.2.2.1 cR.2.2.2.2.2.2.2.1 cR.2.2.2.2.2.2.2.2.2.1 cR.2.2.2.2.2.2.2.2.2.2.2.2.1 cR.2.2.2.2.2.2.2.2.2.2.2.2.2.1 cR.2.2.2.2.2.2.2.2.2.2.2.2.2.2.1 cR.2.2.2.2.2.2.2.2.2.2.2.2.2.2.2.1 cR.2.2.2.2.2.2.2.2.2.2.2.2.2.2.2.2.1 cR.2.2.2.2.2.2.2.2.2.2.2.2.2.2.2.2.2).bind λ arq=>bif (aD dV&&(aD cX&&(aD cW&&true))) then some arq else none).bind λ ars=>some (aag ars)).bind λ art=>some (aag art)))
def Wn (N:Nat) (a0:aP×aG):JH N a0 =
 (let Wh:=(map d3 ([]:List AV)); let Wg:=(au [AV.fk] [AV.fk]&&true); let OC:=(fits ir); let Mx:=(fits fY); let tD:=(fits p3); let Ct:=(fits gC); let Cu:=(fits cO); let uf:=(fits kU); let fZ:=(fits cB); let l3:=fj; let l2:=(dc a0.2); let lN:=(map d110 l2); let l6:=(AV.list .bV 5 l2); let l1:=(cE a0.1); let mu:=(map d131 l1); let l5:=(AV.list .bV 2 l1); let l4:=(allFit Mx l1&&(allFit OC l2&&true)); ((bif (l4&&true) then some (mu,lN) else none).bind λ x2=>(RU N x2).bind λ y1=>let BX:=(bg y1); (((((bif (allFit Mx l1&&(allFit OC l2&&(allFit uf ([]:List AV)&&(allFit Cu (ab BX)&&(allFit fZ (ab ([]:List (AV×AV)))&&(allFit Ct (ab ([]:List (AV×AV)))&&l4)))))) then some (0,mu,lN,(map d119 ([]:List AV)),(map cH (ab BX)),(),(map bY (ab ([]:List (AV×AV)))),(),(map gD (ab ([]:List (AV×AV)))),(),(),mu,lN) else none:Option (Int×(List (l3×aj))×aG×eJ×bw×Unit×aj×Unit×bU×Unit×Unit×(List (l3×aj))×aG)).bind λ w97=>bif (Wg&&(aD BX&&(aD ([]:List (AV×AV))&&(aD ([]:List (AV×AV))&&true)))) then some w97 else none).bind λ aru=>(ao (nN N a0) N aru).bind λ o98=>let j3:=o98.2.2.2.2.2; let lY:=(bg o98.2.2.2.1); let eu:=(aX j3.1); let l9:=(cU j3.2.2.1); ((bif (allFit uf (gG o98.2.2.1)&&(allFit Cu (ab lY)&&(allFit fZ (ab eu)&&(allFit Ct (ab l9)&&true)))) then some ((Gk o98.2.2.1),(map cH (ab lY)),(),(map bY (ab eu)),(),(map gD (ab l9)),(),()) else none).bind λ w99=>bif ((au [l5,l6] [(AV.list .bV 2 (cE o98.1)),(AV.list .bV 5 (dc o98.2.1))]&&true)&&(Wg&&(aD lY&&(aD eu&&(aD l9&&((au [l5,l6] [(AV.list .bV 2 (cE j3.2.2.2.2.2.1)),(AV.list .bV 5 (dc j3.2.2.2.2.2.2))]&&true)&&true)))))) then some w99 else none)):Option ((eJ×bw×Unit×aj×Unit×bU×Unit×Unit))).bind λ Wo=>let rE:=(bg Wo.2.1); let hJ:=(aX Wo.2.2.2.1); let dV:=(cU Wo.2.2.2.2.2.1); (((((bif (allFit Mx l1&&(allFit OC l2&&(allFit uf (gG Wo.1)&&(allFit Cu (ab rE)&&(allFit fZ (ab hJ)&&(allFit Ct (ab dV)&&(allFit Mx l1&&(allFit OC l2&&(allFit tD ([]:List AV)&&(allFit tD ([]:List AV)&&l4)))))))))) then some (0,mu,lN,(),(Gk Wo.1),(map cH (ab rE)),(),(map bY (ab hJ)),(),(map gD (ab dV)),(),(),mu,lN,Wh,Wh,mu,lN) else none:Option (Int×(List (l3×aj))×aG×Unit×eJ×bw×Unit×aj×Unit×bU×Unit×Unit×(List (l3×aj))×aG×ah×ah×(List (l3×aj))×aG)).bind λ arv=>bif (aD rE&&(aD hJ&&(aD dV&&true))) then some arv else none).bind λ arw=>(ao (kd N a0) N arw).bind λ arx=>(ab6 (λ ahp=>let j4:=ahp.2.2.2; let j1:=j4.2.2.2.2.2.2.2.2; let Tt:=(gG j4.1); let Mw:=(L3 j1.2.2.1); let Aq:=(L3 j1.2.2.2.1); let fa:=(bg j4.2.1); let cW:=(aX j4.2.2.2.1); let l7:=(cU j4.2.2.2.2.2.1); (((bif (allFit uf Tt&&(allFit Cu (ab fa)&&(allFit fZ (ab cW)&&(allFit Ct (ab l7)&&(allFit tD Mw&&(allFit tD Aq&&true)))))) then some ((),(map d119 Tt),(map cH (ab fa)),(),(map bY (ab cW)),(),(map gD (ab l7)),(),(),(map d3 Mw),(map d3 Aq)) else none).bind λ ary=>bif ((au [l5,l6] [(AV.list .bV 2 (cE ahp.1)),(AV.list .bV 5 (dc ahp.2.1))]&&true)&&(aD fa&&(aD cW&&(aD l7&&((au [l5,l6] [(AV.list .bV 2 (cE j1.1)),(AV.list .bV 5 (dc j1.2.1))]&&true)&&((au [l5,l6] [(AV.list .bV 2 (cE j1.2.2.2.2.1)),(AV.list .bV 5 (dc j1.2.2.2.2.2))]&&true)&&true)))))) then some ary else none).bind λ arz=>some (aag arz))) (λ ahq=>let j5:=ahq.2.2.2; let j2:=j5.2.2.2.2.2.2.2.2; let Wf:=(gG j5.1); let Sk:=(L3 j2.2.2.1); let JG:=(L3 j2.2.2.2.1); let fL:=(bg j5.2.1); let cX:=(aX j5.2.2.2.1); let l8:=(cU j5.2.2.2.2.2.1); (((bif (allFit uf Wf&&(allFit Cu (ab fL)&&(allFit fZ (ab cX)&&(allFit Ct (ab l8)&&(allFit tD Sk&&(allFit tD JG&&true)))))) then some ((),(map d119 Wf),(map cH (ab fL)),(),(map bY (ab cX)),(),(map gD (ab l8)),(),(),(map d3 Sk),(map d3 JG)) else none).bind λ arA=>bif ((au [l5,l6] [(AV.list .bV 2 (cE ahq.1)),(AV.list .bV 5 (dc ahq.2.1))]&&true)&&(aD fL&&(aD cX&&(aD l8&&((au [l5,l6] [(AV.list .bV 2 (cE j2.1)),(AV.list .bV 5 (dc j2.2.1))]&&true)&&((au [l5,l6] [(AV.list .bV 2 (cE j2.2.2.2.2.1)),(AV.list .bV 5 (dc j2.2.2.2.2.2))]&&true)&&true)))))) then some arA else none).bind λ arB=>some (aaL arB))) arx)):Option (K7⊕K7)).bind λ arC=>(ab6 (λ arD=>let BW:=(ab (aX arD.2.2.2.2.1)); (((bif allFit fZ BW then some (map bY BW) else none).bind λ z173=>some (z173,())).bind λ arE=>some (aaL arE))) (λ ahr=>let Gj:=(ab (aX ahr.2.2.2.2.1)); (((bif allFit fZ Gj then some (map bY Gj) else none).bind λ z175=>(bif allFit uf (gG ahr.2.1) then some (Gk ahr.2.1) else none).bind λ arF=>some (z175,arF)).bind λ arG=>some (aag arG))) arC))))):=by kernel_rfl
abbrev uh:aF:=BT
abbrev d169 (v:AV):Int×Int×Bool:=aF.bW uh v
abbrev n169 (x:Int×Int×Bool):AV:=aF.enc uh x
abbrev OE (l:List iM):=map n169 l
abbrev alS (l:List iM):=allFit (fits uh) (map n169 l)
abbrev alT (l:List iM):=map d169 (map n169 l)
def p9 (l:List iM):allFit (fits uh) (map n169 l)=true:=cA (p:=uh) rfl l
def qc (l:List iM):map d169 (map n169 l)=l:=eO (p:=uh) rfl l
def alU (x:Int×Int×Bool):fits uh (n169 x)=true:=(aF.bt uh x rfl).1
def alV (x:Int×Int×Bool):d169 (n169 x)=x:=(aF.bt uh x rfl).2
abbrev mT:aF:=(.bC 4 1 (.int .i64))
abbrev xS (v:AV):Nat×List Int:=aF.bW mT v
abbrev ks (x:Nat×List Int):AV:=aF.enc mT x
abbrev I7 (l:List tY):=map ks l
abbrev Wp (l:List tY):=allFit (fits mT) (map ks l)
abbrev Wq (l:List tY):=map xS (map ks l)
def zO (l:List tY):allFit (fits mT) (map ks l)=true:=cA (p:=mT) rfl l
def zP (l:List tY):map xS (map ks l)=l:=eO (p:=mT) rfl l
def aaX (x:Nat×List Int):fits mT (ks x)=true:=(aF.bt mT x rfl).1
def aaY (x:Nat×List Int):xS (ks x)=x:=(aF.bt mT x rfl).2
def aaZ:List (Nat×dF):=[(6,.loop [] ⟨(pl [pI,aR,.bD (.map 0),bF,.bD (.map 2),aO,.list 1 (.bC 4 1 (.int .i64)),.bD (.eK 5 0 0 1 0),cp,cm]),[8],[],[],[.map,.rw,.map,.rw,.bC 1 3,.bO 1 59,.rw,.row 2,.kp,.lp .open_],[]⟩ [(.ex 0,⟨(pl [aR,.bD (.map 0),bF,.bD (.map 2),aO,.list 1 (.bC 4 1 (.int .i64)),.bD (.eK 5 0 0 1 0),cp,cm]),[],[],[],[.map,.rw,.map,.rw,.bC 1 3,.bO 1 59,.rw,.row 2,.kp,.lp .open_],[]⟩)]),
 (1638,.loop [] ⟨(pl [pI,aR,.bD (.map 0),bF,.bD (.map 2),aO,.list 1 (.bC 4 1 (.int .i64)),.bD (.eK 5 0 0 1 0),cp,cm]),[18],[],[],[.map,.rw,.map,.rw,.bC 1 3,.bO 1 59,.rw,.row 2,.kp,.lp .open_],[]⟩ [(.ex 2,⟨(pl [aR,.bD (.map 0),bF,.bD (.map 2),aO,.list 1 (.bC 4 1 (.int .i64)),.bD (.eK 5 0 0 1 0),cp,cm]),[],[],[],[.map,.rw,.map,.rw,.bC 1 3,.bO 1 59,.rw,.row 2,.kp,.lp .open_],[]⟩)])]
def arH (N:Nat):(g:FuncId)->Option (ob cd g)
 |70=>some (x70 N)
 |81=>some (x81 N)
 |_=>none
def OF (N:Nat):dx->Option (bz×Int):=({ cx N [(56,e56 N)] [(117,aaZ)] with xt:=arH N }:jj).fn 1000 34 (.cons cJ .nil) (.cD (.cons dR (.ci .nil)))
def e34 (N:Nat):bJ:=⟨(.cons cJ .nil),(.cD (.cons dR (.ci .nil))),OF N⟩
def ahs (N:Nat):aK cd 34 (e34 N):=jj.dQ (jw (IW N) oV)
def aht (x0:Int) (x1:aj) (x2:bw) (x3:List AV) (x4:List AV) (x5:aP) (x6:aG) (x7:Bool):Option PP:=
 bif (allFit (fits cB) (ab (aX x1))&&(allFit (fits cO) (ab (bg x2))&&(allFit (fits p2) x3&&(allFit (fits mT) x4&&((x7&&x7)&&(mI x5&&(nH x6&&true))))))) then some (x0,(map bY (ab (aX x1))),(),(map cH (ab (bg x2))),(),(map d2 x3),(map xS x4),(),(jH x5),(j8 x6)) else none
def Sn (x0:aj) (x1:bw) (x2:List AV) (x3:(List tY)) (x4:aP) (x5:aG) (x6:Bool):Option Vg:=
 bif (allFit (fits cB) (ab (aX x0))&&(allFit (fits cO) (ab (bg x1))&&(allFit (fits p2) x2&&(Wp x3&&((x6&&x6)&&(mI x4&&(nH x5&&true))))))) then some ((map bY (ab (aX x0))),(),(map cH (ab (bg x1))),(),(map d2 x2),(Wq x3),(),(jH x4),(j8 x5)) else none
def me (N:Nat) (v9:Int×aj×Unit×bw×Unit×ah×(List tY)×Unit×aP×aG) (v10:Int×aj×Unit×bw×Unit×ah×(List tY)×Unit×aP×aG):Option (PP⊕(Vg)):=
 let cX:=(AV.agg [(aI v9.1),(aI v10.1)]); let l9:=(0+toNat v9.1); let l8:=(dT (L2 v10.2.2.2.2.2.1)); let l6:=(bg v10.2.2.2.1); let l5:=(aX v10.2.1); let eu:=(aD l5&&(aD l6&&true)); let l2:=(bu qv cX (aI 0) l6); let cW:=(bu .int (aI (d3 l2)) (aI 0) l5); let l1:=(I7 v10.2.2.2.2.2.2.1); let l7:=((l1).length); let l3:=(xS (an l1 l9)); let dV:=(L3 l3.2); let l4:=(aC l1 l9 (AV.list (.bC 4 l3.1) 1 (dV++[(aI (d3 cW))]))); (bif (decide (v10.1 < ((((zw (d131 (an (map n131 v9.2.2.2.2.2.2.2.2.1) (toNat v9.1))).2)).length:Nat):Int))) then bif decide ((0:Int)<=v9.1/\v9.1 < ((l7:Nat):Int)) then bif (decide (l7=(l1).length)&&decide (l9 < (l1).length)&&fits mT (an l1 l9)) then bif (bL qv cX l6&&fits p3 l2) then bif (bL .int (aI (d3 l2)) l5&&fits p3 cW) then bif (MC l8 l3.1 (dV).length&&decide (((dV).length+1)*8<=140737488355328)) then bif ((v9.1 == v9.1)&&((aaN l7 l7&&aaN l7 l7)&&true)) then bif decide ((0:Int)<=v9.1/\v9.1 < ((l7:Nat):Int)) then bif (decide (l7=(l1).length)&&decide (l9 < (l1).length)) then (((aht (wrap .i64 (v10.1+1)) v10.2.1 v10.2.2.2.1 (fw (FQ l8 l3.1 ((dV).length+1))) l4 v10.2.2.2.2.2.2.2.2.1 v10.2.2.2.2.2.2.2.2.2 (aaN l7 (l4).length)).bind λ ZC=>bif eu then some ZC else none).bind λ u12=>some (aaL u12)) else none else none else none else none else none else none else none else none else (((Sn v10.2.1 v10.2.2.2.1 (fw l8) v10.2.2.2.2.2.2.1 v10.2.2.2.2.2.2.2.2.1 v10.2.2.2.2.2.2.2.2.2 (aaN l7 (l1).length)).bind λ ZE=>bif eu then some ZE else none).bind λ u14=>some (aag u14)))
def Qn (x0:Int) (x1:aj) (x2:bw) (x3:List AV) (x4:(List tY)) (x5:aP) (x6:aG) (x7:Bool):Option PP:=
 bif (allFit (fits cB) (ab (aX x1))&&(allFit (fits cO) (ab (bg x2))&&(allFit (fits p2) x3&&(Wp x4&&((x7&&x7)&&(mI x5&&(nH x6&&true))))))) then some (x0,(map bY (ab (aX x1))),(),(map cH (ab (bg x2))),(),(map d2 x3),(Wq x4),(),(jH x5),(j8 x6)) else none
def oX (N:Nat) (a0:aP×aG) (v9:Int×aj×Unit×bw×Unit×ah×(List tY)×Unit×aP×aG):Option (PP⊕(Vg)):=
 let l4:=(cE v9.2.2.2.2.2.2.2.2.1); let l3:=(fw (dT (L2 v9.2.2.2.2.2.1))); let l2:=(pL v9.2.1&&(gm v9.2.2.2.1&&true)); let l1:=(I7 v9.2.2.2.2.2.2.1); let l6:=(aaN (l1.length) l1.length); (bif (decide (v9.1 < (((cE a0.1).length:Nat):Int))) then bif (decide ((0:Int)<=v9.1/\v9.1 < ((l4).length:Int))&&fits fY (an l4 (toNat v9.1))) then (((Qn 0 v9.2.1 v9.2.2.2.1 l3 v9.2.2.2.2.2.2.1 v9.2.2.2.2.2.2.2.2.1 v9.2.2.2.2.2.2.2.2.2 l6).bind λ Z5=>bif l2 then some Z5 else none).bind λ x19=>(ao (me N v9) N x19).bind λ o16=>let j1:=o16.2.2.2.2; let l5:=(I7 j1.2.1); (((Qn (wrap .i64 (v9.1+1)) o16.1 o16.2.2.1 (fw (dT (L2 j1.1))) j1.2.1 j1.2.2.2.1 j1.2.2.2.2 (aaN (l5.length) l5.length)).bind λ Oq=>bif (pL o16.1&&(gm o16.2.2.1&&true)) then some Oq else none).bind λ u18=>some (aaL u18))) else none else (((Sn v9.2.1 v9.2.2.2.1 l3 v9.2.2.2.2.2.2.1 v9.2.2.2.2.2.2.2.2.1 v9.2.2.2.2.2.2.2.2.2 l6).bind λ w20=>bif l2 then some w20 else none).bind λ u21=>some (aag u21)))
def OG (N:Nat) (a0:aP×aG):OF N a0 =
 (let fZ:=(map d59 ([]:List AV)); let fa:=(([]:List Nat)); let eu:=fj; let dV:=(allFit (fits oW) ([]:List AV)&&true); let l5:=(j8 a0.2); let l3:=(cE a0.1); let cX:=(map d131 l3); let l6:=(toNat (((l3).length:Nat):Int)); let l2:=(allFit (fits fY) l3&&(nH a0.2&&true)); let l1:=(adf l6 (AV.list .nil 0 [])); let cW:=(fw (([]:List Nat)++adf (l1).length 0)); let l7:=(adR (l1).length); ((bif (l2&&true) then some (cX,l5) else none).bind λ x2=>(Mr N x2).bind λ y1=>(bif (y1 != 0) then (bif dV then some (fZ,y1) else none) else ((bif (l2&&true) then some (cX,l5) else none).bind λ x4=>(JH N x4).bind λ y3=>(ab6 (λ o5=>let l8:=(aX o5.1); ((bif (l2&&true) then some (cX,l5) else none).bind λ x8=>(RU N x8).bind λ y7=>let l9:=(bg y7); bif decide ((0:Int)<=(((l3).length:Nat):Int)/\(((l3).length:Nat):Int)<=(((l3).length:Nat):Int)/\(((l3).length:Nat):Int)<=140737488355328/\(((l3).length:Nat):Int)*24<=140737488355328) then bif xr l1 then (((bif (allFit (fits cB) (ab l8)&&(allFit (fits cO) (ab l9)&&(allFit (fits p2) cW&&(allFit (fits mT) (map (λ j=>AV.list (.bC 4 (fa.length+j)) 1 []) l7)&&((aaN l6 ((map (λ j=>AV.list (.bC 4 (fa.length+j)) 1 []) l7)).length&&aaN l6 ((map (λ j=>AV.list (.bC 4 (fa.length+j)) 1 []) l7)).length)&&l2))))) then some (0,(map bY (ab l8)),(),(map cH (ab l9)),(),(map d2 cW),(map xS (map (λ j=>AV.list (.bC 4 (fa.length+j)) 1 []) l7)),(),cX,l5) else none:Option (Int×aj×Unit×bw×Unit×ah×(List tY)×Unit×(List (eu×aj))×aG)).bind λ VI=>bif (aD l8&&(aD l9&&true)) then some VI else none).bind λ x24=>(ao (oX N a0) N x24).bind λ o23=>let l4:=(I7 o23.2.2.2.2.2.1); let fL:=(map AV.kj l4); bif (decide (((l4).length)=(l4).length)&&decide (((l4).length)=(l4).length)&&aZ fL) then (bif (allFit (fits oW) fL&&true) then some ((map d59 fL),0) else none) else none) else none else none)) (λ o6=>bif (!acL (gG o6.2)) then (bif dV then some (fZ,29) else none) else none) y3))))):=by kernel_rfl
def arJ (N:Nat):(g:FuncId)->Option (ob cd g)
 |81=>some (x81 N)
 |_=>none
def OH (N:Nat):dx->Option (eJ×Int):=({ cx N [(56,e56 N),(59,e59 N)] [] with xt:=arJ N }:jj).fn 1000 35 (.cons cJ .nil) (.cD (.cons fx (.ci .nil)))
def e35 (N:Nat):bJ:=⟨(.cons cJ .nil),(.cD (.cons fx (.ci .nil))),OH N⟩
def ahu (N:Nat):aK cd 35 (e35 N):=jj.dQ (jw (IW N) (jw (xM N) oV))
def OI (N:Nat) (a0:aP×aG):OH N a0 =
 (let l6:=(map d119 ([]:List AV)); let l4:=(dc a0.2); let l3:=(cE a0.1); let l2:=(allFit (fits kU) ([]:List AV)&&true); let l1:=((allFit (fits fY) l3&&(allFit (fits ir) l4&&true))&&true); ((bif l1 then some ((map d131 l3),(map d110 l4)) else none).bind λ x2=>(Mr N x2).bind λ y1=>(bif (y1 != 0) then (bif l2 then some (l6,y1) else none) else ((bif l1 then some ((map d131 l3),(map d110 l4)) else none).bind λ x4=>(JH N x4).bind λ y3=>(ab6 (λ o5=>(Gh N (true,7)).bind λ y7=>(bif l2 then some (l6,y7) else none)) (λ o6=>let l5:=(gG o6.2); bif (!acL l5) then (Gh N (false,7)).bind λ y8=>(bif (allFit (fits kU) l5&&true) then some ((map d119 l5),y8) else none) else none) y3))))):=by kernel_rfl
def c41:List (Nat×dF):=[(12,.join [(.norm,⟨(.ci .nil),[8],[],[],[],[]⟩)])]
def arK (N:Nat):(g:FuncId)->Option (ob cd g)
 |70=>some (x70 N)
 |81=>some (x81 N)
 |_=>none
def Bd (N:Nat):dx×cj×cj->Option cj:=({ cx N [(56,e56 N),(59,e59 N),(61,e61 N),(77,e77 N),(85,e85 N)] [(41,c41)] with xt:=arK N }:jj).fn 1000 41 (.cons cJ (.cons bI (.cons bI .nil))) (.cD (.ci (.ci .nil)))
def e41 (N:Nat):bJ:=⟨(.cons cJ (.cons bI (.cons bI .nil))),(.cD (.ci (.ci .nil))),Bd N⟩
def ahv (N:Nat):aK cd 41 (e41 N):=jj.dQ (jw (IW N) (jw (xM N) (jw (Oe N) (jw (ER N) (jw (Ob N) oV)))))
def Fc (N:Nat) (a0:aP×aG) (a1:Int×Int) (a2:Int×Int):Bd N (a0,a1,a2) =
 (let fa:=fj; let eu:=(AV.agg [(aI a2.1),(aI a2.2)]); let dV:=(AV.agg [(aI a1.1),(aI a1.2)]); let cX:=(cE a0.1); let cW:=(dc a0.2); let l9:=(aI 0); let l5:=(map d110 cW); let l4:=(map d131 cX); let l1:=((allFit (fits fY) cX&&(allFit (fits ir) cW&&true))&&true); ((((bif l1 then some (l4,l5) else none).bind λ x2=>(Mr N x2).bind λ y1=>let fL:=(aI y1); bif (((a1.1 == a1.1)&&((a1.2 == a1.2)&&true))&&((au cX cX&&(au cW cW&&true))&&true)) then ((bif l1 then some ((l4,l5),(a1.1,a1.2)) else none).bind λ x4=>(Oa N x4).bind λ y3=>(bif (!y3) then (Gh N (true,10)).bind λ y5=>((bif (allFit (fits Hh) [fL,(aI y5)]&&true) then some (map d29 [fL,(aI y5)]) else none).bind λ x7=>(IQ N x7).bind λ y6=>(some y6)) else ((bif l1 then some ((l4,l5),(a2.1,a2.2)) else none).bind λ x9=>(Oa N x9).bind λ y8=>(Gh N ((!y8),10)).bind λ y10=>((bif (allFit (fits Hh) [fL,(aI y10)]&&true) then some (map d29 [fL,(aI y10)]) else none).bind λ x12=>(IQ N x12).bind λ y11=>(some y11))))) else none):Option Int).bind λ Gl=>(bif (Gl != 0) then some (0,Gl) else ((bif l1 then some (l4,l5) else none).bind λ x15=>(T61 N x15).bind λ Si=>let l8:=(L3 Si); bif (decide ((0:Int)<=a1.1/\a1.1 < ((l8).length:Int))&&fits p3 (an l8 (toNat a1.1))) then bif (decide ((0:Int)<=a2.1/\a2.1 < ((l8).length:Int))&&fits p3 (an l8 (toNat a2.1))) then (bif ((d3 (an l8 (toNat a1.1))) != (d3 (an l8 (toNat a2.1)))) then some (0,17) else ((bif l1 then some (l4,l5) else none).bind λ x17=>(JH N x17).bind λ y16=>(ab6 (λ On=>let l6:=(aX On.1); ((bif l1 then some (l4,l5) else none).bind λ x21=>(RU N x21).bind λ Qb=>let l7:=(bg Qb); let l3:=(bu qv dV l9 l7); let hJ:=(bu .int (aI (d3 l3)) l9 l6); let l2:=(bu qv eu l9 l7); let fZ:=(bu .int (aI (d3 l2)) l9 l6); bif (bL qv eu l7&&fits p3 l2) then bif (bL .int (aI (d3 l2)) l6&&fits p3 fZ) then bif (bL qv dV l7&&fits p3 l3) then bif (bL .int (aI (d3 l3)) l6&&fits p3 hJ) then some ((wrap .i64 ((d3 fZ) - (d3 hJ))),0) else none else none else none else none)) (λ Hm=>bif (!acL (gG Hm.2)) then some (0,29) else none) y16))) else none else none)))):=by kernel_rfl
def T82 (N:Nat):dx×bz×iM->Option cj:=(cxK N [(40,e40 N)] []).fn 1000 82 (.cons cJ (.cons dR (.cons BU .nil))) (.cD (.ci (.ci .nil)))
def e82 (N:Nat):bJ:=⟨(.cons cJ (.cons dR (.cons BU .nil))),(.cD (.ci (.ci .nil))),T82 N⟩
def ahy (N:Nat):aK cd 82 (e82 N):=jj.dQ (jw (V9 N) oV)
def ahz (N:Nat) (a0:aP×aG) (a1:List ah) (a2:Int×Int×Bool):T82 N (a0,a1,a2) =
 (let l3:=(mQ a1); let l1:=(L3 (d59 (an l3 (toNat a2.1)))); let l4:=(an l1 (toNat a2.2.1)); ((bif ((F92 a0.1&&(F79 a0.2&&true))&&true) then some (((K92 a0.1),(K79 a0.2)),(a2.1,a2.2.1)) else none).bind λ x2=>(T40 N x2).bind λ y1=>let l2:=(L3 (d59 (an l3 (toNat y1.1)))); let l5:=(an l2 (toNat y1.2)); bif (decide ((0:Int)<=a2.1/\a2.1 < ((l3).length:Int))&&fits oW (an l3 (toNat a2.1))) then bif (decide ((0:Int)<=a2.2.1/\a2.2.1 < ((l1).length:Int))&&fits p3 l4) then bif (decide ((0:Int)<=y1.1/\y1.1 < ((l3).length:Int))&&fits oW (an l3 (toNat y1.1))) then bif (decide ((0:Int)<=y1.2/\y1.2 < ((l2).length:Int))&&fits p3 l5) then (bif a2.2.2 then some ((d3 l5),(d3 l4)) else some ((d3 l4),(d3 l5))) else none else none else none else none)):=by kernel_rfl
def c36:List (Nat×dF):=[(58,.loop [] ⟨(.ci .nil),[5],[],[],[],[]⟩ [(.ret,⟨(.ci .nil),[4],[],[],[],[]⟩),(.ex 0,⟨.nil,[],[],[],[],[]⟩)]),
 (506,.loop [] ⟨(pl [pI,pI]),[7,8],[],[],[],[]⟩ [(.ret,⟨(.ci .nil),[4],[],[],[],[]⟩),(.ex 2,⟨(.ci .nil),[7],[],[],[],[]⟩)]),
 (508,.join [(.norm,⟨(.cons .bool .nil),[90],[],[],[],[]⟩)]),
 (518461,.join [(.norm,⟨(.ci .nil),[13],[],[],[],[]⟩)])]
def T36 (N:Nat):dx×eJ->Option Int:=(cxK N [(25,e25 N),(44,e44 N),(69,e69 N),(82,e82 N)] [(36,c36)]).fn 1000 36 (.cons cJ (.cons fx .nil)) (.int .i64)
def e36 (N:Nat):bJ:=⟨(.cons cJ (.cons fx .nil)),(.int .i64),T36 N⟩
def ahB (N:Nat):aK cd 36 (e36 N):=jj.dQ (jw (Wa N) (jw (Ox N) (jw (V5 N) (jw (ahy N) oV))))
def Be (N:Nat) (a0:aP×aG) (a1:List iM) (v1:Int):Option vc:=
 let l2:=(OE a1); let l1:=(an l2 (toNat v1)); (bif (decide (v1 < (((l2).length:Nat):Int))) then bif (decide ((0:Int)<=v1/\v1 < ((l2).length:Int))&&fits uh l1) then ((Ba a0.1 a0.2 ((d169 l1).1) ((d169 l1).2.1)).bind λ x3=>(V4 N x3).bind λ y2=>(bif (!y2) then (some (aag (aaL 10))) else (some (aaL (wrap .i64 (v1+1)))))) else none else (some (aag (aag ()))))
def LC (x0:aP) (x1:aG) (x2:bz) (x3:Int) (x4:Int) (x5:Bool):Option (dx×bz×iM):=
 bif ((F92 x0&&(F79 x1&&true))&&(F59 x2&&true)) then some (((K92 x0),(K79 x1)),(XS x2),(x3,x4,x5)) else none
def vY (N:Nat) (a0:aP×aG) (a1:List iM) (y11:bz) (v13:Int×Int):Option (cj⊕(Int⊕Int)):=
 let l6:=(wrap .i64 (v13.2+1)); let l4:=(OE a1); let l2:=(an l4 (toNat v13.2)); let l3:=(decide ((0:Int)<=v13.2/\v13.2 < ((l4).length:Int))&&fits uh l2); let l1:=(Int.tmod l6 (((l4).length:Nat):Int)); let l5:=(an l4 (toNat l1)); (bif (decide (v13.2 < (((l4).length:Nat):Int))) then bif l3 then ((LC a0.1 a0.2 y11 ((d169 l2).1) ((d169 l2).2.1) ((d169 l2).2.2)).bind λ x15=>(T82 N x15).bind λ Si=>bif !(decide ((((l4).length:Nat):Int)=0)) then bif (decide ((0:Int)<=l1/\l1 < ((l4).length:Int))&&fits uh l5) then ((LC a0.1 a0.2 y11 ((d169 l5).1) ((d169 l5).2.1) ((d169 l5).2.2)).bind λ x17=>(T82 N x17).bind λ y16=>(bif (Si.2 != y16.1) then (some (aag (aaL 21))) else bif l3 then ((Ba a0.1 a0.2 ((d169 l2).1) ((d169 l2).2.1)).bind λ x21=>(T69 N x21).bind λ Qb=>bif l3 then (((bif (d169 l2).2.2 then (some (wrap .i64 (0 - Qb.2))) else (some Qb.2)):Option Int).bind λ o22=>(some (aaL ((wrap .i64 (v13.1+o22)),l6)))) else none) else none)) else none else none) else none else (some (aag (aag v13.1))))
def ahD (N:Nat) (a0:aP×aG) (a1:List iM):T36 N (a0,a1) =
 (bif (decide ((((OE a1).length:Nat):Int) > 256)) then some 5 else ((ao (Be N a0 a1) N 0).bind λ o8=>(ab6 (λ o9=>some o9) (λ XG=>((bif ((F92 a0.1&&(F79 a0.2&&true))&&true) then some ((K92 a0.1),(K79 a0.2)) else none).bind λ x12=>(T25 N x12).bind λ y11=>((ao (vY N a0 a1 y11) N (0,0)).bind λ o25=>(ab6 (λ o26=>some o26) (λ lC=>(((bif ((((OE a1).length:Nat):Int) == 0) then (some true) else (some (lC == 0))):Option Bool).bind λ o28=>(bif o28 then some 21 else some 0))) o25)))) o8))):=by kernel_rfl
def c37:List (Nat×dF):=[(58,.loop [(.slot 3,3,169)] ⟨(pl [.own 0 3 BU,pI]),[3,8],[],[],[.tok 0 3 169],[]⟩ [(.ex 0,⟨(.cons (.own 0 3 BU) .nil),[3],[],[],[.tok 0 3 169],[]⟩)])]
def T37 (N:Nat):eJ->Option (eJ):=(cxK N [] [(37,c37)]).fn 1000 37 (.cons fx .nil) fx
def e37 (N:Nat):bJ:=⟨(.cons fx .nil),fx,T37 N⟩
def ahE (N:Nat):aK cd 37 (e37 N):=jj.dQ oV
def Wr (x0:List AV) (x1:Int):Option (eJ×Int):=
 bif (allFit (fits uh) x0&&true) then some ((map d169 x0),x1) else none
def Fe (N:Nat) (a0:List iM) (v1:eJ×Int):Option ((eJ×Int)⊕((eJ))):=
 let l3:=(gG a0); let l2:=(OE v1.1); let l1:=(an l3 (toNat v1.2)); (bif (decide (v1.2 < (((l3).length:Nat):Int))) then bif (decide ((0:Int)<=v1.2/\v1.2 < ((l3).length:Int))&&fits kU l1) then bif (decide (((l2).length)=(l2).length)&&decide (((l2).length+1)*24<=140737488355328)) then (((Wr (l2++[(AV.agg [(aI (d119 l1).1),(aI (d119 l1).2.1),(AV.bool (d119 l1).2.2)])]) (wrap .i64 (v1.2+1))).bind λ w2=>bif (decide ((((l2).length)+1)=(map n169 w2.1).length)&&true) then some w2 else none).bind λ u3=>some (aaL u3)) else none else none else (((bif (allFit (fits uh) l2&&true) then some (map d169 l2) else none).bind λ w4=>bif (decide (((l2).length)=(map n169 w4).length)&&true) then some w4 else none).bind λ u5=>some (aag u5)))
def ahF (N:Nat) (a0:List iM):T37 N a0 =
 (((bif (allFit (fits uh) ([]:List AV)&&true) then some ((map d169 ([]:List AV)),0) else none:Option (eJ×Int)).bind λ w6=>bif (decide (0=(map n169 w6.1).length)&&true) then some w6 else none).bind λ x8=>(ao (Fe N a0) N x8).bind λ o7=>(bif alS o7 then some (alT o7) else none)):=by kernel_rfl
def c42:List (Nat×dF):=[(58,.loop [(.slot 3,3,119)] ⟨(pl [.own 0 3 BU,pI]),[3,8],[],[],[.tok 0 3 119],[]⟩ [(.ex 0,⟨(.cons (.own 0 3 BU) .nil),[3],[],[],[.tok 0 3 119],[]⟩)])]
def T42 (N:Nat):eJ->Option (eJ):=(cxK N [] [(42,c42)]).fn 1000 42 (.cons fx .nil) fx
def e42 (N:Nat):bJ:=⟨(.cons fx .nil),fx,T42 N⟩
def ahG (N:Nat):aK cd 42 (e42 N):=jj.dQ oV
def Ws (x0:List AV) (x1:Int):Option (eJ×Int):=
 bif (allFit (fits kU) x0&&true) then some ((map d119 x0),x1) else none
def Ff (N:Nat) (a0:List iM) (v1:eJ×Int):Option ((eJ×Int)⊕((eJ))):=
 let l3:=(OE a0); let l2:=(gG v1.1); let l1:=(an l3 (toNat v1.2)); (bif (decide (v1.2 < (((l3).length:Nat):Int))) then bif (decide ((0:Int)<=v1.2/\v1.2 < ((l3).length:Int))&&fits uh l1) then bif (decide (((l2).length)=(l2).length)&&decide (((l2).length+1)*24<=140737488355328)) then (((Ws (l2++[(AV.agg [(aI (d169 l1).1),(aI (d169 l1).2.1),(AV.bool (d169 l1).2.2)])]) (wrap .i64 (v1.2+1))).bind λ w2=>bif (decide ((((l2).length)+1)=(map n119 w2.1).length)&&true) then some w2 else none).bind λ u3=>some (aaL u3)) else none else none else (((bif (allFit (fits kU) l2&&true) then some (map d119 l2) else none).bind λ w4=>bif (decide (((l2).length)=(map n119 w4).length)&&true) then some w4 else none).bind λ u5=>some (aag u5)))
def ahH (N:Nat) (a0:List iM):T42 N a0 =
 (((bif (allFit (fits kU) ([]:List AV)&&true) then some ((map d119 ([]:List AV)),0) else none:Option (eJ×Int)).bind λ w6=>bif (decide (0=(map n119 w6.1).length)&&true) then some w6 else none).bind λ x8=>(ao (Ff N a0) N x8).bind λ o7=>(bif Om o7 then some (Gk o7) else none)):=by kernel_rfl
def c43:List (Nat×dF):=[(62,.join [(.norm,⟨(pl [.bD (.eK 1 0 0 1 0),.bD (.eK 0 0 0 1 0),aO,aO]),[7,8],[],[],[.bO 1 3,.bO 1 3],[]⟩)]),
 (506,.loop [] ⟨(pl [pI,aO,aO]),[9],[],[],[.bO 1 3,.bO 1 3],[]⟩ [(.ex 0,⟨(pl [aO,aO]),[],[],[],[.bO 1 3,.bO 1 3],[]⟩)]),
 (1018,.loop [] ⟨(pl [pI,aO,aO]),[12],[],[],[.bO 1 3,.bO 1 3],[]⟩ [(.ex 4,⟨(pl [aO,aO]),[],[],[],[.bO 1 3,.bO 1 3],[]⟩)]),
 (4050,.join [(.norm,⟨(pl [aO,aO]),[],[],[],[.bO 1 3,.bO 1 3],[]⟩)]),
 (4090,.loop [(.slot 18,1,59)] ⟨(pl [.own 2 1 aO,pI,aO,aO]),[18,19],[],[],[.bO 1 3,.bO 1 3,.tok 0 1 59],[]⟩ [(.ret,⟨(pl [.bD (.list .nil 0 []),.bool,aO,aO]),[2,3],[],[],[.bO 1 3,.bO 1 3,.dead],[]⟩),(.ex 10,⟨(pl [.own 2 1 aO,aO,aO]),[18],[],[],[.bO 1 3,.bO 1 3,.tok 0 1 59],[]⟩)]),
 (65170,.loop [] ⟨(pl [pI,aO,aO]),[13],[],[],[.bO 1 3,.bO 1 3],[]⟩ [(.ex 6,⟨(pl [aO,aO]),[],[],[],[.bO 1 3,.bO 1 3],[]⟩)]),
 (129610,.loop [] ⟨(pl [.bool,pI,aO,aO]),[10,11],[],[],[.bO 1 3,.bO 1 3],[]⟩ [(.ex 2,⟨(pl [.bool,aO,aO]),[10],[],[],[.bO 1 3,.bO 1 3],[]⟩)]),
 (1036882,.join [(.norm,⟨(pl [.bool,aO,aO]),[10],[],[],[.bO 1 3,.bO 1 3],[]⟩)]),
 (1047114,.loop [(.slot 20,1,3)] ⟨(pl [.own 2 1 aO,.own 3 1 (.int .i64),pI,aO,aO]),[18,20,21],[],[],[.bO 1 3,.bO 1 3,.tok 0 1 59,.tok 1 1 3],[]⟩ [(.ret,⟨(pl [.bD (.list .nil 0 []),.bool,.own 2 1 aO,aO,aO]),[2,3,18],[],[],[.bO 1 3,.bO 1 3,.tok 2 1 59,.dead],[]⟩),(.ex 12,⟨(pl [.own 2 1 aO,.own 3 1 (.int .i64),aO,aO]),[18,20],[],[],[.bO 1 3,.bO 1 3,.tok 0 1 59,.tok 1 1 3],[]⟩)]),
 (4170898,.loop [] ⟨(pl [pI,aO,aO]),[14],[],[],[.bO 1 3,.bO 1 3],[]⟩ [(.ex 8,⟨(pl [aO,aO]),[],[],[],[.bO 1 3,.bO 1 3],[]⟩)]),
 (33367186,.join [(.norm,⟨(pl [aO,aO]),[],[],[],[.bO 1 3,.bO 1 3],[]⟩)]),
 (1067749964,.join [(.norm,⟨(pl [.bool,aO,aO]),[131],[],[],[.bO 1 3,.bO 1 3],[]⟩)]),
 (1067749965,.join [(.norm,⟨(pl [aO,aO]),[],[],[],[.bO 1 3,.bO 1 3],[]⟩)]),
 (1067749966,.join [(.norm,⟨(pl [.bool,aO,aO]),[155],[],[],[.bO 1 3,.bO 1 3],[]⟩)])]
def Wt (N:Nat):dx->Option (bz×Bool):=(cxK N [(25,e25 N),(27,e27 N),(74,e74 N)] [(43,c43)]).fn 1000 43 (.cons cJ .nil) (.cD (.cons dR (.cons .bool .nil)))
def e43 (N:Nat):bJ:=⟨(.cons cJ .nil),(.cD (.cons dR (.cons .bool .nil))),Wt N⟩
def ahI (N:Nat):aK cd 43 (e43 N):=jj.dQ (jw (Wa N) (jw (V6 N) (jw (ahg N) oV)))
def B6 (x0:Bool) (x1:Int) (x2:ah) (x3:ah):Option (Bool×Int×ah×ah):=
 bif (F3 x2&&(F3 x3&&true)) then some (x0,x1,(K3 x2),(K3 x3)) else none
def nO (x0:Bool) (x1:ah) (x2:ah):Option (Bool×ah×ah):=
 bif (F3 x1&&(F3 x2&&true)) then some (x0,(K3 x1),(K3 x2)) else none
def mU (N:Nat) (y3:ah) (v10:Int×ah×ah) (v11:Bool×Int×ah×ah):Option ((Bool×Int×ah×ah)⊕((Bool×ah×ah))):=
 let l1:=(L3 y3); let l2:=(an l1 (toNat v11.2.1)); (bif (decide (v11.2.1 < v10.1)) then (((bif v11.1 then bif (decide ((0:Int)<=v11.2.1/\v11.2.1 < ((l1).length:Int))&&fits p3 l2) then bif (decide ((0:Int)<=v10.1/\v10.1 < ((l1).length:Int))&&fits p3 (an l1 (toNat v10.1))) then ((nO ((d3 l2) != (d3 (an l1 (toNat v10.1)))) v11.2.2.1 v11.2.2.2).bind λ Of=>some Of) else none else none else ((nO false v11.2.2.1 v11.2.2.2).bind λ ZE=>some ZE)):Option ((Bool×ah×ah))).bind λ Cs=>(((B6 Cs.1 (wrap .i64 (v11.2.1+1)) Cs.2.1 Cs.2.2).bind λ Z5=>some Z5).bind λ u16=>some (aaL u16))) else (((nO v11.1 v11.2.2.1 v11.2.2.2).bind λ Oq=>some Oq).bind λ u18=>some (aag u18)))
def Qo (x0:List AV) (x1:ah):Option (ah×ah):=
 bif (allFit (fits p3) x0&&(F3 x1&&true)) then some ((map d3 x0),(K3 x1)) else none
def lH (x0:Int) (x1:ah) (x2:ah):Option (Int×ah×ah):=
 bif (F3 x1&&(F3 x2&&true)) then some (x0,(K3 x1),(K3 x2)) else none
def jE (x0:ah) (x1:ah):Option (ah×ah):=
 bif (F3 x0&&(F3 x1&&true)) then some ((K3 x0),(K3 x1)) else none
def vZ (N:Nat) (a0:aP×aG) (y1:bz) (y3:ah) (o9:EN) (v10:Int×ah×ah):Option PX:=
 let l4:=(L3 o9.2.2.1).length; let l2:=(an (mQ y1) (toNat v10.1)); let l1:=(an (L3 (d59 l2)) (toNat 0)); (bif (decide (v10.1 < (((xR a0.1).length:Nat):Int))) then (((((B6 true 0 v10.2.1 v10.2.2).bind λ w19=>some w19).bind λ x23=>(ao (mU N y3 v10) N x23).bind λ Gm=>let l3:=(L3 Gm.2.1); (bif Gm.1 then bif (decide ((0:Int)<=v10.1/\v10.1 < ((mQ y1).length:Int))&&fits oW l2) then bif (decide ((0:Int)<=0/\0 < (((L3 (d59 l2))).length:Int))&&fits p3 l1) then bif decide ((0:Int)<=(d3 l1)/\(d3 l1) < ((l4:Nat):Int)) then bif (decide (l4=(l3).length)&&decide ((0+toNat (d3 l1)) < (l3).length)) then ((Qo (aC l3 (0+toNat (d3 l1)) (aI 1)) Gm.2.2).bind λ XO=>some XO) else none else none else none else none else ((jE Gm.2.1 Gm.2.2).bind λ VI=>some VI))):Option ((ah×ah))).bind λ yj=>(((lH (wrap .i64 (v10.1+1)) yj.1 yj.2).bind λ Z7=>some Z7).bind λ u26=>some (aaL u26))) else (((jE v10.2.1 v10.2.2).bind λ w27=>some w27).bind λ u28=>some (aag u28)))
def zQ (x0:List AV) (x1:List AV):Option (ah×ah):=
 bif (allFit (fits p3) x0&&(allFit (fits p3) x1&&true)) then some ((map d3 x0),(map d3 x1)) else none
def fN (N:Nat) (a0:aP×aG) (y1:bz) (o9:EN) (rb:Int×ah×ah) (mK:Int×ah×ah):Option PX:=
 let lY:=(wrap .i64 (mK.1+1)); let hJ:=(an (mQ y1) (toNat rb.1)); let fZ:=(an (xR a0.1) (toNat rb.1)); let fL:=(toNat mK.1); let cX:=(L3 mK.2.1); let l8:=(Tq (d92 fZ).2); let l7:=(L3 o9.2.2.2).length; let l5:=(L3 o9.2.2.1).length; let l4:=(decide ((0:Int)<=rb.1/\rb.1 < ((mQ y1).length:Int))&&fits oW hJ); let l3:=(L3 (d59 hJ)); let cW:=(Int.tmod lY (((l3).length:Nat):Int)); let l2:=(d3 (an l3 fL)); let l9:=(0+toNat l2); let l1:=(an l3 (toNat cW)); let l6:=(0+toNat (d3 l1)); bif l4 then (bif (decide (mK.1 < (((l3).length:Nat):Int))) then ((bif l4 then bif (decide ((0:Int)<=mK.1/\mK.1 < ((l3).length:Int))&&fits p3 (an l3 fL)) then bif l4 then bif l4 then bif !(decide ((((l3).length:Nat):Int)=0)) then bif (decide ((0:Int)<=cW/\cW < ((l3).length:Int))&&fits p3 l1) then bif (decide ((0:Int)<=rb.1/\rb.1 < ((xR a0.1).length:Int))&&fits B5 fZ) then bif (decide ((0:Int)<=mK.1/\mK.1 < ((l8).length:Int))&&fits p94 (an l8 fL)) then ((bif decide ((0:Int)<=l2/\l2 < ((l5:Nat):Int)) then bif (decide (l5=(cX).length)&&decide (l9 < (cX).length)&&fits p3 (an cX l9)) then (bif (decide ((d3 (an cX l9)) > 0)) then bif decide ((0:Int)<=(d3 l1)/\(d3 l1) < ((l5:Nat):Int)) then bif (decide (l5=(cX).length)&&decide (l6 < (cX).length)&&fits p3 (an cX l6)) then ((nO ((d3 (an cX l6)) == 0) mK.2.1 mK.2.2).bind λ w34=>some w34) else none else none else ((nO false mK.2.1 mK.2.2).bind λ w35=>some w35)) else none else none:Option ((Bool×ah×ah))).bind λ Mt=>let mu:=(L3 Mt.2.1); let eu:=(L3 Mt.2.2); (((bif Mt.1 then bif decide ((0:Int)<=l2/\l2 < ((l7:Nat):Int)) then bif (decide (l7=(eu).length)&&decide (l9 < (eu).length)&&fits p3 (an eu l9)) then bif decide ((0:Int)<=(d3 l1)/\(d3 l1) < ((l7:Nat):Int)) then bif (decide (l7=(eu).length)&&decide (l6 < (eu).length)) then bif decide ((0:Int)<=(d3 l1)/\(d3 l1) < ((l5:Nat):Int)) then bif (decide (l5=(mu).length)&&decide (l6 < (mu).length)) then ((zQ (aC mu l6 (aI 1)) (aC eu l6 (aI (wrap .i64 ((d3 (an eu l9))+(d94 (an l8 fL)).2))))).bind λ RW=>some RW) else none else none else none else none else none else none else ((jE Mt.2.1 Mt.2.2).bind λ Lj=>some Lj)):Option ((ah×ah))).bind λ Ms=>let dV:=(L3 Ms.1); ((bif decide ((0:Int)<=(d3 l1)/\(d3 l1) < ((l5:Nat):Int)) then bif (decide (l5=(dV).length)&&decide (l6 < (dV).length)&&fits p3 (an dV l6)) then (bif (decide ((d3 (an dV l6)) > 0)) then bif decide ((0:Int)<=l2/\l2 < ((l5:Nat):Int)) then bif (decide (l5=(dV).length)&&decide (l9 < (dV).length)&&fits p3 (an dV l9)) then ((nO ((d3 (an dV l9)) == 0) Ms.1 Ms.2).bind λ XJ=>some XJ) else none else none else ((nO false Ms.1 Ms.2).bind λ Vu=>some Vu)) else none else none:Option ((Bool×ah×ah))).bind λ R7=>let lN:=(L3 R7.2.1); let fa:=(L3 R7.2.2); (bif R7.1 then bif decide ((0:Int)<=(d3 l1)/\(d3 l1) < ((l7:Nat):Int)) then bif (decide (l7=(fa).length)&&decide (l6 < (fa).length)&&fits p3 (an fa l6)) then bif decide ((0:Int)<=l2/\l2 < ((l7:Nat):Int)) then bif (decide (l7=(fa).length)&&decide (l9 < (fa).length)) then bif decide ((0:Int)<=l2/\l2 < ((l5:Nat):Int)) then bif (decide (l5=(lN).length)&&decide (l9 < (lN).length)) then ((zQ (aC lN l9 (aI 1)) (aC fa l9 (aI (wrap .i64 ((d3 (an fa l6)) - (d94 (an l8 fL)).2))))).bind λ R5=>some R5) else none else none else none else none else none else none else ((jE R7.2.1 R7.2.2).bind λ Tn=>some Tn))))) else none else none else none else none else none else none else none else none:Option ((ah×ah))).bind λ vh=>(((lH lY vh.1 vh.2).bind λ To=>some To).bind λ u47=>some (aaL u47))) else (((jE mK.2.1 mK.2.2).bind λ w48=>some w48).bind λ u49=>some (aag u49))) else none
def oY (N:Nat) (a0:aP×aG) (y1:bz) (o9:EN) (rb:Int×ah×ah):Option PX:=
 (bif (decide (rb.1 < (((xR a0.1).length:Nat):Int))) then (((lH 0 rb.2.1 rb.2.2).bind λ w50=>some w50).bind λ x54=>(ao (fN N a0 y1 o9 rb) N x54).bind λ JF=>(((lH (wrap .i64 (rb.1+1)) JF.1 JF.2).bind λ XL=>some XL).bind λ u53=>some (aaL u53))) else (((jE rb.2.1 rb.2.2).bind λ w55=>some w55).bind λ u56=>some (aag u56)))
def vk (N:Nat) (a0:aP×aG) (y1:bz) (y5:Int) (o9:EN) (v31:Int×ah×ah):Option PX:=
 (bif (decide (v31.1 < (wrap .i64 (y5+1)))) then (((lH 0 v31.2.1 v31.2.2).bind λ w57=>some w57).bind λ x61=>(ao (oY N a0 y1 o9) N x61).bind λ o58=>(((lH (wrap .i64 (v31.1+1)) o58.1 o58.2).bind λ w59=>some w59).bind λ u60=>some (aaL u60))) else (((jE v31.2.1 v31.2.2).bind λ ZJ=>some ZJ).bind λ u63=>some (aag u63)))
def B7 (x0:bz) (x1:List AV) (x2:Int) (x3:ah) (x4:ah):Option (bz×ah×Int×ah×ah):=
 bif (F59 x0&&(allFit (fits p3) x1&&(F3 x3&&(F3 x4&&true)))) then some ((XS x0),(map d3 x1),x2,(K3 x3),(K3 x4)) else none
def lI (N:Nat) (a0:aP×aG) (y1:bz) (o9:EN) (LD:bz×Int×ah×ah) (Qp:bz×ah×Int×ah×ah):Option ((bz×ah×Int×ah×ah)⊕((Unit×Bool×bz×ah×ah)⊕(bz×ah×ah×ah))):=
 let lY:=(mQ y1); let lN:=(xR a0.1); let mu:=(wrap .i64 (Qp.2.2.1+1)); let fZ:=(L3 Qp.2.2.2.1); let fL:=(toNat LD.2.1); let eu:=(toNat Qp.2.2.1); let cX:=(mQ Qp.1); let l8:=(L3 Qp.2.1); let l7:=(Tq (d92 (an lN fL)).2); let l6:=(L3 o9.2.2.2).length; let l4:=(L3 Qp.2.2.2.2); let dV:=(allFit (fits p3) fZ&&(allFit (fits p3) l4&&true)); let l3:=(decide ((0:Int)<=LD.2.1/\LD.2.1 < ((lY).length:Int))&&fits oW (an lY fL)); let l1:=(L3 (d59 (an lY fL))); let l5:=(d3 (an l1 eu)); let fa:=(an l4 (0+toNat l5)); let l9:=(decide (l6=(l4).length)&&decide ((0+toNat l5) < (l4).length)&&fits p3 fa); let l2:=(Int.tmod mu (((l1).length:Nat):Int)); let cW:=(an l1 (toNat l2)); let hJ:=(0+toNat (d3 cW)); bif l3 then (bif (decide (Qp.2.2.1 < (((l1).length:Nat):Int))) then bif l3 then bif (decide ((0:Int)<=Qp.2.2.1/\Qp.2.2.1 < ((l1).length:Int))&&fits p3 (an l1 eu)) then bif l3 then bif l3 then bif !(decide ((((l1).length:Nat):Int)=0)) then bif (decide ((0:Int)<=l2/\l2 < ((l1).length:Int))&&fits p3 cW) then bif decide ((0:Int)<=(d3 cW)/\(d3 cW) < ((l6:Nat):Int)) then bif (decide (l6=(l4).length)&&decide (hJ < (l4).length)&&fits p3 (an l4 hJ)) then bif decide ((0:Int)<=l5/\l5 < ((l6:Nat):Int)) then bif l9 then bif (decide ((0:Int)<=LD.2.1/\LD.2.1 < ((lN).length:Int))&&fits B5 (an lN fL)) then bif (decide ((0:Int)<=Qp.2.2.1/\Qp.2.2.1 < ((l7).length:Int))&&fits p94 (an l7 eu)) then (bif ((wrap .i64 ((d3 (an l4 hJ)) - (d3 fa))) != (d94 (an l7 eu)).2) then ((((bif (allFit (fits oW) cX&&dV) then some ((),false,(map d59 cX),(map d3 fZ),(map d3 l4)) else none).bind λ w68=>bif (decide (((cX).length)=(map n59 w68.2.2.1).length)&&true) then some w68 else none).bind λ u69=>some (aaL u69)).bind λ u70=>some (aag u70)) else bif decide ((0:Int)<=l5/\l5 < ((l6:Nat):Int)) then bif l9 then bif (decide (((l8).length)=(l8).length)&&decide (((l8).length+1)*8<=140737488355328)) then (((B7 Qp.1 (l8++[(aI (d3 fa))]) mu Qp.2.2.2.1 Qp.2.2.2.2).bind λ w71=>bif (decide (((cX).length)=(map n59 w71.1).length)&&(decide ((((l8).length)+1)=(map n3 w71.2.1).length)&&true)) then some w71 else none).bind λ u72=>some (aaL u72)) else none else none else none) else none else none else none else none else none else none else none else none else none else none else none else none else ((((bif (allFit (fits oW) cX&&(allFit (fits p3) l8&&dV)) then some ((map d59 cX),(map d3 l8),(map d3 fZ),(map d3 l4)) else none).bind λ w73=>bif (decide (((cX).length)=(map n59 w73.1).length)&&(decide (((l8).length)=(map n3 w73.2.1).length)&&true)) then some w73 else none).bind λ u74=>some (aag u74)).bind λ u75=>some (aag u75))) else none
def sx (N:Nat) (a0:aP×aG) (y1:bz) (o9:EN) (LD:bz×Int×ah×ah):Option ((bz×Int×ah×ah)⊕((Unit×Bool×ah×ah)⊕(bz×ah×ah))):=
 let l3:=(fits p3); let l2:=(mQ LD.1); (bif (decide (LD.2.1 < (((xR a0.1).length:Nat):Int))) then (((B7 LD.1 ([]:List AV) 0 LD.2.2.1 LD.2.2.2).bind λ XU=>bif (decide (((l2).length)=(map n59 XU.1).length)&&(decide (0=(map n3 XU.2.1).length)&&true)) then some XU else none).bind λ x85=>(ao (lI N a0 y1 o9 LD) N x85).bind λ o77=>(ab6 (λ Wj=>((((bif (allFit l3 (L3 Wj.2.2.2.1)&&(allFit l3 (L3 Wj.2.2.2.2)&&true)) then some ((),Wj.2.1,(K3 Wj.2.2.2.1),(K3 Wj.2.2.2.2)) else none).bind λ w80=>some w80).bind λ u81=>some (aaL u81)).bind λ u82=>some (aag u82))) (λ o79=>let l1:=(mQ o79.1); let l4:=(l1++[(AV.list .bV 1 (L3 o79.2.1))]); bif (decide (((l1).length)=(l1).length)&&decide (((l1).length+1)*24<=140737488355328)) then (((bif (allFit (fits oW) l4&&(allFit l3 (L3 o79.2.2.1)&&(allFit l3 (L3 o79.2.2.2)&&true))) then some ((map d59 l4),(wrap .i64 (LD.2.1+1)),(K3 o79.2.2.1),(K3 o79.2.2.2)) else none).bind λ w83=>bif (decide ((((l1).length)+1)=(map n59 w83.1).length)&&true) then some w83 else none).bind λ u84=>some (aaL u84)) else none) o77)) else ((((bif (allFit (fits oW) l2&&(allFit l3 (L3 LD.2.2.1)&&(allFit l3 (L3 LD.2.2.2)&&true))) then some ((map d59 l2),(K3 LD.2.2.1),(K3 LD.2.2.2)) else none).bind λ w86=>bif (decide (((l2).length)=(map n59 w86.1).length)&&true) then some w86 else none).bind λ u87=>some (aag u87)).bind λ u88=>some (aag u88)))
def Wu (N:Nat) (a0:aP×aG):Wt N a0 =
 (let cX:=(map d59 ([]:List AV)); let cW:=(fits oW); let l9:=(V2 a0.2); let l8:=(xR a0.1); let l6:=(fits p3); let l4:=((allFit (fits B5) l8&&(allFit (fits Lv) l9&&true))&&true); ((bif l4 then some ((map d92 l8),(map d79 l9)) else none).bind λ x2=>(T25 N x2).bind λ y1=>((bif l4 then some ((map d92 l8),(map d79 l9)) else none).bind λ x4=>(T27 N x4).bind λ y3=>((bif (allFit cW (mQ y1)&&true) then some (XS y1) else none).bind λ x6=>(T74 N x6).bind λ y5=>let l2:=(wrap .i64 (y5+1)); let l1:=(adf (toNat l2) (aI 0)); let l7:=(map d3 l1); let l5:=(aaN (toNat l2) (l1).length&&aaN (toNat l2) (l1).length); let l3:=(l5&&(l5&&(allFit l6 l1&&(allFit l6 l1&&true)))); (((CW (bif decide ((1:Int)<=l2/\l2<=l2/\l2<=140737488355328/\l2*8<=140737488355328) then bif decide ((1:Int)<=l2/\l2<=l2/\l2<=140737488355328/\l2*8<=140737488355328) then ((bif l3 then some ((),(),l7,l7) else none).bind λ w7=>some w7) else none else none) (bif decide ((1:Int)<=l2/\l2<=l2/\l2<=140737488355328/\l2*8<=140737488355328) then bif decide ((1:Int)<=l2/\l2<=l2/\l2<=140737488355328/\l2*8<=140737488355328) then ((bif l3 then some ((),(),l7,l7) else none).bind λ w8=>some w8) else none else none)):Option (EN)).bind λ o9=>(((bif (allFit l6 (L3 o9.2.2.1)&&(allFit l6 (L3 o9.2.2.2)&&true)) then some (0,(K3 o9.2.2.1),(K3 o9.2.2.2)) else none:Option (Int×ah×ah)).bind λ Tl=>some Tl).bind λ x95=>(ao (vZ N a0 y1 y3 o9) N x95).bind λ tC=>(((bif (allFit l6 (L3 tC.1)&&(allFit l6 (L3 tC.2)&&true)) then some (0,(K3 tC.1),(K3 tC.2)) else none:Option (Int×ah×ah)).bind λ Ap=>some Ap).bind λ x94=>(ao (vk N a0 y1 y5 o9) N x94).bind λ o65=>(((bif (allFit cW ([]:List AV)&&(allFit l6 (L3 o65.1)&&(allFit l6 (L3 o65.2)&&true))) then some (cX,0,(K3 o65.1),(K3 o65.2)) else none:Option (bz×Int×ah×ah)).bind λ w89=>bif (decide (0=(map n59 w89.1).length)&&true) then some w89 else none).bind λ x93=>(ao (sx N a0 y1 o9) N x93).bind λ o90=>(ab6 (λ o91=>(bif (allFit cW ([]:List AV)&&true) then some (cX,o91.2.1) else none)) (λ o92=>(bif (allFit cW (mQ o92.1)&&true) then some ((XS o92.1),true) else none)) o90))))))))):=by kernel_rfl
def B8 {α:Type} [DecidableEq α]:∀ {l m:List α},l.Nodup->(∀ x∈l,x∈m)->l.length<=m.length
 |[],_,_,_=>acf _
 |x::l,m,hn,h=>by
  rw [ad4] at hn;have hx:x∈m:=h x ab5;have ih:=B8 (l:=l) (m:=m.erase x) hn.2 (λ y hy=>(List.mem_erase_of_ne (λ e=>hn.1 (by rw [<- e]; exact hy))).2 (h y (ab7 _ hy)));have e:=List.length_erase_of_mem hx;have:0 < m.length:=List.length_pos_of_mem hx;rw [adh]; omega
def vl {α:Type} (f:α->Option α) (x:α):Nat->Option α
 |0=>some x
 |n+1=>(vl f x n).bind f
def mf {α:Type} {f:α->Option α} {L:List α} {x0:α} (h0:x0∈L) (cl:∀ x∈L,∀ y,f x=some y->y∈L):∀ n y,vl f x0 n=some y->y∈L
 |0,y,h=>by cases h; exact h0
 |n+1,y,h=>by
  unfold vl at h;cases e:vl f x0 n with
  |none=>rw [e] at h; cases h
  |some z=>rw [e] at h; exact cl z (mf h0 cl n z e) y h
def jl {α:Type} {f:α->Option α} {x0:α} {y:α} (h:vl f x0 (n+1)=some y):∃ z,vl f x0 n=some z/\f z=some y:=by
 unfold vl at h;cases e:vl f x0 n with
 |none=>rw [e] at h; cases h
 |some z=>rw [e] at h; exact ⟨z,rfl,h⟩
def we {α:Type} {f:α->Option α} {x0:α}:∀ (n:Nat) (y:α) (k:Nat),vl f x0 (n+k)=some y->∃ z,vl f x0 n=some z
 |_,y,0,h=>⟨y,h⟩
 |n,y,k+1,h=>by
  obtain ⟨z,h1,_⟩:=jl (n:=n+k) h;exact we n z k h1
def Qq {α:Type} {f:α->Option α} {L:List α} {x0:α} (h0:x0∈L) (cl:∀ x∈L,∀ y,f x=some y->y∈L)
  (inj:∀ x∈L,∀ x'∈L,∀ y,f x=some y->f x'=some y->x=x') (nr:∀ x∈L,f x≠some x0) :
  ∀ (i k:Nat) (y:α),vl f x0 i=some y->vl f x0 (i+k+1)=some y->False
 |0,k,y,h1,h2=>by
  cases h1;obtain ⟨z,a,b⟩:=jl h2;exact nr z (mf h0 cl _ _ a) b
 |i+1,k,y,h1,h2=>by
  obtain ⟨z,a,b⟩:=jl h1;have h2:vl f x0 (i+k+1+1)=some y:=by rw [show i+k+1+1=i+1+k+1 by omega]; exact h2
  obtain ⟨z',a',b'⟩:=jl h2;have:=inj z (mf h0 cl _ _ a) z' (mf h0 cl _ _ a') y b b';subst this;exact Qq h0 cl inj nr i k z a a'
def aa0 {α:Type} [DecidableEq α] {f:α->Option α} {L:List α} {x0:α} (h0:x0∈L) (cl:∀ x∈L,∀ y,f x=some y->y∈L)
  (inj:∀ x∈L,∀ x'∈L,∀ y,f x=some y->f x'=some y->x=x') (nr:∀ x∈L,f x≠some x0) :
  ∃ m x,m < L.length/\vl f x0 m=some x/\f x=none:=by
 apply acP;intro hc;have all:∀ m,m<=L.length->∃ x,vl f x0 m=some x:=by
  intro m
  induction m with
  |zero=>intro _; exact ⟨x0,rfl⟩
  |succ m ih=>
   intro hm;obtain ⟨x,hx⟩:=ih (by omega);cases e:f x with
   |none=>exact absurd ⟨m,x,by omega,hx,e⟩ hc
   |some y=>exact ⟨y,by show (vl f x0 m).bind f=_; rw [hx]; exact e⟩
 have nd:((adR (L.length+1)).map λ m=>(vl f x0 m).getD x0).Nodup:=by
  rw [aee,acJ];refine acW (R:=(· < ·)) ?_ List.pairwise_lt_range;intro a b ha hb hab e;rw [aca] at ha hb;obtain ⟨x,hx⟩:=all a (by omega);obtain ⟨y,hy⟩:=all b (by omega);rw [hx,hy] at e;have e:x=y:=e;subst e;exact Qq h0 cl inj nr a (b - a - 1) x hx (by rw [show a+(b - a - 1)+1=b by omega]; exact hy)
 have:=B8 nd (m:=L) (λ x hx=>by
  rw [abC] at hx;obtain ⟨m,hm,e⟩:=hx;rw [aca] at hm;obtain ⟨y,hy⟩:=all m (by omega);rw [hy] at e;have e:y=x:=e;rw [<- e];exact mf h0 cl m y hy)
 rw [aad,List.length_range] at this;omega
structure Inv2 {α:Type} (L:List α) (s:α->α) (r:α->Option α):Prop where
 sm:∀ x∈L,s x∈L
 ss:∀ x∈L,s (s x)=x
 sn:∀ x∈L,s x≠x
 rm:∀ x∈L,∀ y,r x=some y->y∈L
 rr:∀ x∈L,∀ y,r x=some y->r y=some x
 rn:∀ x∈L,r x≠some x
section
variable {s:α->α} {r:α->Option α} (I:Inv2 L s r)
include I
theorem Inv2.cl:∀ x∈L,∀ y,r (s x)=some y->y∈L:=λ x hx y h=>I.rm (s x) (I.sm x hx) y h
theorem Inv2.inj:∀ x∈L,∀ x'∈L,∀ y,r (s x)=some y->r (s x')=some y->x=x':=λ x hx x' Al y h h'=>by
 have a:=I.rr _ (I.sm x hx) y h;have b:=I.rr _ (I.sm x' Al) y h';rw [a] at b;have b:s x=s x':=acg b;rw [<- I.ss x hx,b,I.ss x' Al]
theorem Inv2.nr (h:r x0=none):∀ x∈L,r (s x)≠some x0:=λ x hx e=>by
 have:=I.rr _ (I.sm x hx) x0 e;rw [h] at this; cases this
theorem Inv2.ends [DecidableEq α] (h0:x0∈L) (h:r x0=none):∃ m x,m < L.length/\vl (λ x=>r (s x)) x0 m=some x/\r (s x)=none:=
 aa0 (f:=λ x=>r (s x)) h0 I.cl I.inj (I.nr h)
theorem Inv2.rev {x0:α} (h0:x0∈L) {m:Nat} {x:α} (hm:vl (λ x=>r (s x)) x0 m=some x):∀ i,i<=m->∀ y,vl (λ x=>r (s x)) x0 (m - i)=some y->vl (λ x=>r (s x)) (s x) i=some (s y)
 |0,_,y,hy=>by
  rw [Nat.sub_zero,hm] at hy;cases hy; rfl
 |i+1,hi,y,hy=>by
  have e:m - i=(m - (i+1))+1:=by omega
  obtain ⟨z,hz⟩:=we (m - i) x i (by rw [show m - i+i=m by omega]; exact hm);have ih:=Inv2.rev h0 hm i (by omega) z hz;rw [e] at hz;obtain ⟨y',a,b⟩:=jl hz;rw [a] at hy;cases hy;have yL:=mf (f:=λ x=>r (s x)) h0 I.cl _ _ a;have zL:=I.cl y yL z b;show (vl (λ x=>r (s x)) (s x) i).bind _=_;rw [ih];show r (s (s z))=_;rw [I.ss z zL];exact I.rr _ (I.sm _ yL) z b
theorem Inv2.other (h0:x0∈L) {m:Nat} (hm:vl (λ x=>r (s x)) x0 m=some x):s x≠x0:=by
 intro e;have key:=λ i hi y hy=>I.rev h0 hm i hi y hy
 rw [e] at key;rcases Nat.mod_two_eq_zero_or_one m with hp|hp
 .obtain ⟨y,hy⟩:=we (m / 2) x (m - m / 2) (by rw [show m / 2+(m - m / 2)=m by omega]; exact hm);have:=key (m / 2) (by omega) y (by rw [show m - m / 2=m / 2 by omega]; exact hy);rw [hy] at this;exact I.sn y (mf (f:=λ x=>r (s x)) h0 I.cl _ _ hy) (acg this).symm
 .obtain ⟨y,hy⟩:=we (m / 2) x (m - m / 2) (by rw [show m / 2+(m - m / 2)=m by omega]; exact hm);have:=key (m / 2+1) (by omega) y (by rw [show m - (m / 2+1)=m / 2 by omega]; exact hy);obtain ⟨z,a,b⟩:=jl this;rw [hy] at a;cases a;have yL:=mf (f:=λ x=>r (s x)) h0 I.cl _ _ hy;exact I.rn _ (I.sm y yL) b
def onW (s:α->α) (r:α->Option α) (x0:α) (m:Nat) (y:α):Prop:=∃ i,i<=m/\(vl (λ x=>r (s x)) x0 i=some y\/vl (λ x=>r (s x)) x0 i=some (s y))
theorem Inv2.alW {m:Nat} (hy:y∈L) (h:onW s r x0 m y):onW s r x0 m (s y):=by
 obtain ⟨i,hi,h|h⟩:=h
 .exact ⟨i,hi,.inr (by rw [I.ss y hy]; exact h)⟩
 .exact ⟨i,hi,.inl h⟩
theorem Inv2.alX (h0:x0∈L) (hn:r x0=none) {m:Nat} (hm:vl (λ x=>r (s x)) x0 m=some x) (he:r (s x)=none) (hy:y∈L) (h:onW s r x0 m y) (hr:r y=some z):onW s r x0 m z:=by
 obtain ⟨i,hi,h|h⟩:=h
 .cases i with
  |zero=>cases h; rw [hn] at hr; cases hr
  |succ i=>
   obtain ⟨w,a,b⟩:=jl h;have wL:=mf (f:=λ x=>r (s x)) h0 I.cl _ _ a;have:=I.rr _ (I.sm w wL) y b;rw [hr] at this;cases this;exact ⟨i,by omega,.inr (by rw [I.ss w wL]; exact a)⟩
 .rcases adT i m with c|c
  .refine ⟨i+1,by omega,.inl ?_⟩;show (vl (λ x=>r (s x)) x0 i).bind _=_;rw [h];show r (s (s y))=_;rw [I.ss y hy]; exact hr
  .have:i=m:=by omega
   subst this;rw [hm] at h;cases h;rw [I.ss y hy,hr] at he;cases he
theorem Inv2.aa1 (h0:x0∈L) {m:Nat} (hm:vl (λ x=>r (s x)) x0 m=some x) (hy:y∈L) (h:onW s r x0 m y) (hr:r y=none):y=x0\/y=s x:=by
 obtain ⟨i,hi,h|h⟩:=h
 .cases i with
  |zero=>cases h; exact .inl rfl
  |succ i=>
   obtain ⟨w,a,b⟩:=jl h;have wL:=mf (f:=λ x=>r (s x)) h0 I.cl _ _ a;have:=I.rr _ (I.sm w wL) y b;rw [hr] at this; cases this
 .rcases adT i m with c|c
  .obtain ⟨z,hz⟩:=we (i+1) x (m - (i+1)) (by rw [show i+1+(m - (i+1))=m by omega]; exact hm);obtain ⟨w,a,b⟩:=jl hz;rw [h] at a;cases a;have b:r (s (s y))=some z:=b;rw [I.ss y hy,hr] at b;cases b
  .have:i=m:=by omega
   subst this;rw [hm] at h;cases h;exact .inr (I.ss y hy).symm
end
def XW {α:Type} [DecidableEq α]:List α->List α
 |[]=>[]
 |x::l=>if x∈l then XW l else x::XW l
def wg {α:Type} [DecidableEq α]:∀ (l:List α) (x:α),x∈XW l↔x∈l
 |[],_=>Iff.rfl
 |y::l,x=>by
  unfold XW;by_cases h:y∈l
  .rw [if_pos h,wg l x,ab9];exact ⟨Or.inr,λ c=>c.elim (λ e=>e ▸ h) id⟩
  .rw [if_neg h,ab9,ab9,wg l x]
def I8 {α:Type} [DecidableEq α]:∀ l:List α,(XW l).Nodup
 |[]=>aed
 |y::l=>by
  unfold XW;by_cases h:y∈l
  .rw [if_pos h]; exact I8 l
  .rw [if_neg h,ad4,wg]; exact ⟨h,I8 l⟩
def alY {α:Type} [DecidableEq α] {l m:List α} (hl:l.Nodup) (hm:m.Nodup) (h:∀ x,x∈l↔x∈m):l.length=m.length:=
 Nat.le_antisymm (B8 hl λ x hx=>(h x).1 hx) (B8 hm λ x hx=>(h x).2 hx)
def FN {α β:Type} [DecidableEq β] (g:α->β) (L:List α):Nat:=(XW (L.map g)).length
section
variable {β γ:Type} [DecidableEq β] [DecidableEq γ]
def ahK {g:α->β} {m:List β} (hm:m.Nodup) (h:∀ x,x∈m↔∃ y∈L,g y=x):FN g L=m.length:=
 alY (I8 _) hm λ x=>by rw [wg,abC,h]
def Wv {g:α->β} {k:α->γ} (h:∀ x∈L,∀ y∈L,k x=k y->g x=g y):FN g L<=FN k L:=by
 induction L with
 |nil=>exact ady _
 |cons a L ih=>
  have ih:=ih λ x hx y hy=>h x (ab7 _ hx) y (ab7 _ hy)
  unfold FN at ih ⊢;rw [aci,aci,XW,XW];by_cases c:k a∈L.map k
  .obtain ⟨b,hb,e⟩:=abC.1 c;have:g a∈L.map g:=abC.2 ⟨b,hb,h b (ab7 _ hb) a ab5 e⟩;rw [if_pos c,if_pos this]; exact ih
  .rw [if_neg c,adh];by_cases d:g a∈L.map g
   .rw [if_pos d]; omega
   .rw [if_neg d,adh]; omega
def Hs {g:α->β} {k:α->γ} (h:∀ x∈L,∀ y∈L,(k x=k y↔g x=g y)):FN g L=FN k L:=
 Nat.le_antisymm (Wv λ x hx y hy e=>(h x hx y hy).1 e) (Wv λ x hx y hy e=>(h x hx y hy).2 e)
def hZ (g:α->β) (p:α×α):α->β:=λ z=>if g z=g p.1 then g p.2 else g z
def sy (g:α->β) (p:α×α) (x y:α):hZ g p x=hZ g p y↔g x=g y\/(g x=g p.1/\g y=g p.2)\/(g x=g p.2/\g y=g p.1):=by
 unfold hZ;by_cases hx:g x=g p.1 <;> by_cases hy:g y=g p.1
 .rw [if_pos hx,if_pos hy]; exact ⟨λ _=>.inl (by rw [hx,hy]),λ _=>rfl⟩
 .rw [if_pos hx,if_neg hy];constructor
  .intro e; exact .inr (.inl ⟨hx,e.symm⟩)
  .rintro (e|⟨_,e⟩|⟨_,e⟩)
   .exact absurd (by rw [<- e,hx]) hy
   .exact e.symm
   .exact absurd e hy
 .rw [if_neg hx,if_pos hy];constructor
  .intro e; exact .inr (.inr ⟨e,hy⟩)
  .rintro (e|⟨e,_⟩|⟨e,_⟩)
   .exact absurd (by rw [e,hy]) hx
   .exact absurd e hx
   .exact e
 .rw [if_neg hx,if_neg hy];constructor
  .exact .inl
  .rintro (e|⟨e,_⟩|⟨_,e⟩)
   .exact e
   .exact absurd e hx
   .exact absurd e hy
def aa2 (g:α->β) (p:α×α) (h1:p.1∈L) (h2:p.2∈L):FN (hZ g p) L+(if g p.1=g p.2 then 0 else 1)=FN g L:=by
 by_cases c:g p.1=g p.2
 .rw [if_pos c,Nat.add_zero];refine Hs λ x _ y _=>?_
  rw [sy];constructor
  .exact .inl
  .rintro (e|⟨e,f⟩|⟨e,f⟩)
   .exact e
   .rw [e,f,c]
   .rw [e,f,c]
 .rw [if_neg c];have a:=ahK (g:=g) (L:=L) (m:=g p.1::XW (L.map (hZ g p))) (by
   rw [ad4,wg,abC];refine ⟨?_,I8 _⟩;rintro ⟨x,hx,e⟩;unfold hZ at e;by_cases d:g x=g p.1
   .rw [if_pos d] at e; exact c e.symm
   .rw [if_neg d] at e; exact d e) (λ z=>by
   rw [ab9,wg,abC];constructor
   .rintro (e|⟨x,hx,e⟩)
    .exact ⟨p.1,h1,e.symm⟩
    .unfold hZ at e;by_cases d:g x=g p.1
     .rw [if_pos d] at e; exact ⟨p.2,h2,e⟩
     .rw [if_neg d] at e; exact ⟨x,hx,e⟩
   .rintro ⟨y,hy,e⟩;by_cases d:g y=g p.1
    .exact .inl (by rw [<- e,d])
    .exact .inr ⟨y,hy,by unfold hZ; rw [if_neg d,e]⟩)
  rw [a,adh]; rfl
end
inductive Cn {α:Type} (E:α->α->Prop):α->α->Prop
 |refl (x:α):Cn E x x
 |step {x y z:α}:Cn E x y->E y z->Cn E x z
 |back {x y z:α}:Cn E x y->E z y->Cn E x z
def Cn.one {α:Type} {E:α->α->Prop} {x y:α} (h:E x y):Cn E x y:=.step (.refl x) h
def Cn.trans {α:Type} {E:α->α->Prop} {x y z:α} (h:Cn E x y) (k:Cn E y z):Cn E x z:=by
 induction k with
 |refl=>exact h
 |step _ e ih=>exact .step ih e
 |back _ e ih=>exact .back ih e
def Cn.symm {α:Type} {E:α->α->Prop} {x y:α} (h:Cn E x y):Cn E y x:=by
 induction h with
 |refl=>exact .refl _
 |step _ e ih=>exact Cn.trans (.back (.refl _) e) ih
 |back _ e ih=>exact Cn.trans (.step (.refl _) e) ih
def Cn.keep {α β:Type} {E:α->α->Prop} {f:α->β} (h:∀ x y,E x y->f x=f y) {x y:α} (k:Cn E x y):f x=f y:=by
 induction k with
 |refl=>rfl
 |step _ e ih=>rw [ih]; exact h _ _ e
 |back _ e ih=>rw [ih]; exact (h _ _ e).symm
def Cn.mono {α:Type} {E F:α->α->Prop} (h:∀ x y,E x y->Cn F x y) {x y:α} (k:Cn E x y):Cn F x y:=by
 induction k with
 |refl=>exact .refl _
 |step _ e ih=>exact ih.trans (h _ _ e)
 |back _ e ih=>exact ih.trans (h _ _ e).symm
def Cn.alZ {α:Type} {E:α->α->Prop} {P:α->Prop} (h:∀ x y,E x y->(P x↔P y)) {x y:α} (k:Cn E x y) (hx:P x):P y:=by
 induction k with
 |refl=>exact hx
 |step _ e ih=>exact (h _ _ e).1 ih
 |back _ e ih=>exact (h _ _ e).2 ih
section
variable [DecidableEq α]
def eh (E:List (α×α)):α->α:=E.foldl hZ id
def Ww (E:List (α×α)):∀ (g:α->α) (F:α->α->Prop),(∀ x y,g x=g y↔Cn F x y)->∀ x y,(E.foldl hZ g x=E.foldl hZ g y↔Cn (λ a b=>F a b\/(a,b)∈E) x y):=by
 induction E with
 |nil=>
  intro g F h x y;show g x=g y↔_;rw [h];exact ⟨Cn.mono λ _ _ e=>.one (.inl e),Cn.mono λ _ _ e=>by rcases e with e | e; exact .one e; cases e⟩
 |cons p E ih=>
  intro g F h x y;have key:=ih (hZ g p) (λ a b=>F a b\/(a,b)=p) (λ x y=>by
   rw [sy];have up:∀ a b,g a=g b->Cn (λ a b=>F a b\/(a,b)=p) a b:=λ a b e=>Cn.mono (λ _ _ e=>.one (.inl e)) ((h a b).1 e)
   have pe:Cn (λ a b=>F a b\/(a,b)=p) p.1 p.2:=.one (.inr rfl);constructor
   .rintro (e|⟨e,f⟩|⟨e,f⟩)
    .exact up _ _ e
    .exact (up _ _ e).trans (pe.trans (up _ _ f).symm)
    .exact (up _ _ e).trans (pe.symm.trans (up _ _ f).symm)
   .intro k;rw [<- sy];exact Cn.keep (λ a b e=>by
     rw [sy];rcases e with e|e
     .exact .inl ((h a b).2 (.one e))
     .rw [<- e]; exact .inr (.inl ⟨rfl,rfl⟩)) k) x y
  show List.foldl hZ (hZ g p) E x=List.foldl hZ (hZ g p) E y↔_;rw [key];constructor
  .exact Cn.mono λ a b e=>by
    rcases e with (e|e)|e
    .exact .one (.inl e)
    .exact .one (.inr (by rw [e]; exact ab5))
    .exact .one (.inr (ab7 _ e))
  .exact Cn.mono λ a b e=>by
    rcases e with e|e
    .exact .one (.inl (.inl e))
    .rcases ab9.1 e with e|e
     .exact .one (.inl (.inr e))
     .exact .one (.inr e)
def gU (E:List (α×α)) (x y:α):eh E x=eh E y↔Cn (λ a b=>(a,b)∈E) x y:=by
 unfold eh;rw [Ww E id (λ _ _=>False) (λ x y=>⟨λ e=>by have e:x=y:=e; rw [e]; exact .refl _,λ k=>Cn.keep (λ _ _ e=>e.elim) k⟩) x y];exact ⟨Cn.mono λ _ _ e=>.one (e.resolve_left id),Cn.mono λ _ _ e=>.one (.inr e)⟩
def Fg {E F:List (α×α)} (L:List α) (h:∀ a b,(a,b)∈E->Cn (λ a b=>(a,b)∈F) a b) (k:∀ a b,(a,b)∈F->Cn (λ a b=>(a,b)∈E) a b):FN (eh E) L=FN (eh F) L:=
 Hs λ x _ y _=>by
  rw [gU,gU];exact ⟨Cn.mono k,Cn.mono h⟩
def Bg (E:List (α×α)) (p:α×α):eh (E++[p])=hZ (eh E) p:=by unfold eh; rw [List.foldl_append]; rfl
def LF (E:List (α×α)) (p:α×α) (h1:p.1∈L) (h2:p.2∈L):FN (eh (E++[p])) L+(if eh E p.1=eh E p.2 then 0 else 1)=FN (eh E) L:=by
 rw [Bg]; exact aa2 _ _ h1 h2
def C1 (E:List (α×α)) (p q:α×α) {L:List α} (h1:p.1∈L) (h2:p.2∈L) (h3:q.1∈L) (h4:q.2∈L) :
  FN (eh (E++[p,q])) L+(if eh E q.1=eh E q.2\/(eh E q.1=eh E p.1/\eh E q.2=eh E p.2)\/(eh E q.1=eh E p.2/\eh E q.2=eh E p.1) then 0 else 1)+(if eh E p.1=eh E p.2 then 0 else 1)=FN (eh E) L:=by
 rw [<- LF E p h1 h2,<- LF (E++[p]) q h3 h4,Bg E p,acK];by_cases c:hZ (eh E) p q.1=hZ (eh E) p q.2
 .rw [if_pos c,if_pos ((sy _ _ _ _).1 c)]; rfl
 .rw [if_neg c,if_neg λ d=>c ((sy _ _ _ _).2 d)]; rfl
def LG (E:List (α×α)) (ha0:a0∈L) (ha1:a1∈L) (hb0:b0∈L) (Kz:b1∈L)
  (ha:eh E a0=eh E a1) (hb:eh E b0=eh E b1) (h:eh E a0≠eh E b0) :
  FN (eh (E++[(a0,b1),(a1,b0)])) L+1=FN (eh (E++[(a0,a1),(b0,b1)])) L:=by
 have p1:=C1 E (a0,b1) (a1,b0) (L:=L) ha0 Kz ha1 hb0;have p2:=C1 E (a0,a1) (b0,b1) (L:=L) ha0 ha1 hb0 Kz;simp only at p1 p2;rw [if_pos ha,if_pos (.inl hb)] at p2;rw [if_pos (.inr (.inl ⟨ha.symm,hb⟩)),if_neg (by rw [<- hb]; exact h)] at p1;omega
def Wx (E:List (α×α)) (ha0:a0∈L) (ha1:a1∈L) (hb0:b0∈L) (Kz:b1∈L)
  (ha:eh E a0=eh E b1) (hb:eh E a1=eh E b0) (h:eh E a0≠eh E a1) :
  FN (eh (E++[(a0,b1),(a1,b0)])) L=FN (eh (E++[(a0,a1),(b0,b1)])) L+1:=by
 have p1:=C1 E (a0,b1) (a1,b0) (L:=L) ha0 Kz ha1 hb0;have p2:=C1 E (a0,a1) (b0,b1) (L:=L) ha0 ha1 hb0 Kz;simp only at p1 p2;rw [if_neg h,if_pos (.inr (.inr ⟨hb.symm,ha.symm⟩))] at p2;rw [if_pos ha,if_pos (.inl hb)] at p1;omega
end
def vn (first:Bool) (c:Int):Bool:=
 !(decide (c>=65)&&decide (c<=90) || decide (c>=97)&&decide (c<=122))&&(first || (c != 95&&(decide (c < 48) || decide (c > 57))))
def nP (first:Bool):List UInt8->Bool
 |[]=>true
 |c::l=>!vn first (c.toNat:Int)&&nP false l
def LH (s:List UInt8):Bool:=decide (s.length≠0/\s.length<=24)
def mV (s:List UInt8):Bool:=LH s&&nP true s
def Wy (s:List UInt8):(((bif ((((s).length:Nat):Int) == 0) then (some true) else (some (decide ((((s).length:Nat):Int) > 24)))):Option Bool))=some (!LH s):=by
 unfold LH;by_cases h0:s.length=0
 .simp [h0]
 .rw [aoT (by omega)];by_cases h1:s.length<=24
  .have:decide (((s.length:Nat):Int) > 24)=false:=by simp; omega
   rw [this]; simp [h0,h1]
  .have:decide (((s.length:Nat):Int) > 24)=true:=by simp; omega
   rw [this]; simp [h1]
def Sp (l:List UInt8):∀ (first:Bool),foldI (λ (b:Bool) (c:UInt8)=>if vn b (c.toNat:Int) then (.inr ():Bool⊕Unit) else .inl false) first l=if nP first l then .inl (if l.isEmpty then first else false) else .inr ():=by
 induction l with
 |nil=>intro b; rfl
 |cons c l ih=>
  intro b;simp only [foldI,nP];by_cases h:vn b (c.toNat:Int)=true
  .simp [h]
  .have h':vn b (c.toNat:Int)=false:=by simpa using h
   simp only [h',Bool.false_eq_true,if_false,adj,Bool.not_false,acq,ih false];by_cases h2:nP false l=true <;> simp [h2]
def Sq (hN:dC N) (s:List UInt8):aaB N s=some (mV s):=by
 rw [aaD,Wy];simp only [aaJ];unfold mV;cases FX:LH s with
 |false=>rfl
 |true=>
  have hl:=of_decide_eq_true (show decide (s.length≠0/\s.length<=24)=true from FX);simp only [adF,cond_false,acq];have key:=kT (rd:=zH N s) s (λ (b:Bool) k=>(k:Int)) (λ b (c:UInt8)=>if vn b (c.toNat:Int) then (.inr ():Bool⊕Unit) else .inl false) (λ _=>.inr ()) (λ _=>.inl false) (λ b k=>b=(k == 0))
   (λ b k hk hb=>by
    refine ⟨?_,λ s' h'=>?_⟩
    .subst hb;have e1:s.getD k 0=s[k]:=by simp [hk]
     have e2:((k:Int) == 0)=(k == 0):=by cases k <;> simp; omega
     unfold zH;simp only [aaK,ai hk,af hk,cond_true,aN (by omega:k < 9223372036854775807),e1,e2];unfold vn;generalize ((s[k].toNat:Nat):Int)=c;generalize decide (c>=97)=b1;generalize decide (c<=122)=b2;generalize decide (c>=65)=b3;generalize decide (c<=90)=b4;generalize (c != 95)=b5;generalize decide (c < 48)=b6;generalize decide (c > 57)=b7;generalize (k == 0)=b0;cases b0 <;> cases b1 <;> cases b2 <;> cases b3 <;> cases b4 <;> cases b5 <;> cases b6 <;> cases b7 <;> rfl
    .split at h'
     .cases h'
     .cases h'; simp)
   (λ b _=>by
    unfold zH;simp only [ay,cond_false]) N true 0 (acf _) (by unfold dC at hN; omega) rfl
  have ahL:ao (V:=Int) (X:=Bool⊕Unit) (zH N s) N 0=_:=key;simp only [ahL,aaJ,adn,Sp];cases nP true s <;> rfl
def LI {b:Bool} (h:128<=c):vn b c=true:=by
 unfold vn;have h1:decide (c<=90)=false:=by simp; omega
 have h2:decide (c<=122)=false:=by simp; omega
 have h3:(c != 95)=true:=by simp; omega
 have h4:decide (c > 57)=true:=by simp; omega
 rw [h1,h2,h3,h4];cases b <;> simp
def Sr (hN:dC N) (s:List UInt8):Z0 N s=some (mV s):=by
 rw [Z2,Wy];simp only [aaJ];unfold mV;cases FX:LH s with
 |false=>rfl
 |true=>
  have hl:=of_decide_eq_true (show decide (s.length≠0/\s.length<=24)=true from FX);simp only [adF,cond_false,acq];have key:=kT (rd:=zA N) s (λ (p:Nat) k=>(s,(k:Int))) (λ p (c:UInt8)=>if vn (p == 0) (c.toNat:Int) then (.inr (p+(iQ s p).2):Nat⊕Nat) else .inl (p+1)) (λ p=>.inl (s,(p:Int))) (λ p=>.inr (false,s,(p:Int))) (λ p k=>p=k)
   (λ p k hk hp=>by
    subst hp;refine ⟨?_,λ s' h'=>?_⟩
    .have e2:((p:Int) == 0)=(p == 0):=by cases p <;> simp; omega
     have e3:Nat.blt p s.length=true:=Nat.ble_eq_true_of_le hk;obtain ⟨r1,r2⟩:=YO s p hk;unfold zA;simp only [aaK,e3,cond_true,e2];have main:∀ (n:Nat) (c:Int),(((bif (decide (c>=65)) then (bif (decide (c<=90)) then (some (true,s,(((p+n):Nat):Int))) else (bif (decide (c>=97)) then (some ((decide (c<=122)),s,(((p+n):Nat):Int))) else (some (false,s,(((p+n):Nat):Int))))) else (bif (decide (c>=97)) then (some ((decide (c<=122)),s,(((p+n):Nat):Int))) else (some (false,s,(((p+n):Nat):Int))))):Option ((Bool×(List UInt8)×Int))).bind λ o3=>(((bif (!o3.1) then (bif (p == 0) then (some (true,o3.2.1,(((toNat o3.2.2):Nat):Int))) else (bif (c != 95) then (bif (decide (c < 48)) then (some (true,o3.2.1,(((toNat o3.2.2):Nat):Int))) else (some ((decide (c > 57)),o3.2.1,(((toNat o3.2.2):Nat):Int)))) else (some (false,o3.2.1,(((toNat o3.2.2):Nat):Int))))) else (some (false,o3.2.1,(((toNat o3.2.2):Nat):Int)))):Option ((Bool×(List UInt8)×Int))).bind λ o4=>(bif o4.1 then (some (aag (aag (false,o4.2.1,(((toNat o4.2.2):Nat):Int)))):Option (((List UInt8)×Int)⊕(((List UInt8)×Int)⊕(Bool×(List UInt8)×Int)))) else (some (aaL (o4.2.1,(((toNat o4.2.2):Nat):Int))))))) =
       some (bif vn (p == 0) c then aag (aag (false,s,((p+n:Nat):Int))) else aaL (s,((p+n:Nat):Int))):=by
      intro n c;unfold vn;generalize decide (c>=97)=b1;generalize decide (c<=122)=b2;generalize decide (c>=65)=b3;generalize decide (c<=90)=b4;generalize (c != 95)=b5;generalize decide (c < 48)=b6;generalize decide (c > 57)=b7;generalize (p == 0)=b0;cases b0 <;> cases b1 <;> cases b2 <;> cases b3 <;> cases b4 <;> cases b5 <;> cases b6 <;> cases b7 <;> rfl
     rw [main];by_cases arM:s[p].toNat < 128
     .rw [r1 arM];by_cases hb:vn (p == 0) (s[p].toNat:Int)=true
      .simp [hb]
      .have nt:vn (p == 0) (s[p].toNat:Int)=false:=by simpa using hb
       simp [nt]
     .have h1:=LI (b:=p == 0) (c:=((iQ s p).1:Int)) (by have:=r2 (by omega); omega);have h2:=LI (b:=p == 0) (c:=(s[p].toNat:Int)) (by omega);rw [h1,if_pos h2];rfl
    .split at h'
     .cases h'
     .cases h'; rfl)
   (λ p hp=>by
    subst hp;unfold zA;have e3:Nat.blt s.length s.length=false:=by
     cases hb:Nat.blt s.length s.length with
     |false=>rfl
     |true=>have:=ad9 hb; omega
    simp only [aaK,e3,cond_false]) N 0 0 (acf _) (by unfold dC at hN; omega) rfl
  have ahL:ao (V:=(List UInt8)×Int) (X:=((List UInt8)×Int)⊕(Bool×(List UInt8)×Int)) (zA N) N (s,((0:Nat):Int))=_:=key;rw [ahL];simp only [aaJ,adn];have gen:∀ (l:List UInt8) (p:Nat) (first:Bool),first=(p == 0)->ab6 (λ _=>true) (λ _=>false) (foldI (λ (p:Nat) (c:UInt8)=>if vn (p == 0) (c.toNat:Int) then (.inr (p+(iQ s p).2):Nat⊕Nat) else .inl (p+1)) p l)=nP first l:=by
   intro l
   induction l with
   |nil=>intro p first _; rfl
   |cons c l ih=>
    intro p first hf
    subst hf;simp only [foldI,nP];by_cases h:vn (p == 0) (c.toNat:Int)=true
    .simp [h]
    .have h':vn (p == 0) (c.toNat:Int)=false:=by simpa using h
     simp only [h',Bool.false_eq_true,if_false,adj,Bool.not_false,acq];exact ih (p+1) false (by simp)
  have g:=gen s 0 true rfl;revert g;cases foldI (λ (p:Nat) (c:UInt8)=>if vn (p == 0) (c.toNat:Int) then (.inr (p+(iQ s p).2):Nat⊕Nat) else .inl (p+1)) 0 s with
  |inl p=>intro g; simp only [adj] at g ⊢; rw [<- g]
  |inr p=>intro g; simp only [adU] at g ⊢; rw [<- g]
def arN (l:List Int) (hk:k < l.length):d29 (an (map n29 l) k)=l[k]/\fits Hh (an (map n29 l) k)=true:=by
 rw [fK n29 l k hk]; exact ⟨rfl,rfl⟩
def jt (hN:dC N) (l:List Int) (hl:l.length<=9223372036854775806):IQ N l=some (bP l):=by
 obtain ⟨o,h1,h2⟩:=EL (rd:=IR N l) l (λ k hk=>by
  obtain ⟨e1,e2⟩:=arN l hk;simp only [IR,zB11,e1,e2,aN (show k < 9223372036854775807 by omega),ai hk,af hk,zB17];by_cases hz:l[k]=0
  .simp [hz]
  .simp [hz,Bool.cond_eq_ite]) (by simp only [IR,zB15]) N (by unfold dC at hN; omega)
 rw [afs,h1,aaJ];rcases o with o|o
 .simpa using h2
 .simpa using h2
def OJ (hN:dC N) (l:List Int) (hl:l.length<=9223372036854775806):aaE N l=some (bP l):=by
 obtain ⟨o,h1,h2⟩:=EL (rd:=C0 N l) l (λ k hk=>by
  obtain ⟨e1,e2⟩:=Mq l hk;simp only [C0,zB11,e1,e2,aN (show k < 9223372036854775807 by omega),ai hk,af hk,zB17];by_cases hz:l[k]=0
  .simp [hz]
  .simp [hz,Bool.cond_eq_ite]) (by simp only [C0,zB15]) N (by unfold dC at hN; omega)
 rw [aaG,h1,aaJ];rcases o with o|o
 .simpa using h2
 .simpa using h2
def fh (N:Nat) (b:Bool) (e:Int):Gh N (b,e)=some (if b then e else 0):=by
 rw [aft]; cases b <;> rfl
def aa3 (N:Nat) (n lo hi:Int):T97 N (n,lo,hi)=some (PL n lo hi):=by
 rw [afv];simp only [fh];unfold PL;by_cases h1:n < lo
 .simp [h1]
 .by_cases h2:n > hi <;> simp [h1,h2]
def Wz (N:Nat) (n lo hi:Int):V3 N (n,lo,hi)=some (PL n lo hi):=by
 rw [aaI];unfold PL;by_cases h1:n < lo
 .simp [h1]
 .by_cases h2:n > hi <;> simp [h1,h2]
section
variable (hN:dC N)
include hN
end
def Bh (l:List rk) (hk:k < l.length):d92 (an (map Sh l) k)=l[k]/\fits B5 (an (map Sh l) k)=true:=by
 rw [fK Sh l k hk,ap9,ap8]; exact ⟨rfl,rfl⟩
def Ss (l:List mi) (hk:k < l.length):d79 (an (map Tp l) k)=l[k]/\fits Lv (an (map Tp l) k)=true:=by
 rw [fK Tp l k hk]; exact ⟨rfl,rfl⟩
def WA (l:List (Int×Int)) (hk:k < l.length):d94 (an (map XP l) k)=l[k]/\fits p94 (an (map XP l) k)=true:=by
 rw [fK XP l k hk]; exact ⟨rfl,rfl⟩
def ado (l:List (Int×Int)) (hk:k < l.length):d132 (an (map n132 l) k)=l[k]/\fits EO (an (map n132 l) k)=true:=by
 rw [fK n132 l k hk]; exact ⟨rfl,rfl⟩
def al2:∀ l:List (Int×Int),au (map XP l) (map XP l)=true
 |[]=>rfl
 |x::l=>by
  rw [aci,au,al2 l];show (au [aI x.1,aI x.2] [aI x.1,aI x.2]&&true)=true;simp [au,eC,ur]
def Cy:∀ l:List rk,au (map Sh l) (map Sh l)=true
 |[]=>rfl
 |x::l=>by
  rw [aci,au,Cy l];have e:au (map XP x.2) (map XP x.2)=true:=al2 x.2;show (au [AV.str x.1,AV.list .bV 2 (map XP x.2)] [AV.str x.1,AV.list .bV 2 (map XP x.2)]&&true)=true;simp only [au,eC,ur,e,beq_self_eq_true,Nat.beq_refl,aaR]
def Cz:∀ l:List mi,au (map Tp l) (map Tp l)=true
 |[]=>rfl
 |x::l=>by
  rw [aci,au,Cz l];show (au [aI x.1,aI x.2.1,aI x.2.2.1,aI x.2.2.2.1,AV.bool x.2.2.2.2] [aI x.1,aI x.2.1,aI x.2.2.1,aI x.2.2.2.1,AV.bool x.2.2.2.2]&&true)=true;simp [au,eC,ur]
def zT {α:Type} (f:α->AV) (l:List α) (k:Nat):Az 0 k (map f l)=map f (l.take k):=by simp [Az,List.map_take]
def zU (h:k<=n):decide ((0:Int)<=(k:Int)/\(k:Int)<=(n:Int))=true:=by simp; omega
def aU (t:bh) (e:Int×Int):Bool:=decide (0<=e.1)&&(decide (e.1 < (t.1.length:Int))&&(decide (0<=e.2)&&decide (e.2 < (kr t e.1:Int))))
def mj (t:bh) (e:Int×Int):Int×Int:=((t.1.getD e.1.toNat ([],[])).2).getD e.2.toNat (0,0)
def gK (t:bh) (hk:k < t.1.length):kr t (k:Int)=t.1[k].2.length:=by
 unfold kr;rw [aaK,ab3,ab1 hk]; rfl
def Bi (t:bh) (hk:k < t.1.length) (hi:i < t.1[k].2.length):mj t ((k:Int),(i:Int))=t.1[k].2[i]:=by
 unfold mj;rw [aaK,aaK,ab3,ab3,ab1 hk];show (t.1[k].2[i]?).getD (0,0)=_;rw [ab1 hi]; rfl
def ni (h:aU t e=true):∃ k i:Nat,e=((k:Int),(i:Int))/\∃ hk:k < t.1.length,i < t.1[k].2.length:=by
 unfold aU at h;simp only [acu,decide_eq_true_eq] at h;obtain ⟨h1,h2,h3,h4⟩:=h;refine ⟨e.1.toNat,e.2.toNat,aek (by omega) (by omega),by omega,?_⟩;have hk:e.1.toNat < t.1.length:=by omega
 have:=gK t hk;rw [show ((e.1.toNat:Nat):Int)=e.1 by omega] at this;omega
def kM (t:bh) (hk:k < t.1.length) (hi:i < t.1[k].2.length):aU t ((k:Int),(i:Int))=true:=by
 unfold aU;dsimp only;rw [gK t hk];simp only [acu,decide_eq_true_eq];omega
def zV (N:Nat) (t:bh) (e:Int×Int):V4 N (t,e)=some (aU t e):=by
 obtain ⟨p,s⟩:=e;rw [agO];unfold aU;dsimp only;by_cases h1:0<=p
 .obtain ⟨k,rfl⟩:∃ k:Nat,p=(k:Int):=⟨p.toNat,by omega⟩;by_cases h2:k < t.1.length
  .obtain ⟨a1,a2⟩:=Bh t.1 h2;rw [gK t h2];simp only [zB11,a1,a2,af h2,ai h2,zB17,ge_iff_le,decide_eq_true h1,acq];by_cases h3:0<=s
   .rw [decide_eq_true h3]; rfl
   .rw [decide_eq_false h3]; rfl
  .have d:decide ((k:Int) < (t.1.length:Int))=false:=by simp; omega
   simp only [aad,d,ge_iff_le,decide_eq_true h1,zB10,acq,adx,aaJ]
 .simp only [ge_iff_le,decide_eq_false h1,cond_false,adx,aaJ]
def oK (N:Nat) (t:bh) (e:Int×Int):Oa N (t,e)=some (aU t e):=by
 obtain ⟨p,s⟩:=e;rw [afw];unfold aU;dsimp only;by_cases h1:0<=p
 .obtain ⟨k,rfl⟩:∃ k:Nat,p=(k:Int):=⟨p.toNat,by omega⟩;by_cases h2:k < t.1.length
  .obtain ⟨a1,a2⟩:=kE t.1 h2;rw [gK t h2];simp only [zB11,a1,a2,af h2,ai h2,zB17,ge_iff_le,decide_eq_true h1,acq];by_cases h3:0<=s
   .rw [decide_eq_true h3]; rfl
   .rw [decide_eq_false h3]; rfl
  .have d:decide ((k:Int) < (t.1.length:Int))=false:=by simp; omega
   simp only [aad,d,ge_iff_le,decide_eq_true h1,zB10,acq,adx,aaJ]
 .simp only [ge_iff_le,decide_eq_false h1,cond_false,adx,aaJ]
def Fh (N:Nat) (t:bh) (e:Int×Int) (h:aU t e=true):T69 N (t,e)=some (mj t e):=by
 obtain ⟨k,i,rfl,hk,hi⟩:=ni h;obtain ⟨a1,a2⟩:=Bh t.1 hk;obtain ⟨b1,b2⟩:=WA t.1[k].2 hi;rw [agQ,Bi t hk hi];simp only [zB11,a1,a2,b1,b2,af hk,af hi,zB17]
def sC (N:Nat) (t:bh) (e:Int×Int) (h:aU t e=true):Oc N (t,e)=some (mj t e):=by
 obtain ⟨k,i,rfl,hk,hi⟩:=ni h;obtain ⟨a1,a2⟩:=kE t.1 hk;obtain ⟨b1,b2⟩:=ado t.1[k].2 hi;rw [afx,Bi t hk hi];simp only [zB11,a1,a2,b1,b2,af hk,af hi,zB17]
def Av (a b:Int×Int):Bool:=(a.1 == b.1)&&(a.2 == b.2)
theorem LJ (a b c d:Int):((a == c)&&(b == d))=Av (a,b) (c,d):=rfl
def Ht (a b c d:Int):((a == c)&&((b == d)&&true))=Av (a,b) (c,d):=by rw [aba]; rfl
def kN :Av a b=true↔a=b:=by
 unfold Av;rw [acu,beq_iff_eq,beq_iff_eq];exact ⟨λ h=>aek h.1 h.2,λ h=>by rw [h]; exact ⟨rfl,rfl⟩⟩
def zW (a b:Int×Int):Av a b=Av b a:=by
 apply Bool.eq_iff_iff.2;rw [kN,kN];exact ⟨λ h=>h.symm,λ h=>h.symm⟩
def ot (s:Int×Int):Int:=bP [PL s.1 1 10000,PL s.2 (-100000) 100000]
def ub (b:List rk) (x:rk):Int:=
 if mV x.1=false then 8 else if (b.any λ y=>y.1 == x.1)=true then 9 else if x.2.length < 3\/x.2.length > 8 then 2 else bP (x.2.map ot)
def I9 (s x:mi):Bool:=Av (x.1,x.2.1) (s.1,s.2.1) || (Av (x.1,x.2.1) (s.2.2.1,s.2.2.2.1) || (Av (x.2.2.1,x.2.2.2.1) (s.1,s.2.1) || Av (x.2.2.1,x.2.2.2.1) (s.2.2.1,s.2.2.2.1)))
def WB (a b:Int):Bool:=decide (a > wrap .i64 (2*b)) || decide (b > wrap .i64 (2*a))
def sD (t:bh) (b:List mi) (s:mi):Int:=
 if (aU t (s.1,s.2.1)&&aU t (s.2.2.1,s.2.2.2.1))=false then 10 else
  if Av (s.1,s.2.1) (s.2.2.1,s.2.2.2.1)=true then 9 else if (b.any (I9 s))=true then 9 else
   if WB (mj t (s.1,s.2.1)).1 (mj t (s.2.2.1,s.2.2.2.1)).1=true then 24 else 0
def ov (l:List rk):Int:=bP (l.mapIdx λ k x=>ub (l.take k) x)
def zX (t:bh):Int:=bP (t.2.mapIdx λ k s=>sD t (t.2.take k) s)
def fS (t:bh):Int:=
 if t.1.length=0 then 12 else if t.1.length > 16 then 5 else if ov t.1≠0 then ov t.1 else if t.2.length > 64 then 5 else zX t
def qO {α:Type} (q:α->Bool) (c:Int) (hc:c≠0):∀ l:List α,bP (l.map λ y=>if q y=true then c else 0)=if l.any q=true then c else 0
 |[]=>rfl
 |y::l=>by
  rw [aci,List.any_cons];unfold bP;rw [qO q c hc l];cases q y with
  |true=>simp [hc]
  |false=>simp
theorem Qr (hc:c≠0) (b:Bool):(if (if b=true then c else 0)=0 then .inr () else .inl (if b=true then c else 0):Int⊕Unit)=if b=true then .inl c else .inr ():=by
 cases b with
 |true=>rw [if_pos rfl,if_neg hc]; rfl
 |false=>rfl
section
variable (hN:dC N)
include hN
theorem Su (l:List rk) (k:Nat) (hk:k < l.length) (hl:l.length<=1000000):ao (E4 N l (k:Int)) N 0=some (if ((l.take k).any λ y=>y.1 == l[k].1)=true then .inl 9 else .inr ()):=by
 have key:=iL (rd:=E4 N l (k:Int)) ((l.take k).map λ y=>if (y.1 == l[k].1)=true then (9:Int) else 0) (λ j hj=>by
  rw [aad,abN] at hj;have hj1:j < k:=by omega
  have hj2:j < l.length:=by omega
  obtain ⟨a1,a2⟩:=Bh l hj2;obtain ⟨b1,b2⟩:=Bh l hk;simp only [E4,zB11,a1,a2,b1,b2,ai hj1,af hj2,af hk,zB17,aN (show j < 9223372036854775807 by omega),acM,List.getElem_take];cases l[j].1 == l[k].1 <;> rfl) (by
   have e:((l.take k).map λ y=>if (y.1 == l[k].1)=true then (9:Int) else 0).length=k:=by rw [aad,abN]; omega
   rw [e];simp only [E4,ay,cond_false]) N (by rw [aad,abN]; unfold dC at hN; omega)
 rw [key,qO _ 9 (by decide)];cases (l.take k).any λ y=>y.1 == l[k].1 <;> rfl
theorem Sv (l:List rk) (k:Nat) (hk:k < l.length) (hl:l[k].2.length<=1000000):ao (zJ N l (k:Int)) N 0=some (if bP (l[k].2.map ot)=0 then .inr () else .inl (bP (l[k].2.map ot))):=by
 obtain ⟨b1,b2⟩:=Bh l hk;exact iL (rd:=zJ N l (k:Int)) (l[k].2.map ot) (λ j hj=>by
  rw [aad] at hj;obtain ⟨a1,a2⟩:=WA l[k].2 hj;have ex:∀ x y:Int,(bif (allFit (fits p3) [(aI x),(aI y)]&&true) then some (map d3 [(aI x),(aI y)]) else none:Option (List Int))=some [x,y]:=λ x y=>rfl
  simp only [zJ,aad,aaK,a1,a2,b1,b2,ai hj,af hj,af hk,aaR,cond_true,aN (show j < 9223372036854775807 by omega),acM,Wz,aaJ,beq_self_eq_true,ex,OJ hN _ (show [PL l[k].2[j].1 1 10000,PL l[k].2[j].2 (-100000) 100000].length<=9223372036854775806 by simp)];show (bif ot l[k].2[j] != 0 then _ else _)=_;by_cases hz:ot l[k].2[j]=0
  .rw [hz]; rfl
  .rw [RS hz,if_neg hz]; rfl) (by
   simp only [zJ,zB11,b1,b2,af hk,aaR,zB10,ay]) N (by rw [aad]; unfold dC at hN; omega)
theorem ahM (l:List rk) (k:Nat) (hk:k < l.length) (hl:l.length<=1000000):T64 N (l,(k:Int))=some (ub (l.take k) l[k]):=by
 obtain ⟨b1,b2⟩:=Bh l hk;rw [agV];unfold ub;simp only [zB11,b1,b2,af hk,zB4,Sq hN,Su hN l k hk hl];cases hn:mV l[k].1 with
 |false=>rfl
 |true=>
  cases ha:(l.take k).any λ y=>y.1 == l[k].1 with
  |true=>rfl
  |false=>
   rw [if_neg (by decide),if_neg (by decide),if_neg (by decide)];by_cases h3:l[k].2.length < 3
   .have d:decide (((l[k].2.length:Nat):Int) < 3)=true:=by simp; omega
    rw [d,if_pos (.inl h3)]; rfl
   .have d:decide (((l[k].2.length:Nat):Int) < 3)=false:=by simp; omega
    by_cases h8:l[k].2.length > 8
    .have d':decide (((l[k].2.length:Nat):Int) > 8)=true:=by simp; omega
     rw [d,d',if_pos (.inr h8)]; rfl
    .have d':decide (((l[k].2.length:Nat):Int) > 8)=false:=by simp; omega
     rw [d,d',if_neg (by omega),Sv hN l k hk (by omega)];by_cases hz:bP (l[k].2.map ot)=0
     .rw [if_pos hz,hz]; rfl
     .rw [if_neg hz]; rfl
theorem ahN (t:bh) (b:List mi) (s:mi) (hb:b.length<=1000000):T48 N (t,b,s)=some (sD t b s):=by
 have key:=iL (rd:=zI N b s) (b.map λ y=>if I9 s y=true then (9:Int) else 0) (λ j hj=>by
  rw [aad] at hj;obtain ⟨a1,a2⟩:=Ss b hj;simp only [zI,zB11,a1,a2,ai hj,af hj,zB17,aN (show j < 9223372036854775807 by omega),acM,Ht];unfold I9;cases Av (b[j].1,b[j].2.1) (s.1,s.2.1) <;> cases Av (b[j].1,b[j].2.1) (s.2.2.1,s.2.2.2.1) <;> cases Av (b[j].2.2.1,b[j].2.2.2.1) (s.1,s.2.1) <;> cases Av (b[j].2.2.1,b[j].2.2.2.1) (s.2.2.1,s.2.2.2.1) <;> rfl) (by
   rw [aad]; simp only [zI,zB15]) N (by rw [aad]; unfold dC at hN; omega)
 rw [qO _ 9 (by decide),Qr (by decide)] at key;have key:ao (zI N b (s.1,s.2.1,s.2.2.1,s.2.2.2.1,s.2.2.2.2)) N 0=_:=key;rw [show T48 N (t,b,s)=T48 N ((t.1,t.2),b,(s.1,s.2.1,s.2.2.1,s.2.2.2.1,s.2.2.2.2)) from rfl,agT];unfold sD;simp only [zB18,aba,zB4,LJ,beq_self_eq_true,Cy,Cz,key];rw [show (t.1,t.2)=t from rfl,zV,zV];simp only [aaJ];cases h1:aU t (s.1,s.2.1) with
 |false=>rfl
 |true=>
  cases h2:aU t (s.2.2.1,s.2.2.2.1) with
  |false=>rfl
  |true=>
   simp only [adF,cond_false,aaJ,aaR,reduceCtorEq,if_false];rw [Fh N t _ h1,Fh N t _ h2];cases h3:Av (s.1,s.2.1) (s.2.2.1,s.2.2.2.1) with
   |true=>rfl
   |false=>
    cases h4:b.any (I9 s) with
    |true=>rfl
    |false=>
     unfold WB;simp only [aaJ,adU,kN.2 rfl,zB10,reduceCtorEq,if_false];cases decide ((mj t (s.1,s.2.1)).1 > wrap .i64 (2*(mj t (s.2.2.1,s.2.2.2.1)).1)) with
     |true=>rfl
     |false=>cases decide ((mj t (s.2.2.1,s.2.2.2.1)).1 > wrap .i64 (2*(mj t (s.1,s.2.1)).1)) <;> rfl
theorem ahO (t:bh) (b:List mi) (s:mi) (hb:b.length<=1000000):T89 N (t,s,b)=some (sD t b s):=by
 have key:=iL (rd:=EX N s b) (b.map λ y=>if I9 s y=true then (9:Int) else 0) (λ j hj=>by
  rw [aad] at hj;obtain ⟨a1,a2⟩:=Lm b hj;simp only [EX,zB11,a1,a2,ai hj,af hj,zB17,aN (show j < 9223372036854775807 by omega),acM,Ht];unfold I9;rw [zW (s.1,s.2.1) (b[j].1,b[j].2.1),zW (s.1,s.2.1) (b[j].2.2.1,b[j].2.2.2.1),zW (s.2.2.1,s.2.2.2.1) (b[j].1,b[j].2.1),zW (s.2.2.1,s.2.2.2.1) (b[j].2.2.1,b[j].2.2.2.1)];cases Av (b[j].1,b[j].2.1) (s.1,s.2.1) <;> cases Av (b[j].1,b[j].2.1) (s.2.2.1,s.2.2.2.1) <;> cases Av (b[j].2.2.1,b[j].2.2.2.1) (s.1,s.2.1) <;> cases Av (b[j].2.2.1,b[j].2.2.2.1) (s.2.2.1,s.2.2.2.1) <;> rfl) (by
   rw [aad]; simp only [EX,zB15]) N (by rw [aad]; unfold dC at hN; omega)
 rw [qO _ 9 (by decide),Qr (by decide)] at key;have key:ao (EX N (s.1,s.2.1,s.2.2.1,s.2.2.2.1,s.2.2.2.2) b) N 0=_:=key;have ex:∀ x y:Int,(bif (allFit (fits Hh) [(aI x),(aI y)]) then some (map d29 [(aI x),(aI y)]) else none:Option (List Int))=some [x,y]:=λ x y=>rfl
 rw [show T89 N (t,s,b)=T89 N ((t.1,t.2),(s.1,s.2.1,s.2.2.1,s.2.2.2.1,s.2.2.2.2),b) from rfl,af5];unfold sD;simp only [zB6,zB4,LJ,mw,my,key,fh,ex];rw [show (t.1,t.2)=t from rfl,oK,oK];simp only [aaJ];cases h1:aU t (s.1,s.2.1) with
 |false=>rfl
 |true=>
  cases h2:aU t (s.2.2.1,s.2.2.2.1) with
  |false=>rfl
  |true=>
   simp only [adF,cond_false,aaJ,aaR,reduceCtorEq,if_false];rw [sC N t _ h1,sC N t _ h2];cases h4:b.any (I9 s) with
   |true=>
    cases h3:Av (s.1,s.2.1) (s.2.2.1,s.2.2.2.1) <;> rfl
   |false=>
    unfold WB;simp only [aaJ,adU,kN.2 rfl,zB10,reduceCtorEq,if_false,jt hN [_,_] (show 2<=9223372036854775806 by omega)];cases Av (s.1,s.2.1) (s.2.2.1,s.2.2.2.1) <;> cases decide ((mj t (s.1,s.2.1)).1 > wrap .i64 (2*(mj t (s.2.2.1,s.2.2.2.1)).1)) <;> cases decide ((mj t (s.2.2.1,s.2.2.2.1)).1 > wrap .i64 (2*(mj t (s.1,s.2.1)).1)) <;> rfl
end
def LL {V X:Type} {rd:V->Option (V⊕X)} (l:List Int) (E:Nat->V) (ex:Int->X) (fin:X)
  (h:∀ k (hk:k < l.length),rd (E k)=some (if l[k]=0 then .inl (E (k+1)) else .inr (ex l[k]))) (h0:rd (E l.length)=some (.inr fin)) (n:Nat) (hn:l.length < n) :
  ao rd n (E 0)=some (if bP l=0 then fin else ex (bP l)):=by
 have key:=kT (rd:=rd) (S:=Unit) (Y:=Int) l (λ _ k=>E k) (λ _ x=>if x=0 then .inl () else .inr x) (λ _=>fin) ex (λ _ _=>True)
  (λ s k hk _=>⟨by rw [h k hk]; by_cases e:l[k]=0 <;> simp [e],λ _ _=>trivial⟩) (λ _ _=>h0) n () 0 (acf _) (by omega) trivial
 rw [adn] at key;refine key.trans (congrArg some ?_);clear key h h0 hn
 induction l with
 |nil=>rfl
 |cons x l ih=>
  simp only [foldI,bP];by_cases e:x=0
  .simp only [e,if_true,adj]; exact ih
  .simp [e]
def Hu {α:Type} (q:α->Bool):∀ (l:List α) (s:Nat),(l.any q=true/\∃ i:Nat,foldI (λ (s:Nat) x=>if q x=true then .inr s else .inl (s+1)) s l=(.inr i:Nat⊕Nat))\/(l.any q=false/\∃ i:Nat,foldI (λ (s:Nat) x=>if q x=true then .inr s else .inl (s+1)) s l=(.inl i:Nat⊕Nat))
 |[],s=>.inr ⟨rfl,s,rfl⟩
 |x::l,s=>by
  rw [List.any_cons];unfold foldI;cases h:q x with
  |true=>exact .inl ⟨rfl,s,rfl⟩
  |false=>
   simp only [Bool.false_or,reduceCtorEq,if_false,adj];exact Hu q l (s+1)
section
variable (hN:dC N)
include hN
theorem WC (t:bh):T14 N t=some (fS t):=by
 rw [agX];unfold fS;simp only [aad];by_cases h0:t.1.length=0
 .rw [show (((t.1.length:Nat):Int) == 0)=true by simp [h0],if_pos h0]; rfl
 .rw [show (((t.1.length:Nat):Int) == 0)=false by simp; exact λ h=>h0 (by rw [h]; rfl),if_neg h0];by_cases h1:t.1.length > 16
  .have d:decide (((t.1.length:Nat):Int) > 16)=true:=by simp; omega
   rw [d,if_pos h1]; rfl
  .have d:decide (((t.1.length:Nat):Int) > 16)=false:=by simp; omega
   rw [d,if_neg h1];have k1:=iL (rd:=zK N t) (t.1.mapIdx λ k x=>ub (t.1.take k) x) (λ j hj=>by
    rw [List.length_mapIdx] at hj;simp only [zK,aad,nK,nL,aba,cond_true,aaJ,ai hj,ahM hN t.1 j hj (by omega),aN (show j < 9223372036854775807 by omega),List.getElem_mapIdx];by_cases hz:ub (t.1.take j) t.1[j]=0
    .rw [hz]; rfl
    .rw [RS hz,if_neg hz]; rfl) (by
     rw [List.length_mapIdx]; simp only [zK,zB15]) N (by rw [List.length_mapIdx]; unfold dC at hN; omega)
   have k1:ao (zK N t) N 0=some (if ov t.1=0 then .inr () else .inl (ov t.1)):=k1;rw [k1];by_cases h2:ov t.1=0
   .rw [if_pos h2,if_neg (show ¬ ov t.1≠0 from λ h=>h h2)];simp only [cond_false,aaJ,adU];by_cases h3:t.2.length > 64
    .have d:decide (((t.2.length:Nat):Int) > 64)=true:=by simp; omega
     rw [d,if_pos h3]; rfl
    .have d:decide (((t.2.length:Nat):Int) > 64)=false:=by simp; omega
     rw [d,if_neg h3];have k2:=iL (rd:=zM N t) (t.2.mapIdx λ k s=>sD t (t.2.take k) s) (λ j hj=>by
      rw [List.length_mapIdx] at hj;obtain ⟨a1,a2⟩:=Ss t.2 hj;have q:T48 N ((t.1,t.2),t.2.take j,(t.2[j].1,t.2[j].2.1,t.2[j].2.2.1,t.2[j].2.2.2.1,t.2[j].2.2.2.2))=some (sD t (t.2.take j) t.2[j]):=ahN hN t (t.2.take j) t.2[j] (by rw [abN]; omega);simp only [zM,zB11,zT,a1,a2,zB18,aba,zB4,ai hj,af hj,zU (adk hj),q,aN (show j < 9223372036854775807 by omega),List.getElem_mapIdx];by_cases hz:sD t (t.2.take j) t.2[j]=0
      .rw [hz]; rfl
      .rw [RS hz,if_neg hz]; rfl) (by
       rw [List.length_mapIdx]; simp only [zM,zB15]) N (by rw [List.length_mapIdx]; unfold dC at hN; omega)
     have k2:ao (zM N t) N 0=some (if zX t=0 then .inr () else .inl (zX t)):=k2;rw [k2];by_cases h4:zX t=0
     .rw [if_pos h4,h4]; rfl
     .rw [if_neg h4]; rfl
   .rw [if_neg h2,if_pos h2]; rfl
theorem Sw (l:List rk) (k:Nat) (hk:k < l.length) (hl:l.length<=1000000) (nm:List UInt8) (sd:List (Int×Int)) :
  ∃ o,ao (pR N l (k:Int)) N (0,nm,sd)=some o/\((((l.take k).any λ y=>y.1 == nm)=true/\∃ i:Nat,o=.inl ((i:Int),nm,sd))\/(((l.take k).any λ y=>y.1 == nm)=false/\o=.inr (nm,sd))):=by
 have ht:(l.take k).length=k:=by rw [abN]; omega
 have key:=kT (rd:=pR N l (k:Int)) (S:=Nat) (Y:=Nat) (l.take k) (λ _ j=>((j:Int),nm,sd)) (λ s x=>if (x.1 == nm)=true then .inr s else .inl (s+1)) (λ _=>.inr (nm,sd)) (λ i=>.inl ((i:Int),nm,sd)) (λ s j=>s=j)
  (λ s j hj hs=>by
   subst hs;refine ⟨?_,λ s' AX=>by split at AX <;> simp_all⟩;obtain ⟨a1,a2⟩:=kE (l.take k) hj;rw [ht] at hj;simp only [pR,zB11,zT,a1,a2,ht,ai hj,af hj,zB4,aba,EP,EQ,aN (show s < 9223372036854775807 by omega),IT,xQ];cases (l.take k)[s].1 == nm <;> rfl)
  (λ s hs=>by
   rw [ht];simp only [pR,zB11,zT,ht,ay,zB10,aba,EP,EQ,aaJ,IT,xQ]) N 0 0 (acf _) (by rw [ht]; unfold dC at hN; omega) rfl
 refine ⟨_,key,?_⟩;rw [adn];rcases Hu (λ y:rk=>y.1 == nm) (l.take k) 0 with ⟨h,i,e⟩|⟨h,i,e⟩
 .exact .inl ⟨h,i,by rw [e]; rfl⟩
 .exact .inr ⟨h,by rw [e]; rfl⟩
theorem Sx (y:Int) (nm:List UInt8) (sd:List (Int×Int)) (hl:sd.length<=1000000):ao (rZ N (y,nm,sd)) N (0,nm,sd)=some (if bP (sd.map ot)=0 then .inr (nm,sd) else .inl (bP (sd.map ot),nm,sd)):=by
 exact LL (rd:=rZ N (y,nm,sd)) (sd.map ot) (λ j=>((j:Int),nm,sd)) (λ e=>.inl (e,nm,sd)) (.inr (nm,sd)) (λ j hj=>by
  rw [aad] at hj;obtain ⟨a1,a2⟩:=ado sd hj;have ex:∀ x y:Int,(bif (allFit (fits Hh) [(aI x),(aI y)]) then some (map d29 [(aI x),(aI y)]) else none:Option (List Int))=some [x,y]:=λ x y=>rfl
  simp only [rZ,aad,aaK,a1,a2,ai hj,af hj,aaR,aba,cond_true,EP,EQ,aN (show j < 9223372036854775807 by omega),acM,aa3,aaJ,beq_self_eq_true,ex,jt hN _ (show [PL sd[j].1 1 10000,PL sd[j].2 (-100000) 100000].length<=9223372036854775806 by simp),IT,xQ];show (bif ot sd[j] != 0 then _ else _)=_;by_cases hz:ot sd[j]=0
  .rw [hz]; rfl
  .rw [RS hz,if_neg hz]; rfl) (by
   simp only [rZ,aad,ay,zB10,EP,EQ,aba,aaJ,IT,xQ]) N (by rw [aad]; unfold dC at hN; omega)
theorem aa4 (l:List rk) (hl:l.length<=1000000):T98 N l=some (ov l):=by
 rw [af2];have key:=iL (rd:=IV N l) (l.mapIdx λ k x=>ub (l.take k) x) (λ k hk=>by
  rw [List.length_mapIdx] at hk;obtain ⟨a1,a2⟩:=kE l hk;obtain ⟨o,ho,hc⟩:=Sw hN l k hk hl l[k].1 l[k].2;have ex:∀ x y z:Int,(bif (allFit (fits Hh) [(aI x),(aI y),(aI z)]) then some (map d29 [(aI x),(aI y),(aI z)]) else none:Option (List Int))=some [x,y,z]:=λ x y z=>rfl
  have hm:∃ c:Int,(decide (c>=0))=((l.take k).any λ y=>y.1 == l[k].1)/\∀ (F:(Int×List UInt8×List (Int×Int))->Option (Int⊕(Int⊕Unit))),((ab6 (λ Gl=>(some (Gl.1,Gl.2.1,Gl.2.2):Option (Int×List UInt8×List (Int×Int)))) (λ Cs=>some ((-1:Int),Cs.1,Cs.2)) o).bind F)=F (c,l[k].1,l[k].2):=by
   rcases hc with ⟨h,i,rfl⟩|⟨h,rfl⟩
   .exact ⟨(i:Int),by rw [h]; simp,λ F=>rfl⟩
   .exact ⟨-1,by rw [h]; simp,λ F=>rfl⟩
  obtain ⟨c,JC,Nq⟩:=hm;simp only [IV,zB11,a1,a2,ai hk,af hk,zU (adk hk),zB4,aba,EP,EQ,ho,Nq,Sr hN,VD,beq_self_eq_true,fh,JC,ex,aN (show k < 9223372036854775807 by omega),List.getElem_mapIdx,xQ,IU];have e1:∀ z:Int,IQ N [if (!mV l[k].1)=true then 8 else 0,if ((l.take k).any λ y=>y.1 == l[k].1)=true then 9 else 0,z]=some (if mV l[k].1=false then 8 else if ((l.take k).any λ y=>y.1 == l[k].1)=true then 9 else z):=λ z=>by
   rw [jt hN [_,_,_] (show 3<=9223372036854775806 by omega)];cases mV l[k].1 <;> cases (l.take k).any λ y=>y.1 == l[k].1
   .rfl
   .rfl
   .show some (bP [0,0,z])=some z;unfold bP bP bP bP;by_cases hz:z=0
    .rw [hz]; rfl
    .simp [hz]
   .rfl
  simp only [e1,aaJ,if_true];unfold ub;have e2:∀ F:(Int×List UInt8×List (Int×Int))->Option (Int⊕(Int⊕Unit)),((bif decide (((l[k].2.length:Nat):Int) < 3) then (some ((if mV l[k].1=false then 8 else if ((l.take k).any λ y=>y.1 == l[k].1)=true then 9 else 2),l[k].1,l[k].2)) else some ((if mV l[k].1=false then 8 else if ((l.take k).any λ y=>y.1 == l[k].1)=true then 9 else if decide (((l[k].2.length:Nat):Int) > 8)=true then 2 else 0),l[k].1,l[k].2):Option (Int×List UInt8×List (Int×Int))).bind F)=F ((if mV l[k].1=false then 8 else if ((l.take k).any λ y=>y.1 == l[k].1)=true then 9 else if l[k].2.length < 3\/l[k].2.length > 8 then 2 else 0),l[k].1,l[k].2):=λ F=>by
   by_cases h3:l[k].2.length < 3
   .have d:decide (((l[k].2.length:Nat):Int) < 3)=true:=by simp; omega
    rw [d,if_pos (show l[k].2.length < 3\/l[k].2.length > 8 from .inl h3)]; rfl
   .have d:decide (((l[k].2.length:Nat):Int) < 3)=false:=by simp; omega
    rw [d];by_cases h8:l[k].2.length > 8
    .have d':decide (((l[k].2.length:Nat):Int) > 8)=true:=by simp; omega
     rw [d',if_pos (show l[k].2.length < 3\/l[k].2.length > 8 from .inr h8)]; rfl
    .have d':decide (((l[k].2.length:Nat):Int) > 8)=false:=by simp; omega
     rw [d',if_neg (show ¬ (l[k].2.length < 3\/l[k].2.length > 8) by omega)]; rfl
  rw [e2];cases mV l[k].1 with
  |false=>rfl
  |true=>
   cases (l.take k).any λ y=>y.1 == l[k].1 with
   |true=>rfl
   |false=>
    simp only [reduceCtorEq,if_false];by_cases h3:l[k].2.length < 3\/l[k].2.length > 8
    .rw [if_pos h3,if_pos h3]; rfl
    .rw [if_neg h3,if_neg h3,Sx hN 0 l[k].1 l[k].2 (by omega)];by_cases hz:bP (l[k].2.map ot)=0
     .rw [if_pos hz,hz]; rfl
     .rw [if_neg hz,if_neg hz]; rfl) (by
   rw [List.length_mapIdx]; simp only [IV,zB15,xQ,IU]) N (by rw [List.length_mapIdx]; unfold dC at hN; omega)
 rw [key];unfold ov;by_cases hz:bP (l.mapIdx λ k x=>ub (l.take k) x)=0
 .rw [if_pos hz,hz]; rfl
 .rw [if_neg hz]; rfl
theorem xT (t:bh):Mr N t=some (fS t):=by
 rw [show Mr N t=Mr N (t.1,t.2) from rfl,af7];unfold fS;obtain ⟨m,hm,hm1,hm2⟩:∃ m:Nat,(if (16:Int) < ((t.1.length:Nat):Int) then (16:Int) else ((t.1.length:Nat):Int))=(m:Int)/\m<=t.1.length/\(t.1.length<=16->m=t.1.length):=by
  by_cases h:t.1.length > 16
  .exact ⟨16,if_pos (by omega),by omega,by omega⟩
  .exact ⟨t.1.length,if_neg (by omega),ady _,λ _=>rfl⟩
 have hm3:m<=16:=by
  by_cases h:t.1.length > 16
  .rw [if_pos (by omega)] at hm; omega
  .omega
 have ht:(t.1.take m).length<=1000000:=by rw [abN]; omega
 have ex:∀ x y z u:Int,(bif (allFit (fits Hh) [(aI x),(aI y),(aI z),(aI u)]) then some (map d29 [(aI x),(aI y),(aI z),(aI u)]) else none:Option (List Int))=some [x,y,z,u]:=λ x y z u=>rfl
 simp only [zB11,hm,zU hm1,zT,fh,beq_self_eq_true,mw,my,aba,zB4,a7,a8,aa4 hN _ ht,ex,jt hN [_,_,_,_] (show 4<=9223372036854775806 by omega)];by_cases h0:t.1.length=0
 .rw [show (((t.1.length:Nat):Int) == 0)=true by simp [h0],if_pos h0]; rfl
 .rw [show (((t.1.length:Nat):Int) == 0)=false by simp; exact λ h=>h0 (by rw [h]; rfl),if_neg h0];by_cases h1:t.1.length > 16
  .have d:decide (((t.1.length:Nat):Int) > 16)=true:=by simp; omega
   rw [d,if_pos h1]; rfl
  .have d:decide (((t.1.length:Nat):Int) > 16)=false:=by simp; omega
   rw [d,if_neg h1,hm2 (by omega),adi];by_cases h2:ov t.1=0
   .rw [h2,if_neg (show ¬ ((0:Int)≠0) by decide)];by_cases h3:t.2.length > 64
    .have d:decide (((t.2.length:Nat):Int) > 64)=true:=by simp; omega
     rw [d,if_pos h3]; rfl
    .have d:decide (((t.2.length:Nat):Int) > 64)=false:=by simp; omega
     rw [d,if_neg h3];have k2:=iL (rd:=EY N t) (t.2.mapIdx λ k s=>sD t (t.2.take k) s) (λ j hj=>by
      rw [List.length_mapIdx] at hj;obtain ⟨a1,a2⟩:=Lm t.2 hj;have q:T89 N ((t.1,t.2),(t.2[j].1,t.2[j].2.1,t.2[j].2.2.1,t.2[j].2.2.2.1,t.2[j].2.2.2.2),t.2.take j)=some (sD t (t.2.take j) t.2[j]):=ahO hN t (t.2.take j) t.2[j] (by rw [abN]; omega);simp only [EY,zB11,zT,a1,a2,zB8,aba,zB4,ai hj,af hj,zU (adk hj),q,aN (show j < 9223372036854775807 by omega),List.getElem_mapIdx];by_cases hz:sD t (t.2.take j) t.2[j]=0
      .rw [hz]; rfl
      .rw [RS hz,if_neg hz]; rfl) (by
       rw [List.length_mapIdx]; simp only [EY,zB15]) N (by rw [List.length_mapIdx]; unfold dC at hN; omega)
     have k2:ao (EY N (t.1,t.2)) N 0=some (if zX t=0 then .inr () else .inl (zX t)):=k2;rw [k2];by_cases h4:zX t=0
     .rw [if_pos h4,h4]; rfl
     .rw [if_neg h4]; rfl
   .rw [if_pos (show ov t.1≠0 from h2)];have ef:∀ z:Int,bP [if false=true then 12 else 0,if false=true then 5 else 0,ov t.1,z]=ov t.1:=λ z=>by
     show bP [0,0,ov t.1,z]=_;simp [bP,h2]
    rw [ef,RS h2]; rfl
omit hN in
theorem Fi (h:fS t=0):t.1.length≠0/\t.1.length<=16/\ov t.1=0/\t.2.length<=64/\zX t=0:=by
 unfold fS at h;split at h
 .cases h
 .split at h
  .cases h
  .split at h
   .contradiction
   .split at h
    .cases h
    .refine ⟨by assumption,by omega,by omega,by omega,h⟩
end
def OK {V X α:Type} {rd:V->Option (V⊕X)} (l:List α) (q:α->Bool) (E:Nat->V) (ex:Nat->X) (fin:X)
  (h:∀ k (hk:k < l.length),rd (E k)=some (if q l[k]=true then .inr (ex k) else .inl (E (k+1)))) (h0:rd (E l.length)=some (.inr fin)) (n:Nat) (hn:l.length < n) :
  ao rd n (E 0)=some (match l.findIdx? q with | some i=>ex i | none=>fin):=by
 cases hf:l.findIdx? q with
 |none=>
  rw [List.findIdx?_eq_none_iff] at hf;exact aL (rd:=rd) l.length E fin (λ k hk=>by rw [h k hk,hf _ (acN hk)]; rfl) h0 n 0 (acf _) (by omega)
 |some i=>
  rw [List.findIdx?_eq_some_iff_getElem] at hf;obtain ⟨hi,h1,h2⟩:=hf;exact aL (rd:=rd) i E (ex i) (λ k hk=>by
   rw [h k (by omega),if_neg (h2 k hk)]) (by rw [h i hi,if_pos h1]) n 0 (acf _) (by omega)
def WD (e:Int×Int) (s:mi):Bool:=Av (s.1,s.2.1) e || Av (s.2.2.1,s.2.2.2.1) e
def mtI (t:bh) (e:Int×Int):Option Nat:=t.2.findIdx? (WD e)
def WE (s:mi) (e:Int×Int):Int×Int:=if Av (s.1,s.2.1) e=true then (s.2.2.1,s.2.2.2.1) else (s.1,s.2.1)
def jm (t:bh) (i:Nat):mi:=t.2.getD i (0,0,0,0,false)
def jF (t:bh):List (Int×Int):=(bM t).filter λ e=>(mtI t e).isNone
def sE (t:bh) (hi:i < t.2.length):jm t i=t.2[i]:=by
 unfold jm; rw [ab3,ab1 hi]; rfl
def WG (h:mtI t e=some i):∃ hi:i < t.2.length,WD e t.2[i]=true:=by
 unfold mtI at h;rw [List.findIdx?_eq_some_iff_getElem] at h;obtain ⟨hi,h1,_⟩:=h;exact ⟨hi,h1⟩
section
variable (hN:dC N)
include hN
omit hN in
theorem iE (p k:Nat):(eP p k).length=k:=by simp [eP]
omit hN in
theorem aa6 (l:List (Int×Int)) (a b:Int):map n132 l++[AV.agg [aI a,aI b]]=map n132 (l++[(a,b)]):=by rw [adl]; rfl
omit hN in
theorem aa7 (l:List rk) (x:List UInt8) (s:List (Int×Int)):map n131 l++[AV.agg [AV.str x,AV.list .bV 2 (map n132 s)]]=map n131 (l++[(x,s)]):=by rw [adl]; rfl
omit hN in
theorem aa8 (l:List mi) (a b c d:Int) (w:Bool):map n110 l++[AV.agg [aI a,aI b,aI c,aI d,AV.bool w]]=map n110 (l++[(a,b,c,d,w)]):=by rw [adl]; rfl
omit hN in
theorem ahP:allFit (fits EO) ([]:List AV)=true/\map d132 ([]:List AV)=[]/\(map n132 ([]:List (Int×Int))).length=0:=⟨rfl,rfl,rfl⟩
omit hN in
theorem ahQ:allFit (fits fY) ([]:List AV)=true/\map d131 ([]:List AV)=[]/\(map n131 ([]:List rk)).length=0:=⟨rfl,rfl,rfl⟩
omit hN in
theorem ahR:allFit (fits ir) ([]:List AV)=true/\map d110 ([]:List AV)=[]/\(map n110 ([]:List mi)).length=0:=⟨rfl,rfl,rfl⟩
theorem WH (t:bh) (p:Nat) (hp:p < t.1.length) (hs:t.1[p].2.length<=1000) (acc:List rk) (nm:List UInt8) :
  ao (r9 N t ((p:Int),acc,())) N (0,nm,[])=some (nm,t.1[p].2):=by
 obtain ⟨a1,a2⟩:=Bh t.1 hp;have key:=aL (rd:=r9 N t ((p:Int),acc,())) t.1[p].2.length (λ k=>((k:Int),nm,t.1[p].2.take k)) (nm,t.1[p].2) (λ k hk=>by
  obtain ⟨b1,b2⟩:=WA t.1[p].2 hk;have ht:(t.1[p].2.take k).length=k:=by rw [abN]; omega
  have tU:(t.1[p].2.take (k+1)).length=k+1:=by rw [abN]; omega
  have d2:decide ((k+1)*16<=140737488355328)=true:=decide_eq_true (by omega);have es:t.1[p].2.take k++[(t.1[p].2[k].1,t.1[p].2[k].2)]=t.1[p].2.take (k+1):=by rw [adO,ab1 hk]; rfl
  simp only [r9,zB7,aaK,a1,b1,b2,ai hk,af hk,ht,tU,d2,aa6,es,EP,EQ,aN (show k < 9223372036854775807 by omega),zB4,zB16,IT,IU]) (by
  simp only [r9,zB7,aaK,a1,ay,adi,EP,EQ,zB0,zB16,IT,IU]) N 0 (acf _) (by unfold dC at hN; omega)
 exact key
theorem WI (t:bh) (h:t.1.length<=1000) (hs:∀ x∈t.1,x.2.length<=1000):ao (E5 N t) N (0,[],())=some (t.1,()):=by
 have key:=aL (rd:=E5 N t) t.1.length (λ k=>((k:Int),t.1.take k,())) (t.1,()) (λ k hk=>by
  obtain ⟨a1,a2⟩:=Bh t.1 hk;have ht:(t.1.take k).length=k:=by rw [abN]; omega
  have tU:(t.1.take (k+1)).length=k+1:=by rw [abN]; omega
  have d2:decide ((k+1)*40<=140737488355328)=true:=decide_eq_true (by omega);have es:t.1.take k++[(t.1[k].1,t.1[k].2)]=t.1.take (k+1):=by rw [adO,ab1 hk]; rfl
  have q:=WH hN t k hk (hs _ (acN hk)) (t.1.take k) t.1[k].1;simp only [E5,zB7,aaK,a1,a2,ai hk,af hk,ht,tU,d2,q,aa7,es,a7,a8,ahP,aN (show k < 9223372036854775807 by omega),zB4,zB16,List.length_nil,IU]) (by
  simp only [E5,zB7,ay,adi,a7,a8,zB0,zB16,IU]) N 0 (acf _) (by unfold dC at hN; omega)
 exact key
theorem Sy (t:bh) (h:t.2.length<=1000000) (l:List rk):ao (zN N t) N (0,l,[])=some (l,t.2):=by
 have key:=aL (rd:=zN N t) t.2.length (λ k=>((k:Int),l,t.2.take k)) (l,t.2) (λ k hk=>by
  obtain ⟨a1,a2⟩:=Ss t.2 hk;have ht:(t.2.take k).length=k:=by rw [abN]; omega
  have tU:(t.2.take (k+1)).length=k+1:=by rw [abN]; omega
  have d2:decide ((k+1)*40<=140737488355328)=true:=decide_eq_true (by omega);have es:t.2.take k++[(t.2[k].1,t.2[k].2.1,t.2[k].2.2.1,t.2[k].2.2.2.1,t.2[k].2.2.2.2)]=t.2.take (k+1):=by rw [adO,ab1 hk]; rfl
  simp only [zN,zB7,aaK,a1,a2,ai hk,af hk,ht,tU,d2,aa8,es,zB8,aN (show k < 9223372036854775807 by omega),zB4,zB16,Oo,agZ]) (by
  simp only [zN,zB7,ay,adi,zB8,zB0,zB16,Oo,agZ]) N 0 (acf _) (by unfold dC at hN; omega)
 exact key
theorem aa9 (t:bh) (h:t.1.length<=1000) (hs:∀ x∈t.1,x.2.length<=1000) (h2:t.2.length<=1000000):XR N t=some t:=by
 rw [ag0];simp only [zB8,ahQ,ahR,zB7,List.length_nil,WI hN t h hs,Sy hN t h2,zB4,zB16]
theorem WJ (t:bh) (a:Int):∃ b,T9 N (t,a)=some b/\(b=true->t.1.length<=18/\t.2.length<=66/\∀ x∈t.1,x.2.length<=10):=by
 rw [adg];simp only [aad];have o1:∃ c:Bool,((bif (decide (((t.1.length:Nat):Int) > a)) then (bif (decide (((t.1.length:Nat):Int)<=16)) then (some true) else (bif (decide (((t.1.length:Nat):Int) > 18)) then (some true) else (bif (decide (((t.2.length:Nat):Int) > 12)) then (bif (decide (((t.2.length:Nat):Int)<=64)) then (some true) else (some (decide (((t.2.length:Nat):Int) > 66)))) else (some (decide (((t.2.length:Nat):Int) > 66)))))) else (bif (decide (((t.1.length:Nat):Int) > 18)) then (some true) else (bif (decide (((t.2.length:Nat):Int) > 12)) then (bif (decide (((t.2.length:Nat):Int)<=64)) then (some true) else (some (decide (((t.2.length:Nat):Int) > 66)))) else (some (decide (((t.2.length:Nat):Int) > 66)))))):Option Bool)=some c/\(c=false->t.1.length<=18/\t.2.length<=66):=by
  by_cases c1:((t.1.length:Nat):Int) > a <;> by_cases c2:((t.1.length:Nat):Int)<=16 <;> by_cases c3:((t.1.length:Nat):Int) > 18 <;> by_cases c4:((t.2.length:Nat):Int) > 12 <;> by_cases c5:((t.2.length:Nat):Int)<=64 <;> by_cases c6:((t.2.length:Nat):Int) > 66 <;>
   simp only [c1,c2,c3,c4,c5,c6,decide_true,decide_false,zB10] <;> exact ⟨_,rfl,λ h=>by first | (cases h; done) | omega⟩
 obtain ⟨c,hc,Nq⟩:=o1;rw [hc];simp only [aaJ];cases c with
 |true=>exact ⟨false,rfl,λ h=>by cases h⟩
 |false=>
  obtain ⟨h1,h2⟩:=Nq rfl;have key:=OK (rd:=Lw N t) t.1 (λ x=>decide (x.1.length > 60) || decide (x.2.length > 10)) (λ k=>(k:Int)) (λ _=>.inl false) (.inr ()) (λ k hk=>by
   obtain ⟨a1,a2⟩:=Bh t.1 hk;simp only [Lw,zB11,a1,a2,ai hk,af hk,zB17,aN (show k < 9223372036854775807 by omega)];by_cases c1:t.1[k].1.length > 60
   .have d:decide (((t.1[k].1.length:Nat):Int) > 60)=true:=by simp; omega
    rw [d,decide_eq_true c1]; rfl
   .have d:decide (((t.1[k].1.length:Nat):Int) > 60)=false:=by simp; omega
    rw [d,decide_eq_false c1];by_cases c2:t.1[k].2.length > 10
    .have d:decide (((t.1[k].2.length:Nat):Int) > 10)=true:=by simp; omega
     rw [d,decide_eq_true c2]; rfl
    .have d:decide (((t.1[k].2.length:Nat):Int) > 10)=false:=by simp; omega
     rw [d,decide_eq_false c2]; rfl) (by
   simp only [Lw,zB15]) N (by unfold dC at hN; omega)
  have key:ao (Lw N t) N 0=_:=key;rw [key,cond_false];cases hf:t.1.findIdx? (λ x=>decide (x.1.length > 60) || decide (x.2.length > 10)) with
  |some i=>exact ⟨false,rfl,λ h=>by cases h⟩
  |none=>
   rw [List.findIdx?_eq_none_iff] at hf;refine ⟨true,rfl,λ _=>⟨h1,h2,λ x hx=>?_⟩⟩;have:=hf x hx;simp only [Bool.or_eq_false_iff,decide_eq_false_iff_not] at this;omega
end
def sA (s:mi):Int×Int:=(s.1,s.2.1)
def sB (s:mi):Int×Int:=(s.2.2.1,s.2.2.2.1)
def ltE (a b:Int×Int):Prop:=a.1 < b.1\/(a.1=b.1/\a.2 < b.2)
def cF :aU t e=true↔0<=e.1/\e.1 < (t.1.length:Int)/\0<=e.2/\e.2 < (kr t e.1:Int):=by
 unfold aU;simp only [acu,decide_eq_true_eq]
def Bj:∀ (l:List rk) (p:Nat) (e:Int×Int),e∈eH l p↔∃ k i:Nat,e=(((p+k:Nat):Int),(i:Int))/\∃ hk:k < l.length,i < l[k].2.length
 |[],p,e=>by
  constructor
  .intro h; cases h
  .rintro ⟨k,i,_,hk,_⟩; exact absurd hk (ad6 _)
 |x::l,p,e=>by
  unfold eH eP;rw [acd,abC,Bj l (p+1) e];constructor
  .rintro (⟨i,hi,rfl⟩|⟨k,i,rfl,hk,hi⟩)
   .exact ⟨0,i,rfl,Nat.succ_pos _,aca.1 hi⟩
   .exact ⟨k+1,i,by rw [show p+1+k=p+(k+1) by omega],Nat.succ_lt_succ hk,hi⟩
  .rintro ⟨k,i,rfl,hk,hi⟩;cases k with
   |zero=>exact .inl ⟨i,aca.2 hi,rfl⟩
   |succ k=>exact .inr ⟨k,i,by rw [show p+1+k=p+(k+1) by omega],Nat.lt_of_succ_lt_succ hk,hi⟩
def al4 (t:bh) (hk:k < t.1.length):kr t (k:Int)=t.1[k].2.length:=by
 unfold kr;rw [aaK,ab3,ab1 hk]; rfl
def cZ :e∈bM t↔aU t e=true:=by
 unfold bM;rw [Bj,cF];constructor
 .rintro ⟨k,i,rfl,hk,hi⟩;rw [aeH];refine ⟨by omega,by omega,by omega,?_⟩;rw [al4 t hk]; omega
 .rintro ⟨h1,h2,h3,h4⟩;have hk:e.1.toNat < t.1.length:=by omega
  have e1:((e.1.toNat:Nat):Int)=e.1:=by omega
  rw [<- e1,al4 t hk] at h4;exact ⟨e.1.toNat,e.2.toNat,aek (by rw [aeH]; exact e1.symm) (by omega),hk,by omega⟩
def Hv:∀ (l:List rk) (p:Nat),(eH l p).Pairwise ltE
 |[],_=>aeT
 |x::l,p=>by
  unfold eH;rw [acO];refine ⟨?_,Hv l (p+1),?_⟩
  .unfold eP;rw [acJ];refine afy (R:=(· < ·)) ?_ List.pairwise_lt_range;intro a b h;exact .inr ⟨rfl,by show (a:Int) < b; omega⟩
  .intro a ha b hb;unfold eP at ha;obtain ⟨i,_,rfl⟩:=abC.1 ha;obtain ⟨k,j,rfl,_⟩:=(Bj l (p+1) b).1 hb;exact .inl (by show (p:Int) < ((p+1+k:Nat):Int); omega)
def Sz (t:bh):(bM t).Pairwise ltE:=Hv _ _
def ahT (h:ltE a b):a≠b:=by
 intro e;subst e;rcases h with h|⟨_,h⟩ <;> omega
def Fj (t:bh):(bM t).Nodup:=(Sz t).imp λ h=>ahT h
structure Gd (t:bh):Prop where
 IY:∀ p:Int,0<=p->p < (t.1.length:Int)->3<=kr t p/\kr t p<=8
 Aw:∀ s∈t.2,aU t (sA s)=true/\aU t (sB s)=true/\sA s≠sB s
 dis:t.2.Pairwise λ s x=>sA s≠sA x/\sA s≠sB x/\sB s≠sA x/\sB s≠sB x
def gq (t:bh) (e:Int×Int):Option ((Int×Int)×Bool):=(mtI t e).map λ i=>(WE (jm t i) e,(jm t i).2.2.2.2)
def Fk {s:mi}:WD e s=true↔sA s=e\/sB s=e:=by
 unfold WD;rw [Bool.or_eq_true,kN,kN]; rfl
def al5 {α:Type} {R:α->α->Prop} {l:List α} (h:l.Pairwise R) (hij:i < j) (hj:j < l.length):R (l[i]'(by omega)) l[j]:=by
 rw [List.pairwise_iff_getElem] at h;exact h i j _ _ hij
def gM (g:Gd t) {e o:Int×Int} {w:Bool}:gq t e=some (o,w)↔∃ s∈t.2,s.2.2.2.2=w/\((sA s=e/\sB s=o)\/(sB s=e/\sA s=o)):=by
 unfold gq;constructor
 .intro h;cases hm:mtI t e with
  |none=>rw [hm] at h; cases h
  |some i=>
   rw [hm] at h;obtain ⟨hi,hh⟩:=WG hm;have h:(WE (jm t i) e,(jm t i).2.2.2.2)=(o,w):=acg h;rw [sE t hi] at h;injection h with h1 h2;refine ⟨t.2[i],acN hi,h2,?_⟩;unfold WE at h1;rw [Fk] at hh;by_cases c:Av ((t.2[i]).1,(t.2[i]).2.1) e=true
   .rw [if_pos c] at h1;exact .inl ⟨kN.1 c,h1⟩
   .rw [if_neg c] at h1;exact .inr ⟨hh.resolve_left λ d=>c (kN.2 d),h1⟩
 .rintro ⟨s,hs,hw,hh⟩;obtain ⟨j,hj,rfl⟩:=aes hs;have hit:WD e t.2[j]=true:=Fk.2 (hh.imp And.left And.left);cases hm:mtI t e with
  |none=>
   unfold mtI at hm;rw [List.findIdx?_eq_none_iff] at hm;rw [hm _ hs] at hit; cases hit
  |some i=>
   have hm2:=hm;unfold mtI at hm2;rw [List.findIdx?_eq_some_iff_getElem] at hm2;obtain ⟨hi,h1,h2⟩:=hm2;rw [Fk] at h1;have:i=j:=by
    rcases Nat.lt_trichotomy i j with c|c|c
    .have d:=al5 g.dis c hj;rcases h1 with h1|h1 <;> rcases hh with ⟨h3,_⟩|⟨h3,_⟩
     .exact absurd (h1.trans h3.symm) d.1
     .exact absurd (h1.trans h3.symm) d.2.1
     .exact absurd (h1.trans h3.symm) d.2.2.1
     .exact absurd (h1.trans h3.symm) d.2.2.2
    .exact c
    .exact absurd hit (h2 j c)
   subst this;show some (WE (jm t i) e,(jm t i).2.2.2.2)=_;rw [sE t hi,hw];unfold WE;rcases hh with ⟨h3,h4⟩|⟨h3,h4⟩
   .have c:Av ((t.2[i]).1,(t.2[i]).2.1) e=true:=kN.2 h3;rw [if_pos c];exact congrArg (λ z=>some (z,w)) h4
   .have c:¬ Av ((t.2[i]).1,(t.2[i]).2.1) e=true:=λ c=>(g.Aw _ hs).2.2 ((kN.1 c).trans h3.symm)
    rw [if_neg c];exact congrArg (λ z=>some (z,w)) h4
def Bk (g:Gd t) (h:gq t e=some (o,w)):gq t o=some (e,w):=by
 rw [gM g] at h ⊢;obtain ⟨s,hs,hw,hh⟩:=h;exact ⟨s,hs,hw,hh.symm.imp And.symm And.symm⟩
def WK (g:Gd t) :gq t e≠some (e,w):=by
 intro h;rw [gM g] at h;obtain ⟨s,hs,_,⟨h1,h2⟩|⟨h1,h2⟩⟩:=h
 .exact (g.Aw s hs).2.2 (h1.trans h2.symm)
 .exact (g.Aw s hs).2.2 (h2.trans h1.symm)
def SA (g:Gd t) (h:gq t e=some (o,w)):aU t e=true/\aU t o=true:=by
 rw [gM g] at h;obtain ⟨s,hs,_,⟨h1,h2⟩|⟨h1,h2⟩⟩:=h
 .rw [<- h1,<- h2]; exact ⟨(g.Aw s hs).1,(g.Aw s hs).2.1⟩
 .rw [<- h1,<- h2]; exact ⟨(g.Aw s hs).2.1,(g.Aw s hs).1⟩
abbrev Fl:=(Int×Int)×Bool
variable {h:Fl}
def SB (t:bh) (e:Int×Int):Int×Int:=(e.1,if e.2+1=(kr t e.1:Int) then 0 else e.2+1)
def dnE (t:bh) (e:Int×Int):Int×Int:=(e.1,if e.2=0 then (kr t e.1:Int) - 1 else e.2 - 1)
def wh (h:aU t e=true):aU t (SB t e)=true:=by
 rw [cF] at h ⊢;obtain ⟨h1,h2,h3,h4⟩:=h;refine ⟨h1,h2,?_,?_⟩ <;> unfold SB <;> dsimp only <;> split <;> omega
def abb (h:aU t e=true):aU t (dnE t e)=true:=by
 rw [cF] at h ⊢;obtain ⟨h1,h2,h3,h4⟩:=h;refine ⟨h1,h2,?_,?_⟩ <;> unfold dnE <;> dsimp only <;> split <;> omega
def al6 (h:aU t e=true):dnE t (SB t e)=e:=by
 rw [cF] at h;obtain ⟨h1,h2,h3,h4⟩:=h;refine aek rfl ?_;unfold dnE SB;dsimp only;split <;> split <;> omega
def al7 (h:aU t e=true):SB t (dnE t e)=e:=by
 rw [cF] at h;obtain ⟨h1,h2,h3,h4⟩:=h;refine aek rfl ?_;unfold dnE SB;dsimp only;split <;> split <;> omega
def uq (t:bh) (h:Fl):Fl:=if h.2=true then (dnE t h.1,false) else (SB t h.1,true)
def Ax (t:bh) (h:Fl):Option Fl:=(gq t h.1).map λ y=>(y.1,h.2 == y.2)
def C2 (h:Fl):Fl:=(h.1,!h.2)
def Fm (t:bh) (h:Fl):Fl:=match Ax t h with | some y=>y | none=>C2 h
def zY (t:bh) (q:Int->Bool):List Fl:=((bM t).filter λ e=>q e.1).flatMap λ e=>[(e,true),(e,false)]
def nj :h∈zY t q↔aU t h.1=true/\q h.1.1=true:=by
 unfold zY;rw [List.mem_flatMap];constructor
 .rintro ⟨e,he,hh⟩;rw [acV,cZ] at he;simp only [ab9,adY,or_false] at hh;rcases hh with rfl|rfl <;> exact he
 .rintro ⟨h1,h2⟩;refine ⟨h.1,acV.2 ⟨cZ.2 h1,h2⟩,?_⟩;obtain ⟨e,b⟩:=h;cases b <;> simp
def OL (he:aU t h.1=true):uq t (uq t h)=h:=by
 obtain ⟨e,b⟩:=h;cases b
 .show (dnE t (SB t e),false)=(e,false);rw [al6 he]
 .show (SB t (dnE t e),true)=(e,true);rw [al7 he]
def abc (t:bh) (h:Fl):(uq t h).2=!h.2:=by
 obtain ⟨e,b⟩:=h;cases b <;> rfl
def Qs (t:bh) (h:Fl):(uq t h).1.1=h.1.1:=by
 obtain ⟨e,b⟩:=h;cases b <;> rfl
def Qt (he:aU t h.1=true):aU t (uq t h).1=true:=by
 obtain ⟨e,b⟩:=h;cases b
 .exact wh he
 .exact abb he
def abd (g:Gd t) {y:Fl} (hm:Ax t h=some y):Ax t y=some h:=by
 unfold Ax at hm ⊢;cases hs:gq t h.1 with
 |none=>rw [hs] at hm; cases hm
 |some z=>
  obtain ⟨o,w⟩:=z;rw [hs] at hm;have hm:(o,h.2 == w)=y:=acg hm;rw [<- hm];show (gq t o).map _=_;rw [Bk g hs];obtain ⟨e,b⟩:=h;show some (e,(b == w) == w)=some (e,b);cases b <;> cases w <;> rfl
def WL (g:Gd t) {y:Fl} (hm:Ax t h=some y):y.1≠h.1:=by
 unfold Ax at hm;cases hs:gq t h.1 with
 |none=>rw [hs] at hm; cases hm
 |some z=>
  obtain ⟨o,w⟩:=z;rw [hs] at hm;have hm:(o,h.2 == w)=y:=acg hm;rw [<- hm];intro e;have e:o=h.1:=e;subst e;exact WK g hs
def abe (g:Gd t) {y:Fl} (hm:Ax t h=some y):aU t h.1=true/\aU t y.1=true:=by
 unfold Ax at hm;cases hs:gq t h.1 with
 |none=>rw [hs] at hm; cases hm
 |some z=>
  obtain ⟨o,w⟩:=z;rw [hs] at hm;have hm:(o,h.2 == w)=y:=acg hm;rw [<- hm];exact SA g hs
def WM (t:bh) (q:Int->Bool):Prop:=∀ s∈t.2,q s.1=q s.2.2.1
def al8 (g:Gd t) (hq:WM t q) {y:Fl} (hm:Ax t h=some y):q y.1.1=q h.1.1:=by
 unfold Ax at hm;cases hs:gq t h.1 with
 |none=>rw [hs] at hm; cases hm
 |some z=>
  obtain ⟨o,w⟩:=z;rw [hs] at hm;have hm:(o,h.2 == w)=y:=acg hm;rw [<- hm];rw [gM g] at hs;obtain ⟨s,hs,_,⟨h1,h2⟩|⟨h1,h2⟩⟩:=hs
  .have:=hq s hs;rw [<- h1,<- h2]; exact this.symm
  .have:=hq s hs;rw [<- h1,<- h2]; exact this
def inv2 (g:Gd t) (hq:WM t q):Inv2 (zY t q) (uq t) (Ax t) where
 sm:=λ x hx=>by
  rw [nj] at hx ⊢;exact ⟨Qt hx.1,by rw [Qs]; exact hx.2⟩
 ss:=λ x hx=>OL (nj.1 hx).1
 sn:=λ x _ e=>by
  have:=abc t x;rw [e] at this;revert this; cases x.2 <;> decide
 rm:=λ x hx y hy=>by
  rw [nj] at hx ⊢;exact ⟨(abe g hy).2,by rw [al8 g hq hy]; exact hx.2⟩
 rr:=λ x _ y hy=>abd g hy
 rn:=λ x _ hy=>WL g hy rfl
def tL (g:Gd t) :gq t e=none↔∀ s∈t.2,sA s≠e/\sB s≠e:=by
 constructor
 .intro h s hs;refine ⟨λ c=>?_,λ c=>?_⟩
  .have:=(gM g (e:=e) (o:=sB s) (w:=s.2.2.2.2)).2 ⟨s,hs,rfl,.inl ⟨c,rfl⟩⟩;rw [h] at this; cases this
  .have:=(gM g (e:=e) (o:=sA s) (w:=s.2.2.2.2)).2 ⟨s,hs,rfl,.inr ⟨c,rfl⟩⟩;rw [h] at this; cases this
 .intro h;cases hm:gq t e with
  |none=>rfl
  |some y=>
   obtain ⟨o,w⟩:=y;obtain ⟨s,hs,_,⟨c,_⟩|⟨c,_⟩⟩:=(gM g).1 hm
   .exact absurd c (h s hs).1
   .exact absurd c (h s hs).2
def Gd.low {s:mi} (g:Gd (P,S++[s])):Gd (P,S) where
 IY:=g.IY
 Aw:=λ x hx=>g.Aw x (abk _ hx)
 dis:=(acO.1 g.dis).1
def Gd.last {s:mi} (g:Gd (P,S++[s])):gq (P,S) (sA s)=none/\gq (P,S) (sB s)=none:=by
 have d:=(acO.1 g.dis).2.2;constructor
 .rw [tL g.low];intro x hx;have:=d x hx s (aa5.2 rfl);exact ⟨λ c=>this.1 c,λ c=>this.2.2.1 c⟩
 .rw [tL g.low];intro x hx;have:=d x hx s (aa5.2 rfl);exact ⟨λ c=>this.2.1 c,λ c=>this.2.2.2 c⟩
def SC {s:mi} (g:Gd (P,S++[s])):gq (P,S++[s]) (sA s)=some (sB s,s.2.2.2.2)/\gq (P,S++[s]) (sB s)=some (sA s,s.2.2.2.2):=
 ⟨(gM g).2 ⟨s,aaS _ (aa5.2 rfl),rfl,.inl ⟨rfl,rfl⟩⟩,(gM g).2 ⟨s,aaS _ (aa5.2 rfl),rfl,.inr ⟨rfl,rfl⟩⟩⟩
def SD {s:mi} (g:Gd (P,S++[s])) (ha:e≠sA s) (hb:e≠sB s):gq (P,S++[s]) e=gq (P,S) e:=by
 cases hm:gq (P,S) e with
 |none=>
  rw [tL g.low] at hm;rw [tL g];intro x hx;rcases acd.1 hx with hx|hx
  .exact hm x hx
  .rw [aa5.1 hx]; exact ⟨ha.symm,hb.symm⟩
 |some y=>
  obtain ⟨o,w⟩:=y;obtain ⟨x,hx,h⟩:=(gM g.low).1 hm;exact (gM g).2 ⟨x,abk _ hx,h⟩
def kG (hm:gq t h.1=none):Fm t h=C2 h:=by
 unfold Fm Ax; rw [hm]; rfl
def nQ (hm:gq t h.1=some (o,w)):Fm t h=(o,h.2 == w):=by
 unfold Fm Ax; rw [hm]; rfl
def ahV (g:Gd t) (h:Fl):Fm t (Fm t h)=h:=by
 cases hm:gq t h.1 with
 |none=>
  have e:=kG hm;rw [e,kG (h:=C2 h) hm];obtain ⟨x,b⟩:=h;cases b <;> rfl
 |some y=>
  obtain ⟨o,w⟩:=y;rw [nQ hm,nQ (h:=(o,h.2 == w)) (Bk g hm)];obtain ⟨x,b⟩:=h;cases b <;> cases w <;> rfl
def abf (g:Gd t) (hq:WM t q) (hh:h∈zY t q):Fm t h∈zY t q:=by
 unfold Fm;cases hm:Ax t h with
 |none=>
  rw [nj] at hh ⊢; exact hh
 |some y=>exact (inv2 g hq).rm h hh y hm
def ahW (g:Gd t) (h:Fl):Fm t h≠h:=by
 unfold Fm;cases hm:Ax t h with
 |none=>
  intro e;have:(!h.2)=h.2:=congrArg Prod.snd e;revert this; cases h.2 <;> decide
 |some y=>exact λ e=>WL g hm (congrArg ad3 e)
def gE (t:bh) (q:Int->Bool):List (Fl×Fl):=(zY t q).map (λ h=>(h,uq t h))++(zY t q).map (λ h=>(h,Fm t h))
def Ja (t:bh) (q:Int->Bool):Nat:=FN (eh (gE t q)) (zY t q)
def vo {x y:Fl}:(x,y)∈gE t q↔x∈zY t q/\(y=uq t x\/y=Fm t x):=by
 unfold gE;rw [acd,abC,abC];constructor
 .rintro (⟨h,hh,e⟩|⟨h,hh,e⟩)
  .injection e with e1 e2;subst e1; exact ⟨hh,.inl e2.symm⟩
  .injection e with e1 e2;subst e1; exact ⟨hh,.inr e2.symm⟩
 .rintro ⟨hh,e|e⟩
  .exact .inl ⟨x,hh,by rw [e]⟩
  .exact .inr ⟨x,hh,by rw [e]⟩
def SE (a b:Int×Int) (h:Fl):Bool:=h.1 != a&&h.1 != b
def SF (t:bh) (q:Int->Bool) (a b:Int×Int):List (Fl×Fl):=(zY t q).map (λ h=>(h,uq t h))++((zY t q).filter (SE a b)).map (λ h=>(h,Fm t h))
def nR :SE a b h=true↔h.1≠a/\h.1≠b:=by
 unfold SE;rw [acu,bne_iff_ne,bne_iff_ne]
def mg {x y:Fl}:(x,y)∈SF t q a b↔x∈zY t q/\(y=uq t x\/(x.1≠a/\x.1≠b/\y=Fm t x)):=by
 unfold SF;rw [acd,abC,abC];constructor
 .rintro (⟨h,hh,e⟩|⟨h,hh,e⟩)
  .injection e with e1 e2;subst e1; exact ⟨hh,.inl e2.symm⟩
  .injection e with e1 e2;subst e1;rw [acV,nR] at hh;exact ⟨hh.1,.inr ⟨hh.2.1,hh.2.2,e2.symm⟩⟩
 .rintro ⟨hh,e|⟨h1,h2,e⟩⟩
  .exact .inl ⟨x,hh,by rw [e]⟩
  .exact .inr ⟨x,acV.2 ⟨hh,nR.2 ⟨h1,h2⟩⟩,by rw [e]⟩
def ju {x:Fl} (h:x.1=a):x=(a,false)\/x=(a,true):=by
 obtain ⟨e,b⟩:=x;have h:e=a:=h;subst h;cases b
 .exact .inl rfl
 .exact .inr rfl
section
variable {s:mi} (g:Gd (P,S++[s])) (hq:WM (P,S++[s]) q)
include g
theorem nS (hs:q s.1=true) (hq:WM (P,S++[s]) q) (x:Bool):(sA s,x)∈zY (P,S) q/\(sB s,x)∈zY (P,S) q:=by
 have:=g.Aw s (aaS _ (aa5.2 rfl));have h2:=hq s (aaS _ (aa5.2 rfl));exact ⟨nj.2 ⟨this.1,hs⟩,nj.2 ⟨this.2.1,by show q s.2.2.1=true; rw [<- h2]; exact hs⟩⟩
include hq
theorem Qu (hs:q s.1=true):Ja (P,S) q=FN (eh (SF (P,S) q (sA s) (sB s)++[((sA s,false),(sA s,true)),((sB s,true == s.2.2.2.2),(sB s,false == s.2.2.2.2))])) (zY (P,S) q):=by
 obtain ⟨na,nb⟩:=g.last;have ma:=λ x=>(nS g hs hq x).1
 have mb:=λ x=>(nS g hs hq x).2
 unfold Ja;refine Fg _ ?_ ?_
 .intro x y h;rw [vo] at h;obtain ⟨hx,e|e⟩:=h
  .exact .one (abk _ (mg.2 ⟨hx,.inl e⟩))
  .by_cases ha:x.1=sA s
   .rw [kG (by rw [ha]; exact na)] at e;rcases ju ha with rfl|rfl
    .rw [e]; exact .one (aaS _ (by simp [C2]))
    .rw [e]; exact Cn.symm (.one (aaS _ (by simp [C2])))
   .by_cases hb:x.1=sB s
    .rw [kG (by rw [hb]; exact nb)] at e;rcases ju hb with rfl|rfl <;> cases s.2.2.2.2
     .rw [e]; exact .one (aaS _ (by simp [C2]))
     .rw [e]; exact Cn.symm (.one (aaS _ (by simp [C2])))
     .rw [e]; exact Cn.symm (.one (aaS _ (by simp [C2])))
     .rw [e]; exact .one (aaS _ (by simp [C2]))
    .exact .one (abk _ (mg.2 ⟨hx,.inr ⟨ha,hb,e⟩⟩))
 .intro x y h;rcases acd.1 h with h|h
  .rw [mg] at h;exact .one (vo.2 ⟨h.1,h.2.imp id λ c=>c.2.2⟩)
  .simp only [ab9,adY,or_false,Prod.mk.injEq] at h;rcases h with ⟨rfl,rfl⟩|⟨rfl,rfl⟩
   .exact .one (vo.2 ⟨ma _,.inr (by rw [kG na]; rfl)⟩)
   .exact .one (vo.2 ⟨mb _,.inr (by rw [kG nb]; cases s.2.2.2.2 <;> rfl)⟩)
theorem Qv (hs:q s.1=true):Ja (P,S++[s]) q=FN (eh (SF (P,S) q (sA s) (sB s)++[((sA s,false),(sB s,false == s.2.2.2.2)),((sA s,true),(sB s,true == s.2.2.2.2))])) (zY (P,S) q):=by
 obtain ⟨na,nb⟩:=SC g;have ma:=λ x=>(nS g hs hq x).1
 have mb:=λ x=>(nS g hs hq x).2
 have same:∀ x:Fl,x.1≠sA s->x.1≠sB s->Fm (P,S++[s]) x=Fm (P,S) x:=λ x ha hb=>by
  unfold Fm Ax;rw [SD g ha hb]
 show FN (eh (gE (P,S++[s]) q)) (zY (P,S) q)=_;refine Fg _ ?_ ?_
 .intro x y h;rw [vo] at h;obtain ⟨hx,e|e⟩:=h
  .exact .one (abk _ (mg.2 ⟨hx,.inl e⟩))
  .by_cases ha:x.1=sA s
   .rw [nQ (by rw [ha]; exact na)] at e;rcases ju ha with rfl|rfl
    .rw [e]; exact .one (aaS _ (by simp))
    .rw [e]; exact .one (aaS _ (by simp))
   .by_cases hb:x.1=sB s
    .rw [nQ (by rw [hb]; exact nb)] at e;cases hw:s.2.2.2.2 <;> rw [hw] at e <;> rcases ju hb with rfl | rfl <;> rw [e] <;> exact Cn.symm (.one (aaS _ (by simp)))
    .rw [same x ha hb] at e;exact .one (abk _ (mg.2 ⟨hx,.inr ⟨ha,hb,e⟩⟩))
 .intro x y h;rcases acd.1 h with h|h
  .rw [mg] at h;obtain ⟨hx,h⟩:=h;refine .one (vo.2 ⟨hx,h.imp id λ c=>?_⟩);rw [same x c.1 c.2.1]; exact c.2.2
  .simp only [ab9,adY,or_false,Prod.mk.injEq] at h;rcases h with ⟨rfl,rfl⟩|⟨rfl,rfl⟩
   .exact .one (vo.2 ⟨ma _,.inr (by rw [nQ na])⟩)
   .exact .one (vo.2 ⟨ma _,.inr (by rw [nQ na])⟩)
def My (t:bh) (a b:Int×Int) (h:Fl):Option Fl:=if SE a b h=true then some (Fm t h) else none
omit hq in
theorem adp (hq:WM (P,S) q):Inv2 (zY (P,S) q) (uq (P,S)) (My (P,S) (sA s) (sB s)) where
 sm:=(inv2 g.low hq).sm
 ss:=(inv2 g.low hq).ss
 sn:=(inv2 g.low hq).sn
 rm:=λ x hx y hy=>by
  unfold My at hy;split at hy
  .cases hy; exact abf g.low hq hx
  .cases hy
 rr:=λ x hx y hy=>by
  unfold My at hy ⊢;split at hy
  .rename_i c;cases hy;rw [nR] at c;have:SE (sA s) (sB s) (Fm (P,S) x)=true:=by
    rw [nR];cases hm:gq (P,S) x.1 with
    |none=>rw [kG hm]; exact c
    |some z=>
     obtain ⟨o,w⟩:=z;rw [nQ hm];have:=Bk g.low hm;refine ⟨λ e=>?_,λ e=>?_⟩
     .have e:o=sA s:=e;rw [e,g.last.1] at this; cases this
     .have e:o=sB s:=e;rw [e,g.last.2] at this; cases this
   rw [if_pos this,ahV g.low]
  .cases hy
 rn:=λ x _ hy=>by
  unfold My at hy;split at hy
  .exact ahW g.low x (acg hy)
  .cases hy
omit g hq in
theorem Fo :My t a b h=none↔h.1=a\/h.1=b:=by
 unfold My;by_cases c:SE a b h=true
 .rw [if_pos c];rw [nR] at c;exact ⟨λ e=>(nomatch e),λ e=>absurd e (λ e=>Or.elim e c.1 c.2)⟩
 .rw [if_neg c];rw [nR] at c;refine ⟨λ _=>?_,λ _=>rfl⟩;by_cases d:h.1=a
  .exact .inl d
  .exact .inr (acP λ e=>c ⟨d,e⟩)
omit hq in
theorem Jb (hq:WM (P,S) q) {x0:Fl} (h0:x0∈zY (P,S) q):∀ (m:Nat) (y:Fl),vl (λ x=>My (P,S) (sA s) (sB s) (uq (P,S) x)) x0 m=some y->Cn (λ a b=>(a,b)∈SF (P,S) q (sA s) (sB s)) x0 y/\y∈zY (P,S) q
 |0,y,h=>by cases h; exact ⟨.refl _,h0⟩
 |m+1,y,h=>by
  obtain ⟨z,h1,h2⟩:=jl h;obtain ⟨ih,zm⟩:=Jb hq h0 m z h1;have h2:My (P,S) (sA s) (sB s) (uq (P,S) z)=some y:=h2;have sm:=(inv2 g.low hq).sm z zm;refine ⟨?_,(adp g hq).rm _ sm y h2⟩;unfold My at h2;split at h2
  .rename_i c;rw [nR] at c;cases h2;exact .step (.step ih (mg.2 ⟨zm,.inl rfl⟩)) (mg.2 ⟨sm,.inr ⟨c.1,c.2,rfl⟩⟩)
  .cases h2
theorem vq {x0:Fl} (h0:x0∈zY (P,S) q) (hx:x0.1=sA s\/x0.1=sB s):∃ z,Cn (λ a b=>(a,b)∈SF (P,S) q (sA s) (sB s)) x0 z/\(z.1=sA s\/z.1=sB s)/\z≠x0 /\
  (∀ y,y∈zY (P,S) q->Cn (λ a b=>(a,b)∈SF (P,S) q (sA s) (sB s)) x0 y->(y.1=sA s\/y.1=sB s)->y=x0\/y=z) /\
  ∀ χ:Fl->Bool,(∀ x∈zY (P,S) q,χ (uq (P,S) x)=!χ x)->(∀ x∈zY (P,S) q,χ (Fm (P,S) x)=!χ x)->χ z=!χ x0:=by
 have hq0:WM (P,S) q:=λ x hx=>hq x (abk _ hx)
 have I:=adp g hq0;have hr:My (P,S) (sA s) (sB s) x0=none:=Fo.2 hx;obtain ⟨m,x,hm,h1,h2⟩:=I.ends h0 hr;obtain ⟨c1,c2⟩:=Jb g hq0 h0 m x h1;refine ⟨uq (P,S) x,.step c1 (mg.2 ⟨c2,.inl rfl⟩),Fo.1 h2,I.other h0 h1,?_,?_⟩
 .intro y hy hc hn;have key:y∈zY (P,S) q/\onW (uq (P,S)) (My (P,S) (sA s) (sB s)) x0 m y:=by
   refine Cn.alZ (P:=λ y=>y∈zY (P,S) q/\onW (uq (P,S)) (My (P,S) (sA s) (sB s)) x0 m y) ?_ hc ⟨h0,0,acf _,.inl rfl⟩;intro u v e;rw [mg] at e;obtain ⟨hu,e|⟨e1,e2,e⟩⟩:=e
   .subst e;refine ⟨λ k=>⟨I.sm u hu,I.alW hu k.2⟩,λ k=>⟨hu,?_⟩⟩;have:=I.alW (I.sm u hu) k.2;rwa [I.ss u hu] at this
   .subst e;have ru:My (P,S) (sA s) (sB s) u=some (Fm (P,S) u):=if_pos (nR.2 ⟨e1,e2⟩);have vm:=I.rm u hu _ ru;exact ⟨λ k=>⟨vm,I.alX h0 hr h1 h2 hu k.2 ru⟩,λ k=>⟨hu,I.alX h0 hr h1 h2 vm k.2 (I.rr u hu _ ru)⟩⟩
  exact I.aa1 h0 h1 hy key.2 (Fo.2 hn)
 .intro χ hs hrr;have:∀ (k:Nat) (y:Fl),vl (λ x=>My (P,S) (sA s) (sB s) (uq (P,S) x)) x0 k=some y->χ y=χ x0:=by
   intro k
   induction k with
   |zero=>intro y h; cases h; rfl
   |succ k ih=>
    intro y h;obtain ⟨z,a,b⟩:=jl h;have zm:=(Jb g hq0 h0 k z a).2;have b:My (P,S) (sA s) (sB s) (uq (P,S) z)=some y:=b;unfold My at b;split at b
    .cases b;rw [hrr _ (I.sm z zm),hs z zm,Bool.not_not]; exact ih z a
    .cases b
  rw [hs x c2,this m x h1]
end
def kW {x:Int}:x∈bH n↔0<=x/\x < (n:Int):=by
 unfold bH;rw [abC];constructor
 .rintro ⟨i,hi,rfl⟩;rw [aca] at hi;omega
 .rintro ⟨h1,h2⟩;exact ⟨x.toNat,aca.2 (by omega),by omega⟩
def Hw (n:Nat):(bH n).Nodup:=by
 unfold bH;rw [aee,acJ];exact afy (λ h e=>by omega) List.pairwise_lt_range
def Hx {s:mi} (hs:s∈t.2):eh (t.2.map qx) s.1=eh (t.2.map qx) s.2.2.1:=
 (gU _ _ _).2 (.one (abC.2 ⟨s,hs,rfl⟩))
def abg (g:Gd t) (h:Fl):eh (t.2.map qx) (Fm t h).1.1=eh (t.2.map qx) h.1.1:=by
 cases hm:gq t h.1 with
 |none=>rw [kG hm]; rfl
 |some y=>
  obtain ⟨o,w⟩:=y;rw [nQ hm];obtain ⟨s,hs,_,⟨h1,h2⟩|⟨h1,h2⟩⟩:=(gM g).1 hm
  .rw [<- h1,<- h2]; exact (Hx hs).symm
  .rw [<- h1,<- h2]; exact Hx hs
section
variable {s:mi} (g:Gd (P,S++[s])) (hq:WM (P,S++[s]) q)
include g hq
omit hq in
theorem abh {x y:Fl} (h:Cn (λ a b=>(a,b)∈SF (P,S) q (sA s) (sB s)) x y):eh (S.map qx) x.1.1=eh (S.map qx) y.1.1:=by
 refine Cn.keep (f:=λ h:Fl=>eh (S.map qx) h.1.1) (λ u v e=>?_) h;rw [mg] at e;obtain ⟨_,e|⟨_,_,e⟩⟩:=e
 .rw [e,Qs]
 .rw [e]; exact (abg g.low u).symm
theorem apart (hs:q s.1=true) (hn:eh (S.map qx) s.1≠eh (S.map qx) s.2.2.1):Ja (P,S++[s]) q+1=Ja (P,S) q:=by
 have ma:=λ x=>(nS g hs hq x).1
 have mb:=λ x=>(nS g hs hq x).2
 rw [Qu g hq hs,Qv g hq hs];have far:∀ x y,Cn (λ a b=>(a,b)∈SF (P,S) q (sA s) (sB s)) (sA s,x) (sB s,y)->False:=λ x y c=>hn (abh g c)
 have ca:Cn (λ a b=>(a,b)∈SF (P,S) q (sA s) (sB s)) (sA s,false) (sA s,true):=by
  obtain ⟨z,c,hz,de,_⟩:=vq g hq (ma false) (.inl rfl);rcases hz with hz|hz
  .rcases ju hz with e|e
   .exact absurd e de
   .rw [<- e]; exact c
  .exfalso;rcases ju hz with e|e <;> rw [e] at c <;> exact far _ _ c
 have cb:Cn (λ a b=>(a,b)∈SF (P,S) q (sA s) (sB s)) (sB s,true == s.2.2.2.2) (sB s,false == s.2.2.2.2):=by
  obtain ⟨z,c,hz,de,_⟩:=vq g hq (mb (true == s.2.2.2.2)) (.inr rfl);rcases hz with hz|hz
  .exfalso;rcases ju hz with e|e <;> rw [e] at c <;> exact far _ _ c.symm
  .have:z=(sB s,false == s.2.2.2.2):=by
    rcases ju hz with e|e <;> rw [e] at de ⊢ <;> revert de <;> cases s.2.2.2.2 <;> simp
   rw [<- this]; exact c
 exact LG _ (ma _) (ma _) (mb _) (mb _) ((gU _ _ _).2 ca) ((gU _ _ _).2 cb) λ e=>far _ _ ((gU _ _ _).1 e)
theorem signed (hs:q s.1=true) (χ:Fl->Bool) (h1:∀ x,χ (uq (P,S) x)=!χ x) (h2:∀ x∈zY (P,S) q,χ (Fm (P,S) x)=!χ x) (h3:χ (sB s,false == s.2.2.2.2)=!χ (sA s,false)) :
  Ja (P,S++[s]) q+1=Ja (P,S) q\/Ja (P,S++[s]) q=Ja (P,S) q+1:=by
 have ma:=λ x=>(nS g hs hq x).1
 have mb:=λ x=>(nS g hs hq x).2
 have ne:=(g.Aw s (aaS _ (aa5.2 rfl))).2.2;obtain ⟨na,nb⟩:=g.last;have ta:χ (sA s,true)=!χ (sA s,false):=by
  have:=h2 _ (ma false);rw [kG na] at this; exact this
 have tb:χ (sB s,true == s.2.2.2.2)=χ (sA s,false):=by
  have:=h2 _ (mb (false == s.2.2.2.2));rw [kG nb] at this;have e:C2 (sB s,false == s.2.2.2.2)=(sB s,true == s.2.2.2.2):=by cases s.2.2.2.2 <;> rfl
  rw [e,h3,Bool.not_not] at this;exact this
 have fl:∀ z:Fl,(z.1=sA s\/z.1=sB s)->z=(sA s,false)\/z=(sA s,true)\/z=(sB s,false == s.2.2.2.2)\/z=(sB s,true == s.2.2.2.2):=by
  rintro z (hz|hz)
  .rcases ju hz with e|e
   .exact .inl e
   .exact .inr (.inl e)
  .rcases ju hz with e|e <;> rw [e] <;> cases s.2.2.2.2 <;> simp
 have nab:∀ x y,((sA s,x):Fl)≠(sB s,y):=λ x y e=>ne (congrArg ad3 e)
 rw [Qu g hq hs,Qv g hq hs];obtain ⟨z,c,hz,de,only,col⟩:=vq g hq (ma false) (.inl rfl);have cz:=col χ (λ x _=>h1 x) h2;have bne:∀ b:Bool,b=!b->False:=λ b=>by cases b <;> decide
 rcases fl z hz with e|e|e|e
 .exact absurd e de
 .left;rw [e] at c only;have cb:Cn (λ a b=>(a,b)∈SF (P,S) q (sA s) (sB s)) (sB s,true == s.2.2.2.2) (sB s,false == s.2.2.2.2):=by
   obtain ⟨y,d,hy,hny,_,cy⟩:=vq g hq (mb (true == s.2.2.2.2)) (.inr rfl);have cy:=cy χ (λ x _=>h1 x) h2;rcases fl y hy with f|f|f|f
   .exfalso;rw [f] at cy;rw [tb] at cy;exact bne _ cy
   .exfalso;rw [f] at d;rcases only _ (mb _) (c.trans d.symm) (.inr rfl) with k|k
    .exact nab _ _ k.symm
    .exact nab _ _ k.symm
   .rw [<- f]; exact d
   .exact absurd f hny
  refine LG _ (ma _) (ma _) (mb _) (mb _) ((gU _ _ _).2 c) ((gU _ _ _).2 cb) λ k=>?_
  rcases only _ (mb _) ((gU _ _ _).1 k) (.inr rfl) with k|k
  .exact nab _ _ k.symm
  .exact nab _ _ k.symm
 .right;rw [e] at c only;have cb:Cn (λ a b=>(a,b)∈SF (P,S) q (sA s) (sB s)) (sA s,true) (sB s,true == s.2.2.2.2):=by
   obtain ⟨y,d,hy,hny,_,cy⟩:=vq g hq (ma true) (.inl rfl);have cy:=cy χ (λ x _=>h1 x) h2;rcases fl y hy with f|f|f|f
   .exfalso;rw [f] at d;rcases only _ (ma _) d.symm (.inl rfl) with k|k
    .injection k with _ k; cases k
    .exact nab _ _ k
   .exact absurd f hny
   .exfalso;rw [f,h3,ta] at cy;exact bne _ cy
   .rw [<- f]; exact d
  refine Wx _ (ma _) (ma _) (mb _) (mb _) ((gU _ _ _).2 c) ((gU _ _ _).2 cb) λ k=>?_
  rcases only _ (ma _) ((gU _ _ _).1 k) (.inl rfl) with k|k
  .injection k with _ k; cases k
  .exact nab _ _ k
 .exfalso;rw [e,tb] at cz;exact bne _ cz
end
def LM {α:Type} {f:α->Option α} {x y:α} (h:f x=some y):∀ n,vl f x (n+1)=vl f y n
 |0=>h
 |n+1=>by
  show (vl f x (n+1)).bind f=_;rw [LM h n]; rfl
def WN (t:bh):Nat->Fl->Fl
 |0,h=>uq t h
 |n+1,h=>match Ax t (uq t h) with | none=>uq t h | some y=>WN t n y
def B9 (t:bh):Nat:=(zY t λ _=>true).length
def OM (t:bh) (h:Fl):Fl:=C2 (WN t (B9 t) h)
def ON {t:bh}:∀ (m n:Nat) (h x:Fl),m<=n->vl (λ x=>Ax t (uq t x)) h m=some x->Ax t (uq t x)=none->WN t n h=uq t x
 |0,n,h,x,_,h1,h2=>by
  cases h1;cases n with
  |zero=>rfl
  |succ n=>unfold WN; rw [h2]
 |m+1,0,_,_,hn,_,_=>absurd hn (by omega)
 |m+1,n+1,h,x,hn,h1,h2=>by
  unfold WN;cases hm:Ax t (uq t h) with
  |none=>
   obtain ⟨z,hz⟩:=we (f:=λ x=>Ax t (uq t x)) 1 x m (by rw [Nat.add_comm]; exact h1);obtain ⟨w,a,b⟩:=jl hz;cases a;have b:Ax t (uq t h)=some z:=b;rw [hm] at b; cases b
  |some y=>
   rw [LM (f:=λ x=>Ax t (uq t x)) hm] at h1;exact ON m n y x (by omega) h1 h2
def qd (t:bh) (h:Fl):Prop:=aU t h.1=true/\gq t h.1=none
def Jc :Ax t h=none↔gq t h.1=none:=by
 unfold Ax;cases gq t h.1 <;> simp
def Hy :e∈jF t↔aU t e=true/\gq t e=none:=by
 unfold jF;rw [acV,cZ,Option.isNone_iff_eq_none];unfold gq;rw [Option.map_eq_none_iff]
section
variable (g:Gd t)
include g
omit g in
theorem ahX (t:bh):WM t λ _=>true:=λ _ _=>rfl
theorem fan (hf:qd t h):∃ m x,m<=B9 t/\vl (λ x=>Ax t (uq t x)) h m=some x/\Ax t (uq t x)=none/\WN t (B9 t) h=uq t x/\aU t x.1=true:=by
 have I:=inv2 g (ahX t);have hm:h∈zY t λ _=>true:=nj.2 ⟨hf.1,rfl⟩
 obtain ⟨m,x,h1,h2,h3⟩:=I.ends hm (Jc.2 hf.2);have hx:=mf (f:=λ x=>Ax t (uq t x)) hm I.cl m x h2;exact ⟨m,x,adk h1,h2,h3,ON m _ h x (adk h1) h2 h3,(nj.1 hx).1⟩
theorem abi (hf:qd t h):qd t (WN t (B9 t) h):=by
 obtain ⟨m,x,_,_,h3,e,hx⟩:=fan g hf;rw [e];exact ⟨Qt hx,Jc.1 h3⟩
theorem al9 (hf:qd t h):WN t (B9 t) h≠h:=by
 have I:=inv2 g (ahX t);obtain ⟨m,x,_,h2,h3,e,hx⟩:=fan g hf;rw [e];exact I.other (nj.2 ⟨hf.1,rfl⟩) h2
theorem ama (hf:qd t h):WN t (B9 t) (WN t (B9 t) h)=h:=by
 have I:=inv2 g (ahX t);obtain ⟨m,x,hm,h2,h3,e,hx⟩:=fan g hf;rw [e];have r:=I.rev (nj.2 ⟨hf.1,rfl⟩) h2 m (ady _) h (by rw [Nat.sub_self]; rfl);rw [ON m _ (uq t x) (uq t h) hm r (by rw [OL hf.1]; exact Jc.2 hf.2),OL hf.1]
omit g in
theorem Hz (h:Fl):C2 (C2 h)=h:=by
 obtain ⟨e,b⟩:=h;cases b <;> rfl
omit g in
theorem amb (h:Fl):C2 h≠h:=by
 obtain ⟨e,b⟩:=h;cases b <;> exact λ e=>nomatch (congrArg Prod.snd e)
omit g in
theorem Qw (hf:qd t h):qd t (C2 h):=hf
omit g in
theorem adq {x y:Fl} (h:x.1=y.1):x=y\/x=C2 y:=by
 obtain ⟨e,b⟩:=x;obtain ⟨f,c⟩:=y;have h:e=f:=h;subst h;cases b <;> cases c
 .exact .inl rfl
 .exact .inr rfl
 .exact .inr rfl
 .exact .inl rfl
theorem abj (hf:qd t h):qd t (OM t h):=Qw (abi g hf)
theorem zZ (hf:qd t h):OM t (C2 (OM t h))=C2 h:=by
 unfold OM;rw [Hz,ama g hf]
theorem amc (hf:qd t h):OM t h≠C2 h:=by
 unfold OM;intro e;exact al9 g hf (by rw [<- Hz (WN t (B9 t) h),e,Hz])
theorem ahY {k:Fl} (hf:qd t h) (kf:qd t k) (e:OM t h=OM t k):h=k:=by
 have a:=zZ g hf;rw [e,zZ g kf] at a;rw [<- Hz h,<- a,Hz]
omit g in
def rG (t:bh) (b:Int×Int):Nat->Fl
 |0=>(b,false)
 |n+1=>OM t (rG t b n)
theorem wj {b:Int×Int} (hb:b∈jF t):∀ n,qd t (rG t b n)
 |0=>Hy.1 hb
 |n+1=>abj g (wj hb n)
omit g in
theorem least {P:Nat->Prop}:∀ n,P n->∃ m,P m/\m<=n/\∀ k,k < m->¬ P k
 |n,h=>by
  by_cases c:∃ k,k < n/\P k
  .obtain ⟨k,hk,hp⟩:=c;obtain ⟨m,a,b,d⟩:=least k hp;exact ⟨m,a,by omega,d⟩
  .exact ⟨n,h,ady _,λ k hk hp=>c ⟨k,hk,hp⟩⟩
theorem arT (hb:b∈jF t):∃ k,1<=k/\k<=(jF t).length/\rG t b k=(b,false)/\∀ i j,i < j->j < k->(rG t b i).1≠(rG t b j).1:=by
 have ex:∃ j,j<=(jF t).length/\∃ i,i < j/\(rG t b i).1=(rG t b j).1:=by
  apply acP;intro hc;have nd:((adR ((jF t).length+1)).map λ i=>(rG t b i).1).Nodup:=by
   rw [aee,acJ];refine acW (R:=(· < ·)) ?_ List.pairwise_lt_range;intro i j _ hj hij e;rw [aca] at hj;exact hc ⟨j,by omega,i,hij,e⟩
  have:=B8 nd (m:=jF t) (λ x hx=>by
   obtain ⟨i,_,rfl⟩:=abC.1 hx;exact Hy.2 (wj g hb i))
  rw [aad,List.length_range] at this;omega
 obtain ⟨j0,hj0,hi0⟩:=ex;obtain ⟨j,⟨i,hij,e⟩,hj,low⟩:=least (P:=λ j=>∃ i,i < j/\(rG t b i).1=(rG t b j).1) j0 hi0;have low:∀ i' j',i' < j'->j' < j->(rG t b i').1≠(rG t b j').1:=λ i' j' h1 h2 h3=>low j' h2 ⟨i',h1,h3⟩
 have fi:=wj g hb;obtain ⟨j,rfl⟩:∃ j',j=j'+1:=⟨j - 1,by omega⟩;rcases adq e.symm with c|c
 .cases i with
  |zero=>exact ⟨j+1,by omega,by omega,c,low⟩
  |succ i=>
   have:=ahY g (fi j) (fi i) c;exact absurd (by rw [this]) (low i j (by omega) (by omega))
 .exfalso;have c:OM t (rG t b j)=C2 (rG t b i):=c;have d:=zZ g (fi j);rw [c,Hz] at d;have d:rG t b (i+1)=C2 (rG t b j):=d;have d1:(rG t b (i+1)).1=(rG t b j).1:=by rw [d]; rfl
  rcases Nat.lt_trichotomy (i+1) j with h|h|h
  .exact low (i+1) j h (by omega) d1
  .rw [h] at d;exact amb _ d.symm
  .have:i=j:=by omega
   subst this;exact amc g (fi i) c
omit g in
def WO (t:bh) (b:Int×Int):Nat->Fl->List (Int×Int)
 |0,_=>[]
 |n+1,h=>h.1::(if (OM t h).1=b then [] else WO t b n (OM t h))
def CA (t:bh) (b:Int×Int):List (Int×Int):=WO t b (jF t).length (b,false)
omit g in
theorem Qx {b:Int×Int} {k:Nat} (h1:(rG t b k).1=b) (h2:∀ j,0 < j->j < k->(rG t b j).1≠b):∀ (d i n:Nat),i+d=k->0 < d->d<=n->WO t b n (rG t b i)=(adR d).map λ j=>(rG t b (i+j)).1
 |0,_,_,_,h,_=>absurd h (by omega)
 |d+1,i,0,_,_,h=>absurd h (by omega)
 |d+1,i,n+1,h,_,hn=>by
  unfold WO;rw [ad8,aci,List.map_map];congr 1;show (if (rG t b (i+1)).1=b then [] else WO t b n (rG t b (i+1)))=_;cases d with
  |zero=>
   rw [show i+1=k by omega,if_pos h1]; rfl
  |succ d=>
   rw [if_neg (h2 (i+1) (by omega) (by omega)),Qx h1 h2 (d+1) (i+1) n (by omega) (by omega) (by omega)];refine aet λ j _=>?_
   show _=(rG t b (i+(j+1))).1;rw [show i+1+j=i+(j+1) by omega]
theorem Aa (hb:b∈jF t):∃ k,1<=k/\k<=(jF t).length/\rG t b k=(b,false)/\(∀ i j,i < j->j < k->(rG t b i).1≠(rG t b j).1)/\CA t b=(adR k).map (λ j=>(rG t b j).1)/\∀ j,0 < j->j < k->(rG t b j).1≠b:=by
 obtain ⟨k,h1,h2,h3,h4⟩:=arT g hb;have hn:∀ j,0 < j->j < k->(rG t b j).1≠b:=λ j a c e=>h4 0 j a c e.symm
 refine ⟨k,h1,h2,h3,h4,?_,hn⟩;have:=Qx (t:=t) (b:=b) (by rw [h3]) hn k 0 (jF t).length (by omega) h1 h2;unfold CA;have e:rG t b 0=(b,false):=rfl;rw [<- e,this];exact aet λ j _=>by rw [aeH]
theorem ahZ (hb:b∈jF t):(CA t b).Nodup:=by
 obtain ⟨k,_,_,_,h4,e,_⟩:=Aa g hb;rw [e,aee,acJ];refine acW (R:=(· < ·)) ?_ List.pairwise_lt_range;intro i j _ hj hij;exact h4 i j hij (aca.1 hj)
theorem WQ (hb:b∈jF t):∃ l,CA t b=b::l:=by
 obtain ⟨k,h1,_,_,_,e,_⟩:=Aa g hb;obtain ⟨k,rfl⟩:∃ k',k=k'+1:=⟨k - 1,by omega⟩;rw [e,ad8,aci];exact ⟨_,rfl⟩
def WR (t:bh) (U:List (Int×Int)):Prop:=∀ h:Fl,qd t h->h.1∈U->(OM t h).1∈U
theorem WS (hb:b∈jF t):WR t (CA t b):=by
 obtain ⟨k,h1,_,h3,_,ec,_⟩:=Aa g hb;have inC:∀ j,j<=k->(rG t b j).1∈CA t b:=λ j hj=>by
  rw [ec,abC];rcases adT j k with c|c
  .exact ⟨j,aca.2 c,rfl⟩
  .refine ⟨0,aca.2 h1,?_⟩;have:j=k:=by omega
   rw [this,h3]; rfl
 intro h hf hh;rw [ec,abC] at hh;obtain ⟨j,hj,e⟩:=hh;rw [aca] at hj;rcases adq e.symm with c|c
 .rw [c]; exact inC (j+1) hj
 .rw [c];have:∃ i,i < k/\rG t b j=OM t (rG t b i):=by
   cases j with
   |zero=>exact ⟨k - 1,by omega,by rw [show rG t b 0=(b,false) from rfl,<- h3]; show rG t b k=rG t b (k - 1+1); rw [show k - 1+1=k by omega]⟩
   |succ j=>exact ⟨j,by omega,rfl⟩
  obtain ⟨i,hi,e2⟩:=this;rw [e2,zZ g (wj g hb i)];exact inC i (by omega)
theorem SG (hb:b∈jF t) (hU:WR t U) (hn:b∉U):∀ e∈CA t b,e∉U:=by
 obtain ⟨k,h1,_,h3,_,ec,_⟩:=Aa g hb;have:∀ j,(rG t b j).1∉U:=by
  intro j
  induction j with
  |zero=>exact hn
  |succ j ih=>
   intro hj;have:=hU (C2 (rG t b (j+1))) (Qw (wj g hb (j+1))) hj;have e:OM t (C2 (rG t b (j+1)))=C2 (rG t b j):=zZ g (wj g hb j);rw [e] at this;exact ih this
 intro e he;rw [ec,abC] at he;obtain ⟨j,_,rfl⟩:=he;exact this j
omit g in
def opS (t:bh) (s:List (List (Int×Int))×List (Int×Int)) (b:Int×Int):List (List (Int×Int))×List (Int×Int):=if b∈s.2 then s else (s.1++[CA t b],s.2++CA t b)
def adr (t:bh):List (List (Int×Int)):=((jF t).foldl (opS t) ([],[])).1
structure Tu (t:bh) (l:List (Int×Int)) (s:List (List (Int×Int))×List (Int×Int)):Prop where
 flat:s.2=s.1.flatten
 nd:s.2.Nodup
 ah0:WR t s.2
 all:∀ b∈l,b∈s.2
 cir:∀ c∈s.1,∃ b∈l,c=CA t b
 head:(s.1.map λ c=>c.getD 0 (0,0)).Sublist l
 new:s.1.Pairwise λ c d=>∀ e∈c,e∉d
theorem Tu.step {l:List (Int×Int)} {s:List (List (Int×Int))×List (Int×Int)} (h:Tu t l s) (hb:b∈jF t):Tu t (l++[b]) (opS t s b):=by
 unfold opS;by_cases c:b∈s.2
 .rw [if_pos c];exact ⟨h.flat,h.nd,h.ah0,λ x hx=>(acd.1 hx).elim (h.all x) λ k=>by rw [aa5.1 k]; exact c,λ x hx=>by
   obtain ⟨y,hy,e⟩:=h.cir x hx;exact ⟨y,abk _ hy,e⟩,h.head.trans (List.sublist_append_left _ _),h.new⟩
 .rw [if_neg c];have ap:=SG g hb h.ah0 c;obtain ⟨r,hr⟩:=WQ g hb;refine ⟨?_,?_,?_,?_,?_,?_,?_⟩
  .show s.2++CA t b=_;rw [h.flat,List.flatten_append]; simp
  .rw [adP];exact ⟨h.nd,ahZ g hb,λ x hx y hy e=>ap y hy (by rw [<- e]; exact hx)⟩
  .intro x hx hm;rcases acd.1 hm with hm|hm
   .exact abk _ (h.ah0 x hx hm)
   .exact aaS _ (WS g hb x hx hm)
  .intro x hx;rcases acd.1 hx with hx|hx
   .exact abk _ (h.all x hx)
   .rw [aa5.1 hx];exact aaS _ (by rw [hr]; exact ab5)
  .intro x hx;rcases acd.1 hx with hx|hx
   .obtain ⟨y,hy,e⟩:=h.cir x hx;exact ⟨y,abk _ hy,e⟩
   .exact ⟨b,aaS _ (aa5.2 rfl),aa5.1 hx⟩
  .show ((s.1++[CA t b]).map _).Sublist _;rw [adl];refine h.head.append ?_;rw [hr];exact List.Sublist.refl _
  .rw [acO];refine ⟨h.new,List.pairwise_singleton _ _,?_⟩;intro x hx y hy e he hc;rw [aa5.1 hy] at hc;refine ap e hc ?_;rw [h.flat,List.mem_flatten];exact ⟨x,hx,he⟩
theorem Tu.fold:∀ (l p:List (Int×Int)) (s:List (List (Int×Int))×List (Int×Int)),(∀ x∈p++l,x∈jF t)->Tu t p s->Tu t (p++l) (l.foldl (opS t) s)
 |[],p,s,_,h=>by rw [adm]; exact h
 |b::l,p,s,hl,h=>by
  have:=Tu.fold l (p++[b]) (opS t s b) (by rw [acK]; exact hl) (h.step g (hl b (aaS _ ab5)));rw [acK] at this;exact this
omit g in
theorem Tu.nil:Tu t [] ([],[]):=⟨rfl,aed,λ _ _ h=>(nomatch h),λ _ h=>(nomatch h),λ _ h=>(nomatch h),List.Sublist.refl _,aeT⟩
theorem SH:Tu t (jF t) ((jF t).foldl (opS t) ([],[])):=by
 have:=Tu.fold g (jF t) [] ([],[]) (λ x hx=>hx) Tu.nil;exact this
end
section
variable (g:Gd t) (hq:WM t q)
include g hq
end
section
variable [DecidableEq K]
def wo (f:Int->Int) (k:K):∀ m:List (K×Int),getM k (m.map λ e=>(e.1,f e.2))=(getM k m).map f
 |[]=>rfl
 |(k1,v1)::m=>by
  show (if k=k1 then some (f v1) else getM k (m.map λ e=>(e.1,f e.2)))=(if k=k1 then some v1 else getM k m).map f;by_cases h:k=k1
  .rw [if_pos h,if_pos h]; rfl
  .rw [if_neg h,if_neg h]; exact wo f k m
def tM {k:K} (h:k∈m.map ad3):∃ v,getM k m=some v:=by
 cases hm:getM k m with
 |none=>exact absurd h (getM_none.1 hm)
 |some v=>exact ⟨v,rfl⟩
def xU (p:List K) (m:List (K×Int)):Prop:=m.map ad3=p/\∀ (i:Nat) (h:i < p.length),getM p[i] m=some (i:Int)
def xU.put (h:xU p m) {x:K} (hx:x∉p):xU (p++[x]) (dG x (p.length:Int) m):=by
 refine ⟨?_,?_⟩
 .rw [vR,h.1,if_neg hx]
 .intro i hi;rw [eF];rw [List.length_append,List.length_singleton] at hi;rcases adT i p.length with c|c
  .rw [List.getElem_append_left c,if_neg λ e=>hx (by rw [<- e]; exact acN c)];exact h.2 i c
  .have:i=p.length:=by omega
   subst this;rw [if_pos (by rw [List.getElem_append_right (ady _)]; simp)]
def xU.val (h:xU p m) {x:K} (hx:x∈p):∃ i,∃ hi:i < p.length,p[i]=x/\ar m x=(i:Int):=by
 obtain ⟨i,hi,e⟩:=aes hx;refine ⟨i,hi,e,?_⟩;unfold ar;rw [<- e,h.2 i hi]; rfl
def xU.inj (h:xU p m) {x y:K} (hx:x∈p) (hy:y∈p) (e:ar m x=ar m y):x=y:=by
 obtain ⟨i,hi,e1,e2⟩:=h.val hx;obtain ⟨j,hj,e3,e4⟩:=h.val hy;rw [e2,e4] at e;have:i=j:=by omega
 subst this;rw [<- e1,<- e3]
def LN:∀ (l p:List K) (s:List (K×Int)×Int),(p++l).Nodup->xU p s.1->s.2=(p.length:Int)->xU (p++l) (l.foldl (λ s x=>(dG x s.2 s.1,s.2+1)) s).1
 |[],p,s,_,h,_=>by rw [adm]; exact h
 |x::l,p,s,hn,h,hs=>by
  have hx:x∉p:=λ c=>(adP.1 hn).2.2 x c x ab5 rfl
  have:=LN l (p++[x]) (dG x s.2 s.1,s.2+1) (by rw [acK]; exact hn) (by
   show xU _ (dG x s.2 s.1);rw [hs]; exact h.put hx) (by rw [List.length_append,hs]; simp)
  rw [acK] at this;exact this
def SI (h:l.Nodup):xU l (mL l):=by
 have:=LN l [] ([],0) h ⟨rfl,λ i hi=>absurd hi (ad6 _)⟩ rfl;exact this
def Fp (a b g k:Int):xO a b g=xO a b k↔g=k\/(g=a/\k=b)\/(g=b/\k=a):=by
 have key:∀ g,xO a b g=if b > a/\g=b then a else if b < a/\g=a then b else g:=by
  intro g;unfold xO RY ZM;by_cases h1:b > a
  .have h2:¬ b < a:=by omega
   simp only [h1,h2,if_true,if_false,true_and,false_and]
  .by_cases h2:b < a
   .simp only [h1,h2,if_true,if_false,true_and,false_and]
   .simp only [h1,h2,if_false,false_and];split
    .omega
    .rfl
 rw [key,key];rcases Int.lt_trichotomy a b with h|h|h
 .have h2:¬ b < a:=by omega
  simp only [show b > a from h,h2,true_and,false_and,if_false];split <;> split <;> omega
 .have h1:¬ b > a:=by omega
  have h2:¬ b < a:=by omega
  simp only [h1,h2,false_and,if_false];omega
 .have h1:¬ b > a:=by omega
  simp only [h1,h,false_and,true_and,if_false];split <;> split <;> omega
structure Bl (l:List K) (F:K->K->Prop) (m:List (K×Int)):Prop where
 keys:m.map ad3=l
 inl:∀ x y,F x y->x∈l/\y∈l
 WT:∀ x∈l,∀ y∈l,(ar m x=ar m y↔Cn F x y)
def Bl.step {F:K->K->Prop} (h:Bl l F m) {p:K×K} (h1:p.1∈l) (h2:p.2∈l):Bl l (λ a b=>F a b\/(a,b)=p) (kC m p):=by
 have val:∀ x∈l,ar (kC m p) x=xO (ar m p.1) (ar m p.2) (ar m x):=λ x hx=>by
  unfold kC;show (getM x (m.map _)).getD 0=_;rw [wo];obtain ⟨v,hv⟩:=tM (m:=m) (k:=x) (by rw [h.keys]; exact hx);unfold ar;rw [hv]; rfl
 refine ⟨by rw [vU]; exact h.keys,?_,λ x hx y hy=>?_⟩
 .rintro x y (e|e)
  .exact h.inl x y e
  .rw [<- e] at h1 h2; exact ⟨h1,h2⟩
 .rw [val x hx,val y hy,Fp];have up:∀ a b,Cn F a b->Cn (λ a b=>F a b\/(a,b)=p) a b:=λ a b k=>Cn.mono (λ _ _ e=>.one (.inl e)) k
  have pe:Cn (λ a b=>F a b\/(a,b)=p) p.1 p.2:=.one (.inr rfl);constructor
  .rintro (e|⟨e,f⟩|⟨e,f⟩)
   .exact up _ _ ((h.WT x hx y hy).1 e)
   .exact (up _ _ ((h.WT x hx _ h1).1 e)).trans (pe.trans (up _ _ ((h.WT y hy _ h2).1 f)).symm)
   .exact (up _ _ ((h.WT x hx _ h2).1 e)).trans (pe.symm.trans (up _ _ ((h.WT y hy _ h1).1 f)).symm)
  .intro k;rw [<- Fp];refine Cn.keep (f:=λ z=>xO (ar m p.1) (ar m p.2) (ar m z)) (λ u v e=>?_) k;show xO _ _ (ar m u)=xO _ _ (ar m v);rw [Fp];rcases e with e|e
   .obtain ⟨hu,hv⟩:=h.inl u v e;exact .inl ((h.WT u hu v hv).2 (.one e))
   .rw [<- e]; exact .inr (.inl ⟨rfl,rfl⟩)
def Bl.fold {l:List K}:∀ (ps:List (K×K)) (F:K->K->Prop) (m:List (K×Int)),Bl l F m->(∀ p∈ps,p.1∈l/\p.2∈l)->Bl l (λ a b=>F a b\/(a,b)∈ps) (ps.foldl kC m)
 |[],F,m,h,_=>by
  have e:(λ a b=>F a b\/(a,b)∈([]:List (K×K)))=F:=by
   funext a b;exact propext ⟨λ k=>k.resolve_right (λ c=>nomatch c),.inl⟩
  rw [e]; exact h
 |p::ps,F,m,h,hp=>by
  have:=Bl.fold ps _ (kC m p) (h.step (hp p ab5).1 (hp p ab5).2) (λ x hx=>hp x (ab7 _ hx));have e:(λ a b=>(F a b\/(a,b)=p)\/(a,b)∈ps)=(λ a b=>F a b\/(a,b)∈p::ps):=by
   funext a b;rw [ab9,or_assoc]
  rw [e] at this;exact this
def Bl.first (h:l.Nodup):Bl l (λ _ _=>False) (mL l):=by
 have n:=SI h;refine ⟨n.1,λ _ _ k=>k.elim,λ x hx y hy=>⟨λ e=>?_,λ c=>?_⟩⟩
 .rw [n.inj hx hy e]; exact .refl _
 .exact Cn.keep (λ _ _ k=>k.elim) c
def Bm (m:List (K×Int)):∀ (l:List K) (p:List Int) (ns:List (Int×Int)),p.Nodup->xU p ns->∃ r,(p++r).Nodup/\xU (p++r) (l.foldl (rY m) ns)/\(∀ x∈l,ar m x∈p++r)/\∀ v∈r,∃ x∈l,ar m x=v
 |[],p,ns,hn,h=>⟨[],by rw [adm]; exact hn,by rw [adm]; exact h,λ _ k=>(nomatch k),λ _ k=>(nomatch k)⟩
 |x::l,p,ns,hn,h=>by
  rw [List.foldl_cons];unfold rY;have len:ns.length=p.length:=by rw [<- h.1,aad]
  by_cases c:ar m x∈p
  .obtain ⟨v,hv⟩:=tM (m:=ns) (k:=ar m x) (by rw [h.1]; exact c);rw [if_pos (by rw [hv]; rfl)];obtain ⟨r,h1,h2,h3,h4⟩:=Bm m l p ns hn h;refine ⟨r,h1,h2,λ y hy=>?_,λ v hv=>?_⟩
   .rcases ab9.1 hy with e|e
    .rw [e]; exact abk _ c
    .exact h3 y e
   .obtain ⟨y,hy,e⟩:=h4 v hv;exact ⟨y,ab7 _ hy,e⟩
  .have hv:getM (ar m x) ns=none:=getM_none.2 (by rw [h.1]; exact c);rw [if_neg (by rw [hv]; decide),len];obtain ⟨r,h1,h2,h3,h4⟩:=Bm m l (p++[ar m x]) (dG (ar m x) (p.length:Int) ns) (adP.2 ⟨hn,by simp,λ a ha b hb e=>c (by rw [<- aa5.1 hb,<- e]; exact ha)⟩) (h.put c);have e:p++[ar m x]++r=p++(ar m x::r):=by simp
   rw [e] at h1 h2 h3;refine ⟨ar m x::r,h1,h2,λ y hy=>?_,λ v hv=>?_⟩
   .rcases ab9.1 hy with e|e
    .rw [e]; exact aaS _ ab5
    .exact h3 y e
   .rcases ab9.1 hv with e|e
    .exact ⟨x,ab5,e.symm⟩
    .obtain ⟨y,hy,e⟩:=h4 v e;exact ⟨y,ab7 _ hy,e⟩
def vt (hl:l.Nodup) (hp:∀ p∈ps,p.1∈l/\p.2∈l) :
  (fR l ps).map ad3=l/\(∀ x∈l,∀ y∈l,(ar (fR l ps) x=ar (fR l ps) y↔Cn (λ a b=>(a,b)∈ps) x y)) /\
  ∃ n:Nat,n<=l.length/\(∀ x∈l,∃ k:Nat,k < n/\ar (fR l ps) x=(k:Int)/\getM x (fR l ps)=some (k:Int))/\∀ k,k < n->∃ x∈l,ar (fR l ps) x=(k:Int):=by
 have u:=Bl.fold ps _ _ (Bl.first hl) hp;obtain ⟨m,hm⟩:∃ m,m=ps.foldl kC (mL l):=⟨_,rfl⟩;rw [<- hm] at u;obtain ⟨r,h1,h2,h3,h4⟩:=Bm m l [] [] aed ⟨rfl,λ i hi=>absurd hi (ad6 _)⟩;rw [List.nil_append] at h1 h2 h3;have e:fR l ps=m.map λ e=>(e.1,ar (l.foldl (rY m) []) e.2):=by unfold fR; rw [hm]
 obtain ⟨ns,hns⟩:∃ ns,ns=l.foldl (rY m) []:=⟨_,rfl⟩;rw [<- hns] at e h2;have get:∀ x∈l,getM x (fR l ps)=some (ar ns (ar m x)):=λ x hx=>by
  rw [e,wo];obtain ⟨v,hv⟩:=tM (m:=m) (k:=x) (by rw [u.keys]; exact hx);rw [hv];unfold ar;rw [hv]; rfl
 have val:∀ x∈l,ar (fR l ps) x=ar ns (ar m x):=λ x hx=>by
  rw [ar,get x hx]; rfl
 refine ⟨by rw [e,Ll]; exact u.keys,λ x hx y hy=>?_,r.length,?_,λ x hx=>?_,λ k hk=>?_⟩
 .rw [val x hx,val y hy];constructor
  .intro k;have:=(u.WT x hx y hy).1 (h2.inj (h3 x hx) (h3 y hy) k);exact Cn.mono (λ a b c=>.one (c.resolve_left id)) this
  .intro c;rw [(u.WT x hx y hy).2 (Cn.mono (λ a b c=>.one (.inr c)) c)]
 .have:=B8 h1 (m:=l.map (ar m)) λ v hv=>by
   obtain ⟨x,hx,e⟩:=h4 v hv;exact abC.2 ⟨x,hx,e⟩
  rwa [aad] at this
 .obtain ⟨i,hi,_,e2⟩:=h2.val (h3 x hx);exact ⟨i,hi,by rw [val x hx,e2],by rw [get x hx,e2]⟩
 .obtain ⟨x,hx,e1⟩:=h4 r[k] (acN hk);refine ⟨x,hx,?_⟩;rw [val x hx,e1];unfold ar;rw [h2.2 k hk]; rfl
end
def amd (s:mi) (x:Int×Bool):Option (Int×Bool):=if s.1=x.1 then some (s.2.2.1,x.2 != s.2.2.2.2) else if s.2.2.1=x.1 then some (s.1,x.2 != s.2.2.2.2) else none
def ads (t:bh):List Int->Int×Bool->Option (Int×Bool)
 |[],x=>some x
 |i::w,x=>(amd (jm t i.toNat) x).bind (ads t w)
def gI (l:List Int) (k:Int):Int:=l.getD k.toNat 0
def gL (l:List (List Int)) (k:Int):List Int:=l.getD k.toNat []
def nz:List Int->Nat
 |[]=>0
 |x::l=>(if x=0 then 0 else 1)+nz l
def Jd (l:List Int) (k j:Nat) (v:Int) (hk:k < l.length):gI (l.set k v) (j:Int)=if j=k then v else gI l (j:Int):=by
 unfold gI;simp only [aaK,ab3,List.getElem?_set];by_cases h:k=j
 .subst h; simp [hk]
 .rw [if_neg h,if_neg (λ e=>h e.symm)]
abbrev BS:=List Int×List Int×List (List Int)×List Int
def ah1 (s:mi) (a:Int):Int:=if s.2.2.1=a then s.1 else s.2.2.1
def adt (s:mi) (a:Int) (sg:List Int):Prop:=(s.1≠a/\s.2.2.1≠a)\/gI sg (ah1 s a)≠0
instance (s:mi) (a:Int) (sg:List Int):Decidable (adt s a sg):=by unfold adt; infer_instance
def InS (t:bh):Prop:=∀ i < t.2.length,∃ a b:Nat,(jm t i).1=a/\a < t.1.length/\(jm t i).2.2.1=b/\b < t.1.length
structure Inv (t:bh) (p:Nat) (x:BS) (ex:Int) (k:Nat):Prop where
 ls:x.2.1.length=t.1.length
 lp:x.2.2.1.length=t.1.length
 lt:x.2.2.2.length=t.1.length
 val:∀ q:Nat,gI x.2.1 q=0\/gI x.2.1 q=1\/gI x.2.1 q=-1
 wal:∀ q:Nat,q < t.1.length->gI x.2.1 q≠0->∃ r:Nat,gI x.2.2.2 q=r/\r<=q/\gI x.2.1 r=1/\gI x.2.2.2 r=r /\
  ads t (gL x.2.2.1 q) ((r:Int),false)=some ((q:Int),decide (gI x.2.1 q=-1))/\(gL x.2.2.1 q).length+1<=nz x.2.1
 que:∀ e∈x.1,∃ q:Nat,e=q/\q < t.1.length/\gI x.2.1 q≠0/\gI x.2.2.2 q=p
 len:x.1.length<=nz x.2.1
 low:∀ q:Nat,q < p->gI x.2.1 q≠0
 emp:∀ q:Nat,gI x.2.1 q=0->gL x.2.2.1 q=[]
 clo:∀ q:Nat,q < t.1.length->gI x.2.1 q≠0->(q:Int)∉x.1->∀ i < t.2.length,((q:Int)=ex->i < k) ->
  ((jm t i).1=q->gI x.2.1 (jm t i).2.2.1≠0/\gI x.2.2.2 (jm t i).2.2.1=gI x.2.2.2 q) /\
  ((jm t i).2.2.1=q->gI x.2.1 (jm t i).1≠0/\gI x.2.2.2 (jm t i).1=gI x.2.2.2 q)
def Inv.done {p:Nat} {x:BS} {a:Int} (h:Inv t p x a t.2.length):Inv t p x (-1) 0:=
 ⟨h.ls,h.lp,h.lt,h.val,h.wal,h.que,h.len,h.low,h.emp,λ q hq FT Ix i hi _=>h.clo q hq FT Ix i hi λ _=>hi⟩
def ah2 (n:Nat) (k:Int):gI (adf n 0) k=0:=by
 unfold gI;rw [ab3,List.getElem?_replicate];split <;> rfl
end
end Go.Proofs.YtegoimldbgdeiaaGreat
