/- Plain laws. -/
import Derived.Test.YtegoimldbgdeiaaGreatTrzEnv
import Derived.Test.YtegoimldbgdeiaaGreatAmKF
import Derived.Ground.NamesProg
import Derived.Ground.Names8Prog
import Derived.Shelf.Lays8
import Derived.Shelf.Spec.SlicesGrow
import Derived.Test.YtegoimldbgdeiaaGreatProg
import Derived.Ground.Names2Prog
import Derived.Shelf.Lays2
import Derived.Ground.SlgnProg
import Derived.Shelf.SlGeneric
import Derived.Shelf.SlLaysE0
set_option linter.all false
open Bool renaming and_self->aaJ, and_true->aaL, false_eq_true->ab5, and_eq_true->acN, not_false->adF, not_true->adR
open Go.Shelf renaming Ren->adn
open Int renaming toNat_natCast->aaK
open List renaming length_map->aag, length->aaR, range->aa5, isEmpty->abk, mem_of_mem_erase->abN, getElem_mem->ab1, length_range->ab3, getElem?_eq_getElem->ab6, drop_zero->ab7, map_append->ab9, length_erase_of_mem->acf, mem_range->acg, length_cons->aci, length_pos_of_mem->acq, length_take->acu, length_append->acJ, erase->acK, ext_getElem->acL, nodup_range->acM, take_add_one->acP, take_length->acV, Nodup->acW, length_nil->adi, mem_singleton->adj, map_cons->adk, getD_eq_getElem?_getD->adl, map_map->adm, foldl_cons->adx, replicate->ady, mem_cons_of_mem->adP, map_nil->adT
open Nat renaming zero_le->abC, beq->aca, le_of_ble_eq_true->acd, zero_add->adf, beq_refl->adh, ble->adO
open Option renaming bind_some->aad
open Option.some renaming injEq->ad4
open Prod renaming fst->aba
open Sum renaming inr->aaN, inl->aaS, elim->acO
namespace Go.Proofs.YtegoimldbgdeiaaGreat
noncomputable section
open Go Go.Am
open Go.Am.aF (fits)
open Go.IntKind (wrap)
open Int (toNat)
open List (map)
set_option maxRecDepth 100000
def zB17:=And.intro @aaJ @cond_true.{1}
def zB16:=And.intro @aaL @eq_self.{1}
def zB14:=And.intro @if_false.{1} @ab5
def zB11:=And.intro @aaK @aag.{0,0}
def zB10:=And.intro @cond_false.{1} @cond_true.{1}
def zB7:=And.intro @aag.{0,0} @decide_true
def zB4:=And.intro @cond_true.{1} (And.intro @aaJ @aad.{0,0})
def zB0:=And.intro @cond_true.{1} (And.intro @cond_false.{1} (And.intro @aad.{0,0} @aaJ))
variable {K:Type}{N i k:Nat}{ps:a6}{p piece v x:Int}{E:Env}{pc s:List Int}{e:(Int×Int)×Int}{g:FuncId}{m:List (K×Int)}
abbrev qv:EK:=.st (.cons 0 1 false .int (.cons 1 1 false .int .nil))
abbrev p2:aF:=(.int .i64)
abbrev d2 (v:AV):Int:=aF.bW p2 v
abbrev n2 (x:Int):AV:=aF.enc p2 x
abbrev L2 (l:List (Int)):=map n2 l
def Co (l:List Int):allFit (fits p2) (map n2 l)=true:=cA (p:=p2) rfl l
def Cp (l:List Int):map d2 (map n2 l)=l:=eO (p:=p2) rfl l
def fn2 (x:Int):fits p2 (n2 x)=true:=(aF.bt p2 x rfl).1
def dn2 (x:Int):d2 (n2 x)=x:=(aF.bt p2 x rfl).2
abbrev p3:aF:=(.int .i64)
abbrev d3 (v:AV):Int:=aF.bW p3 v
abbrev n3 (x:Int):AV:=aF.enc p3 x
abbrev L3 (l:List (Int)):=map n3 l
abbrev F3 (l:List (Int)):=allFit (fits p3) (map n3 l)
abbrev K3 (l:List (Int)):=map d3 (map n3 l)
def eV (l:List Int):allFit (fits p3) (map n3 l)=true:=cA (p:=p3) rfl l
def eW (l:List Int):map d3 (map n3 l)=l:=eO (p:=p3) rfl l
def zB3:=And.intro @eV (And.intro @decide_true (And.intro @eW @aag.{0,0}))
def Cq (x:Int):fits p3 (n3 x)=true:=(aF.bt p3 x rfl).1
def wE (x:Int):d3 (n3 x)=x:=(aF.bt p3 x rfl).2
abbrev Hh:aF:=(.int .i64)
abbrev d29 (v:AV):Int:=aF.bW Hh v
abbrev n29 (x:Int):AV:=aF.enc Hh x
abbrev L29 (l:List (Int)):=map n29 l
def A4 (l:List Int):allFit (fits Hh) (map n29 l)=true:=cA (p:=Hh) rfl l
def A5 (l:List Int):map d29 (map n29 l)=l:=eO (p:=Hh) rfl l
abbrev nG:aF:=EM
abbrev d100 (v:AV):Int×Int:=aF.bW nG v
abbrev n100 (x:Int×Int):AV:=aF.enc nG x
abbrev jx (l:List cj):=map n100 l
abbrev oH (l:List cj):=allFit (fits nG) (map n100 l)
abbrev ko (l:List cj):=map d100 (map n100 l)
def gS (l:List cj):allFit (fits nG) (map n100 l)=true:=cA (p:=nG) rfl l
def gT (l:List cj):map d100 (map n100 l)=l:=eO (p:=nG) rfl l
def Lg (x:Int×Int):fits nG (n100 x)=true:=(aF.bt nG x rfl).1
def Lh (x:Int×Int):d100 (n100 x)=x:=(aF.bt nG x rfl).2
abbrev xL:aF:=EM
abbrev d106 (v:AV):Int×Int:=aF.bW xL v
abbrev n106 (x:Int×Int):AV:=aF.enc xL x
abbrev IP (l:List cj):=map n106 l
abbrev Cr (l:List cj):=allFit (fits xL) (map n106 l)
abbrev vd (l:List cj):=map d106 (map n106 l)
def gy (l:List cj):allFit (fits xL) (map n106 l)=true:=cA (p:=xL) rfl l
def gz (l:List cj):map d106 (map n106 l)=l:=eO (p:=xL) rfl l
def akp (x:Int×Int):fits xL (n106 x)=true:=(aF.bt xL x rfl).1
def akq (x:Int×Int):d106 (n106 x)=x:=(aF.bt xL x rfl).2
abbrev ir:aF:=U9
abbrev d110 (v:AV):Int×Int×Int×Int×Bool:=aF.bW ir v
abbrev n110 (x:Int×Int×Int×Int×Bool):AV:=aF.enc ir x
abbrev dc (l:List ms):=map n110 l
abbrev nH (l:List ms):=allFit (fits ir) (map n110 l)
abbrev j8 (l:List ms):=map d110 (map n110 l)
def bc (l:List ms):allFit (fits ir) (map n110 l)=true:=cA (p:=ir) rfl l
def bf (l:List ms):map d110 (map n110 l)=l:=eO (p:=ir) rfl l
def akr (x:Int×Int×Int×Int×Bool):fits ir (n110 x)=true:=(aF.bt ir x rfl).1
def aks (x:Int×Int×Int×Int×Bool):d110 (n110 x)=x:=(aF.bt ir x rfl).2
abbrev fY:aF:=(.agg (.cons .str (.cons tZ .nil)))
abbrev d131 (v:AV):fj×aj:=aF.bW fY v
abbrev n131 (x:fj×aj):AV:=aF.enc fY x
abbrev cE (l:List lu):=map n131 l
abbrev mI (l:List lu):=allFit (fits fY) (map n131 l)
abbrev jH (l:List lu):=map d131 (map n131 l)
def a7 (l:List lu):allFit (fits fY) (map n131 l)=true:=cA (p:=fY) rfl l
def a8 (l:List lu):map d131 (map n131 l)=l:=eO (p:=fY) rfl l
def zB8:=And.intro @a7 (And.intro @a8 (And.intro @bc @bf))
def zB6:=And.intro @aaL (And.intro @beq_self_eq_true.{0} (And.intro @a7 (And.intro @a8 (And.intro @bc @bf))))
def akt (x:fj×aj):fits fY (n131 x)=true:=(aF.bt fY x rfl).1
def aku (x:fj×aj):d131 (n131 x)=x:=(aF.bt fY x rfl).2
abbrev EO:aF:=EM
abbrev d132 (v:AV):Int×Int:=aF.bW EO v
abbrev n132 (x:Int×Int):AV:=aF.enc EO x
abbrev zw (l:List cj):=map n132 l
abbrev akv (l:List cj):=allFit (fits EO) (map n132 l)
abbrev akw (l:List cj):=map d132 (map n132 l)
def EP (l:List cj):allFit (fits EO) (map n132 l)=true:=cA (p:=EO) rfl l
def EQ (l:List cj):map d132 (map n132 l)=l:=eO (p:=EO) rfl l
abbrev tv:aF:=(.agg (.cons (.int .i64) (.cons (.int .i64) (.cons (.int .i64) (.cons (.int .i64) .nil)))))
abbrev d189 (v:AV):Int×Int×Int×Int:=aF.bW tv v
abbrev n189 (x:Int×Int×Int×Int):AV:=aF.enc tv x
abbrev rW (l:List wZ):=map n189 l
abbrev A6 (l:List wZ):=allFit (fits tv) (map n189 l)
abbrev vf (l:List wZ):=map d189 (map n189 l)
def iu (l:List wZ):allFit (fits tv) (map n189 l)=true:=cA (p:=tv) rfl l
def iw (l:List wZ):map d189 (map n189 l)=l:=eO (p:=tv) rfl l
def akx (x:Int×Int×Int×Int):fits tv (n189 x)=true:=(aF.bt tv x rfl).1
def aky (x:Int×Int×Int×Int):d189 (n189 x)=x:=(aF.bt tv x rfl).2
abbrev cO:aF:=(.agg (.cons EM (.cons (.int .i64) .nil)))
abbrev cH (v:AV):cj×Int:=aF.bW cO v
abbrev qM (x:cj×Int):AV:=aF.enc cO x
abbrev bg (l:List (cj×Int)):=ax (map qM l)
abbrev gm (l:List (cj×Int)):=aD (ax (map qM l))
def aV (l:List (cj×Int)):allFit (fits cO) (map qM l)=true:=cA (p:=cO) rfl l
def aW (l:List (cj×Int)):map cH (map qM l)=l:=eO (p:=cO) rfl l
abbrev cB:aF:=EM
abbrev bY (v:AV):Int×Int:=aF.bW cB v
abbrev pK (x:Int×Int):AV:=aF.enc cB x
abbrev aX (l:List cj):=ax (map pK l)
abbrev pL (l:List cj):=aD (ax (map pK l))
def bl (l:List cj):allFit (fits cB) (map pK l)=true:=cA (p:=cB) rfl l
def bn (l:List cj):map bY (map pK l)=l:=eO (p:=cB) rfl l
def aoY:List (Nat×aF):=[(22,Hf),(23,wY),(28,aR),(32,Hf),(33,wY),(37,bI),(40,(.agg (.cons .bool (.ci (.ci .nil))))),(44,aR),(46,(.agg (.cons .bool (.ci (.ci .nil))))),(49,bI),(56,aO),(59,(.int .i64)),(83,BU),(87,BU),(90,bI),(122,(.agg (.cons .str (.ci (.ci .nil))))),(129,bI),(194,bI),(206,jk),(214,(.int .i64)),(235,fx),(141,(.int .i64)),(147,(.int .i64)),(165,(.int .i64)),(187,.bool),(199,.bool),(216,fx),(77,bI),(100,bI)]
def afr:List (Nat×aF)->Nat->Option aF
 |[],_=>none
 |(a,p)::l,t=>bif aca a t then some p else afr l t
def aoZ:List (Nat×aF):=[(56,(.bC 3 1 (.int .i64)))]
def cd:Env:={ env with elp:=afr aoY,elg:=afr aoZ }
def Vp:aeF:={ aoX with toEnv:=cd }
def cx (N:Nat) (NU:List (Nat×bJ)) (Ex:List (Nat×List (Nat×dF))):jj:={ D:=Vp,NU:=Gg NU,Ex:=acE Ex,fz:=false,N:=N }
def c77:List (Nat×dF):=[(26,.loop [] ⟨(.ci .nil),[7],[],[],[],[]⟩ [(.ret,⟨(.ci .nil),[2],[],[],[],[]⟩),(.ex 0,⟨.nil,[],[],[],[],[]⟩)])]
def IQ (N:Nat):ah->Option Int:=(cx N [] [(77,c77)]).fn 1000 77 (.cons aO .nil) (.int .i64)
def e77 (N:Nat):bJ:=⟨(.cons aO .nil),(.int .i64),IQ N⟩
def ER (N:Nat):aK cd 77 (e77 N):=jj.dQ oV
def IR (N:Nat) (a0:List Int) (v1:Int):Option vc:=
 let l2:=(L29 a0); let l1:=(an l2 (toNat v1)); (bif (decide (v1 < (((l2).length:Nat):Int))) then bif (decide ((0:Int)<=v1/\v1 < ((l2).length:Int))&&fits Hh l1) then (bif ((d29 l1) != 0) then (some (aaN (aaS (d29 l1)))) else (some (aaS (wrap .i64 (v1+1))))) else none else (some (aaN (aaN ()))))
def afs (N:Nat) (a0:List Int):IQ N a0 =
 ((ao (IR N a0) N 0).bind λ o6=>(acO (λ o7=>some o7) (λ o8=>some 0) o6)):=by kernel_rfl
def Gh (N:Nat):Bool×Int->Option Int:=(cx N [] []).fn 1000 59 (.cons .bool (.ci .nil)) (.int .i64)
def e59 (N:Nat):bJ:=⟨(.cons .bool (.ci .nil)),(.int .i64),Gh N⟩
def xM (N:Nat):aK cd 59 (e59 N):=jj.dQ oV
def aft (N:Nat) (a0:Bool) (a1:Int):Gh N (a0,a1) =
 (bif a0 then some a1 else some 0):=by kernel_rfl
def c97:List (Nat×dF):=[(6,.join [(.norm,⟨(.ci .nil),[6],[],[],[],[]⟩)])]
def T97 (N:Nat):Int×Int×Int->Option Int:=(cx N [(59,e59 N)] [(97,c97)]).fn 1000 97 (.ci (.ci (.ci .nil))) (.int .i64)
def e97 (N:Nat):bJ:=⟨(.ci (.ci (.ci .nil))),(.int .i64),T97 N⟩
def afu (N:Nat):aK cd 97 (e97 N):=jj.dQ (jw (xM N) oV)
def afv (N:Nat) (a0:Int) (a1:Int) (a2:Int):T97 N (a0,a1,a2) =
 (((bif (decide (a0 < a1)) then (Gh N (true,3)).bind λ y1=>(some y1) else (Gh N ((decide (a0 > a2)),3)).bind λ y2=>(some y2)):Option Int).bind λ o3=>some o3):=by kernel_rfl
def c85:List (Nat×dF):=[(6,.join [(.norm,⟨(.cons .bool .nil),[4],[],[],[],[]⟩)])]
def Oa (N:Nat):dx×cj->Option Bool:=(cx N [] [(85,c85)]).fn 1000 85 (.cons cJ (.cons bI .nil)) .bool
def e85 (N:Nat):bJ:=⟨(.cons cJ (.cons bI .nil)),.bool,Oa N⟩
def Ob (N:Nat):aK cd 85 (e85 N):=jj.dQ oV
def afw (N:Nat) (a0:aP×aG) (a1:Int×Int):Oa N (a0,a1) =
 (let l1:=(cE a0.1); (((bif (decide (a1.1>=0)) then (bif (decide (a1.1 < (((l1).length:Nat):Int))) then (bif (decide (a1.2>=0)) then bif (decide ((0:Int)<=a1.1/\a1.1 < ((l1).length:Int))&&fits fY (an l1 (toNat a1.1))) then (some (decide (a1.2 < ((((zw (d131 (an l1 (toNat a1.1))).2)).length:Nat):Int)))) else none else (some false)) else (some false)) else (some false)):Option Bool).bind λ o1=>some o1)):=by kernel_rfl
def Oc (N:Nat):dx×cj->Option (cj):=(cx N [] []).fn 1000 88 (.cons cJ (.cons bI .nil)) bI
def e88 (N:Nat):bJ:=⟨(.cons cJ (.cons bI .nil)),bI,Oc N⟩
def Od (N:Nat):aK cd 88 (e88 N):=jj.dQ oV
def afx (N:Nat) (a0:aP×aG) (a1:Int×Int):Oc N (a0,a1) =
 (let l3:=(an (cE a0.1) (toNat a1.1)); let l1:=(zw (d131 l3).2); let l2:=(an l1 (toNat a1.2)); bif (decide ((0:Int)<=a1.1/\a1.1 < ((cE a0.1).length:Int))&&fits fY l3) then bif (decide ((0:Int)<=a1.2/\a1.2 < ((l1).length:Int))&&fits EO l2) then some ((d132 l2).1,(d132 l2).2) else none else none):=by kernel_rfl
def tA (N:Nat):dx×cj->Option (wZ):=(cx N [] []).fn 1000 100 (.cons cJ (.cons bI .nil)) jk
def RT (N:Nat):bJ:=⟨(.cons cJ (.cons bI .nil)),jk,tA N⟩
def CX (N:Nat):aK cd 100 (RT N):=jj.dQ oV
def Zu (N:Nat) (a0:aP×aG) (a1:Int×Int):tA N (a0,a1) =
 (let l1:=(an (cE a0.1) (toNat a1.1)); let l2:=((zw (d131 l1).2)); bif (decide ((0:Int)<=a1.1/\a1.1 < ((cE a0.1).length:Int))&&fits fY l1) then bif !(decide (((l2.length:Nat):Int)=0)) then some (a1.1,a1.2,a1.1,(Int.tmod (wrap .i64 (a1.2+1)) ((l2.length:Nat):Int))) else none else none):=by kernel_rfl
def ao0:List (Nat×dF):=[(29,.join [(.norm,⟨(pl [pI,pI,pI,pI]),[],[],[(6,4)],[],[]⟩)])]
def Vq (N:Nat):dx×ms->Option ((Int×Int×Int×Int×Int×Int×Int×Int)):=(cx N [(100,RT N)] [(114,ao0)]).fn 1000 114 (.cons cJ (.cons wY .nil)) (.agg (.ci (.ci (.ci (.ci (.ci (.ci (.ci (.ci .nil)))))))))
def Zv (N:Nat):bJ:=⟨(.cons cJ (.cons wY .nil)),(.agg (.ci (.ci (.ci (.ci (.ci (.ci (.ci (.ci .nil))))))))),Vq N⟩
def P3 (N:Nat):aK cd 114 (Zv N):=jj.dQ (jw (CX N) oV)
def Zw (N:Nat) (a0:aP×aG) (a1:Int×Int×Int×Int×Bool):Vq N (a0,a1) =
 (let l3:=(dc a0.2); let l2:=(cE a0.1); let l1:=((allFit (fits fY) l2&&(allFit (fits ir) l3&&true))&&true); ((bif l1 then some (((map d131 l2),(map d110 l3)),(a1.1,a1.2.1)) else none).bind λ x2=>(tA N x2).bind λ y1=>bif (((a1.2.2.1 == a1.2.2.1)&&((a1.2.2.2.1 == a1.2.2.2.1)&&true))&&((au l2 l2&&(au l3 l3&&true))&&true)) then ((bif l1 then some (((map d131 l2),(map d110 l3)),(a1.2.2.1,a1.2.2.2.1)) else none).bind λ x4=>(tA N x4).bind λ y3=>(((bif (!a1.2.2.2.2) then (some (y3.2.2.1,y3.2.2.2,y3.1,y3.2.1)) else (some (y3.1,y3.2.1,y3.2.2.1,y3.2.2.2))):Option (wZ)).bind λ o5=>some (y1.1,y1.2.1,o5.1,o5.2.1,y1.2.2.1,y1.2.2.2,o5.2.2.1,o5.2.2.2))) else none)):=by kernel_rfl
def c61:List (Nat×dF):=[(58,.loop [(.slot 3,1,3)] ⟨(pl [.own 0 1 (.int .i64),pI]),[3,9],[],[],[.tok 0 1 3],[]⟩ [(.ex 0,⟨(.cons (.own 0 1 (.int .i64)) .nil),[3],[],[],[.tok 0 1 3],[]⟩)])]
def Zx:List (Nat×dF):=[(58,.loop [] ⟨(pl [.own 0 1 (.int .i64),.own 0 1 (.int .i64),pI,aR,aR]),[0,22,24],[],[],[.tok 1 1 3,.bO 2 106,.map],[]⟩ [(.ex 0,⟨(pl [.own 0 1 (.int .i64),.own 0 1 (.int .i64),aR,aR]),[0,22],[],[],[.tok 1 1 3,.bO 2 106,.map],[]⟩)]),
 (122,.loop [] ⟨(pl [.own 0 1 (.int .i64),.own 0 1 (.int .i64),pI,aR,aR]),[0,22,35],[],[],[.tok 1 1 3,.bO 2 106,.map],[]⟩ [(.ex 2,⟨(pl [.own 0 1 (.int .i64),.own 0 1 (.int .i64),aR,aR]),[0,22],[],[],[.tok 1 1 3,.bO 2 106,.map],[]⟩)]),
 (506,.loop [] ⟨(pl [.own 0 1 (.int .i64),.own 0 1 (.int .i64),.own 0 1 (.int .i64),pI,aR,aR,aR]),[0,22,66,68],[],[],[.tok 2 1 3,.bO 2 106,.map,.map],[]⟩ [(.ex 6,⟨(pl [.own 0 1 (.int .i64),.own 0 1 (.int .i64),.own 0 1 (.int .i64),aR,aR,aR]),[0,22,66],[],[],[.tok 2 1 3,.bO 2 106,.map,.map],[]⟩)]),
 (1018,.gw [] ⟨(pl [.own 0 1 (.int .i64),.own 0 1 (.int .i64),.own 0 1 (.int .i64),aR,aR,aR,pI,aO]),[0,22,66],[],[],[.tok 2 1 3,.bO 2 106,.map,.map,.lM 2],[]⟩ [(.ex 8,⟨(pl [.own 0 1 (.int .i64),.own 0 1 (.int .i64),.own 0 1 (.int .i64),aR,aR,aR,pI,aO]),[0,22,66],[],[],[.tok 2 1 3,.bO 2 106,.map,.map,.lM 2],[]⟩)]),
 (8102,.join [(.norm,⟨(pl [.own 0 1 (.int .i64),.own 0 1 (.int .i64),.own 0 1 (.int .i64),aR,aR,aR]),[0,22,66],[],[],[.tok 2 1 3,.bO 2 106,.map,.map],[]⟩)]),
 (62670,.gw [] ⟨(pl [.own 0 1 (.int .i64),.own 0 1 (.int .i64),aR,aR,pI,aO]),[0,22],[],[],[.tok 1 1 3,.bO 2 106,.map,.lM 2],[]⟩ [(.ex 4,⟨(pl [.own 0 1 (.int .i64),.own 0 1 (.int .i64),aR,aR,pI,aO]),[0,22],[],[],[.tok 1 1 3,.bO 2 106,.map,.lM 2],[]⟩)])]
def Zy:List (Nat×dF):=[(58,.loop [] ⟨(pl [.bD (.eK 1 0 0 2 0),pI,aR]),[5,13],[],[],[.kp,.bO 2 106],[]⟩ [(.ex 0,⟨(pl [.bD (.eK 1 0 0 2 0),aR]),[5],[],[],[.kp,.bO 2 106],[]⟩)])]
def ZA:List (Nat×dF):=[(58,.loop [] ⟨(pl [.bD (.eK 6 0 0 1 0),.own 0 1 (.int .i64),pI,aR,aR,aR,pI,aO,.bD (.map 2),aO]),[5,11,13],[],[],[.tok 1 1 3,.bO 2 106,.map,.map,.lM 2,.rw,.bO 1 3],[]⟩ [(.ex 0,⟨(pl [.bD (.eK 6 0 0 1 0),.own 0 1 (.int .i64),aR,aR,aR,pI,aO,.bD (.map 2),aO]),[5,11],[],[],[.tok 1 1 3,.bO 2 106,.map,.map,.lM 2,.rw,.bO 1 3],[]⟩)])]
def T61 (N:Nat):dx->Option (ah):=(cx N [] [(61,c61),(102,Zx),(103,Zy),(105,ZA)]).fn 1000 61 (.cons cJ .nil) aO
def e61 (N:Nat):bJ:=⟨(.cons cJ .nil),aO,T61 N⟩
def Oe (N:Nat):aK cd 61 (e61 N):=jj.dQ oV
def kq1 (x0:(ah)):Option (ah):=
 bif (F3 x0&&true) then some (K3 x0) else none
def ES (N:Nat) (a0:aP×aG) (v1:ah×Int):Option ((ah×Int)⊕(ah)):=
 let l1:=(L3 v1.1); let l2:=(l1++[(aI v1.2)]); (bif (decide (v1.2 < (((cE a0.1).length:Nat):Int))) then bif (decide (((l1).length)=(l1).length)&&decide (((l1).length+1)*8<=140737488355328)) then (((bif (allFit (fits p3) l2&&true) then some ((map d3 l2),(wrap .i64 (v1.2+1))) else none).bind λ w2=>bif (decide ((((l1).length)+1)=(map n3 w2.1).length)&&true) then some w2 else none).bind λ u3=>some (aaS u3)) else none else (((kq1 v1.1).bind λ w4=>bif (decide (((l1).length)=(map n3 w4).length)&&true) then some w4 else none).bind λ u5=>some (aaN u5)))
def kq2 (x0:Int) (x1:List AV) (x2:Bool):Option (Unit×Int×aj):=
 bif ((x2&&x2)&&(allFit (fits xL) x1&&true)) then some ((),x0,(map d106 x1)) else none
def pM (N:Nat) (a0:aP×aG) (o7:ah) (v8:Unit×Int×aj):Option ((Unit×Int×aj)⊕((Unit×aj))):=
 let l6:=(dc a0.2); let l3:=((decide ((L3 o7).length=(L3 o7).length)&&true)&&true); let l2:=(an l6 (toNat v8.2.1)); let l1:=(IP v8.2.2); let l5:=((l1).length); let l4:=(l1++[(AV.agg [(aI (d110 l2).1),(aI (d110 l2).2.2.1)])]); (bif (decide (v8.2.1 < (((l6).length:Nat):Int))) then bif (decide ((0:Int)<=v8.2.1/\v8.2.1 < ((l6).length:Int))&&fits ir l2) then bif (decide (l5=(l1).length)&&decide (0=0)&&decide (l5=l5)&&decide (((l1).length+1)*16<=140737488355328)) then (((kq2 (wrap .i64 (v8.2.1+1)) l4 (aca ((l1).length+1) (l4).length)).bind λ w9=>bif l3 then some w9 else none).bind λ ZB=>some (aaS ZB)) else none else none else (((bif ((aca l5 (l1).length&&aca l5 (l1).length)&&(allFit (fits xL) l1&&true)) then some ((),(map d106 l1)) else none).bind λ ZC=>bif l3 then some ZC else none).bind λ u12=>some (aaN u12)))
def kq3 (x0:ah) (x1:ah) (x2:aj) (x3:aj):Option (ah×ah×aj×aj):=
 bif (F3 x0&&(F3 x1&&(Cr x2&&(allFit (fits cB) (ab (aX x3))&&true)))) then some ((K3 x0),(K3 x1),(vd x2),(map bY (ab (aX x3)))) else none
def pN (N:Nat) (o7:ah) (Mp:ah×ah×Int×aj×aj):Option (PZ⊕((ah×ah×aj×aj))):=
 let l3:=(aX Mp.2.2.2.2); let l2:=(L3 Mp.2.1); let l4:=(an l2 (toNat Mp.2.2.1)); let l1:=(eL .int (aI (d3 l4)) (aI Mp.2.2.1) l3); (bif (decide (Mp.2.2.1 < (((L3 o7).length:Nat):Int))) then bif (decide ((0:Int)<=Mp.2.2.1/\Mp.2.2.1 < ((l2).length:Int))&&fits p3 l4) then bif (bL .int (aI (d3 l4)) l3) then (((bif (F3 Mp.1&&(allFit (fits p3) l2&&(Cr Mp.2.2.2.1&&(allFit (fits cB) (ab l1)&&true)))) then some ((K3 Mp.1),(map d3 l2),(wrap .i64 (Mp.2.2.1+1)),(vd Mp.2.2.2.1),(map bY (ab l1))) else none).bind λ ZD=>bif (decide (((l2).length)=(map n3 ZD.2.1).length)&&(aD l1&&true)) then some ZD else none).bind λ u17=>some (aaS u17)) else none else none else (((kq3 Mp.1 Mp.2.1 Mp.2.2.2.1 Mp.2.2.2.2).bind λ w18=>bif (decide (((l2).length)=(map n3 w18.2.1).length)&&(aD l3&&true)) then some w18 else none).bind λ u19=>some (aaN u19)))
def kq5 (x0:ah) (x1:ah) (x2:aj) (x3:List AV) (x4:Int) (x5:List AV):Option Lc:=
 bif (F3 x0&&(F3 x1&&(Cr x2&&(allFit (fits cB) x3&&(allFit (fits p2) x5&&true))))) then some ((K3 x0),(K3 x1),(vd x2),(map bY x3),x4,(map d2 x5)) else none
def kq4 (x0:ah) (x1:ah) (x2:aj) (x3:aj) (x4:Int) (x5:List AV):Option Lc:=
 bif (F3 x0&&(F3 x1&&(Cr x2&&(allFit (fits cB) (ab (aX x3))&&(allFit (fits p2) x5&&true))))) then some ((K3 x0),(K3 x1),(vd x2),(map bY (ab (aX x3))),x4,(map d2 x5)) else none
def ng (N:Nat) (v22:ah×ah×Int×aj×aj) (k24:Lc->Option (Lc)) (v23:ah×ah×aj×aj×Int×ah):Option (Lc):=
 let cX:=(aX v22.2.2.2.2); let l8:=(L3 v23.2.1).length; let l7:=(d106 (an (IP v22.2.2.2.1) (0+toNat v22.2.2.1))); let l6:=(toNat v23.2.2.2.2.1); let l5:=(dT (L2 v23.2.2.2.2.2)); let l4:=(aX v23.2.2.2.1); let l3:=(d3 (bu .int (aI l7.1) (aI 0) cX)); let l2:=(d3 (bu .int (aI l7.2) (aI 0) cX)); (bif (decide (aaR l4=l6)) then (bif (abk l5) then ((kq4 v23.1 v23.2.1 v23.2.2.1 v23.2.2.2.1 ((l6:Nat):Int) (fw l5)).bind λ XI=>bif (decide (l8=(map n3 XI.2.1).length)&&(aD l4&&true)) then some XI else none) else (KW l5 λ i25=>let cW:=(sM l4 i25); let l9:=(fits p3 cW.1&&fits p3 cW.2); let l1:=(eL .int (aI (d3 cW.1)) (aI (if l2 < l3 then l2 else l3)) l4); bif l9 then bif (decide (aaR l4=l6)&&decide (i25 < l6)&&l9) then (bif ((d3 cW.2) == (if l2 > l3 then l2 else l3)) then bif (bL .int (aI (d3 cW.1)) l4) then (((kq5 v23.1 v23.2.1 v23.2.2.1 (ab l1) ((l6:Nat):Int) (fw (acK l5 i25))).bind λ w27=>bif (decide (l8=(map n3 w27.2.1).length)&&(aD l1&&true)) then some w27 else none).bind k24) else none else (((kq4 v23.1 v23.2.1 v23.2.2.1 v23.2.2.2.1 ((l6:Nat):Int) (fw (acK l5 i25))).bind λ Tk=>bif (decide (l8=(map n3 Tk.2.1).length)&&(aD l4&&true)) then some Tk else none).bind k24)) else none else none)) else none)
def nI (N:Nat) (Cs:(Unit×aj)) (v22:ah×ah×Int×aj×aj):Option (PZ⊕((ah×ah×aj×aj))):=
 let l7:=(L3 v22.2.1).length; let l5:=(IP v22.2.2.2.1); let l4:=(IP Cs.2).length; let l2:=(an l5 (0+toNat v22.2.2.1)); let l1:=(aX v22.2.2.2.2); (bif (decide (v22.2.2.1 < ((l4:Nat):Int))) then bif decide ((0:Int)<=v22.2.2.1/\v22.2.2.1 < ((l4:Nat):Int)) then bif (decide (l4=(l5).length)&&decide ((0+toNat v22.2.2.1) < (l5).length)&&fits xL l2) then bif (bL .int (aI (d106 l2).1) l1&&fits p3 (bu .int (aI (d106 l2).1) (aI 0) l1)) then bif (bL .int (aI (d106 l2).2) l1&&fits p3 (bu .int (aI (d106 l2).2) (aI 0) l1)) then (((kq4 v22.1 v22.2.1 v22.2.2.2.1 v22.2.2.2.2 (((aaR l1):Nat):Int) (fw (aa5 (aaR l1)))).bind λ Tl=>bif (decide (l7=(map n3 Tl.2.1).length)&&(aD l1&&true)) then some Tl else none).bind λ x33=>(gw (ng N v22) N x33).bind λ tC=>let l6:=(L3 tC.2.1); let l3:=(aX tC.2.2.2.1); (((bif (F3 tC.1&&(allFit (fits p3) l6&&(Cr tC.2.2.1&&(allFit (fits cB) (ab l3)&&true)))) then some ((K3 tC.1),(map d3 l6),(wrap .i64 (v22.2.2.1+1)),(vd tC.2.2.1),(map bY (ab l3))) else none).bind λ Tm=>bif (decide (((l6).length)=(map n3 Tm.2.1).length)&&(aD l3&&true)) then some Tm else none).bind λ u32=>some (aaS u32))) else none else none else none else none else (((kq3 v22.1 v22.2.1 v22.2.2.2.1 v22.2.2.2.2).bind λ w34=>bif (decide (l7=(map n3 w34.2.1).length)&&(aD l1&&true)) then some w34 else none).bind λ u35=>some (aaN u35)))
def kq6 (x0:ah) (x1:ah) (x2:ah) (x3:aj) (x4:aj) (x5:List AV):Option PW:=
 bif (F3 x0&&(F3 x1&&(F3 x2&&(Cr x3&&(allFit (fits cB) (ab (aX x4))&&(allFit (fits cB) x5&&true)))))) then some ((K3 x0),(K3 x1),(K3 x2),(vd x3),(map bY (ab (aX x4))),(map bY x5)) else none
def kq7 (x0:ah) (x1:ah) (x2:ah) (x3:aj) (x4:aj) (x5:aj):Option PW:=
 bif (F3 x0&&(F3 x1&&(F3 x2&&(Cr x3&&(allFit (fits cB) (ab (aX x4))&&(allFit (fits cB) (ab (aX x5))&&true)))))) then some ((K3 x0),(K3 x1),(K3 x2),(vd x3),(map bY (ab (aX x4))),(map bY (ab (aX x5)))) else none
def lx (N:Nat) (Gi:(ah×ah×aj×aj)) (IS:ah×ah×ah×Int×aj×aj×aj):Option ((ah×ah×ah×Int×aj×aj×aj)⊕(PW)):=
 let l9:=(kq7 IS.1 IS.2.1 IS.2.2.1 IS.2.2.2.2.1 IS.2.2.2.2.2.1 IS.2.2.2.2.2.2); let l6:=(L3 IS.2.2.1); let l4:=(an l6 (toNat IS.2.2.2.1)); let l3:=(aX IS.2.2.2.2.2.1); let l2:=(aX IS.2.2.2.2.2.2); let eu:=(aD l3&&(aD l2&&true)); let l1:=(bu .int (aI (d3 l4)) (aI 0) l3); let cX:=(bL .int (aI (d3 l4)) l3&&fits p3 l1); let l5:=(aI (d3 l1)); let cW:=(eL .int l5 (aI ((aaR l2:Nat):Int)) l2); (bif (decide (IS.2.2.2.1 < (((L3 Gi.1).length:Nat):Int))) then ((bif (decide ((0:Int)<=IS.2.2.2.1/\IS.2.2.2.1 < ((l6).length:Int))&&fits p3 l4) then bif cX then bif (bL .int l5 l2&&fits p3 (bu .int l5 (aI 0) l2)) then (bif (!(Option.isSome (gO .int l5 l2))) then bif cX then bif (bL .int l5 l2) then ((kq6 IS.1 IS.2.1 IS.2.2.1 IS.2.2.2.2.1 IS.2.2.2.2.2.1 (ab cW)).bind λ w39=>bif (decide (((l6).length)=(map n3 w39.2.2.1).length)&&(aD l3&&(aD cW&&true))) then some w39 else none) else none else none else (l9.bind λ XJ=>bif (decide (((l6).length)=(map n3 XJ.2.2.1).length)&&eu) then some XJ else none)) else none else none else none:Option (PW)).bind λ Vr=>let dV:=(L3 Vr.2.2.1); let l8:=(aX Vr.2.2.2.2.2); let l7:=(aX Vr.2.2.2.2.1); (((bif (F3 Vr.1&&(F3 Vr.2.1&&(allFit (fits p3) dV&&(Cr Vr.2.2.2.1&&(allFit (fits cB) (ab l7)&&(allFit (fits cB) (ab l8)&&true)))))) then some ((K3 Vr.1),(K3 Vr.2.1),(map d3 dV),(wrap .i64 (IS.2.2.2.1+1)),(vd Vr.2.2.2.1),(map bY (ab l7)),(map bY (ab l8))) else none).bind λ w42=>bif (decide (((dV).length)=(map n3 w42.2.2.1).length)&&(aD l7&&(aD l8&&true))) then some w42 else none).bind λ u43=>some (aaS u43))) else ((l9.bind λ Tn=>bif (decide (((l6).length)=(map n3 Tn.2.2.1).length)&&eu) then some Tn else none).bind λ u45=>some (aaN u45)))
def kq8 (x0:ah) (x1:ah) (x2:ah) (x3:aj) (x4:List AV) (x5:aj) (x6:Int) (x7:List AV):Option PU:=
 bif (F3 x0&&(F3 x1&&(F3 x2&&(Cr x3&&(allFit (fits cB) x4&&(allFit (fits cB) (ab (aX x5))&&(allFit (fits p2) x7&&true))))))) then some ((K3 x0),(K3 x1),(K3 x2),(vd x3),(map bY x4),(map bY (ab (aX x5))),x6,(map d2 x7)) else none
def oI (N:Nat) (k49:PU->Option (PU)) (qw:ah×ah×ah×aj×aj×aj×Int×ah):Option (PU):=
 let l7:=(L3 qw.2.2.1); let l5:=(toNat qw.2.2.2.2.2.2.1); let l3:=(dT (L2 qw.2.2.2.2.2.2.2)); let l2:=(aX qw.2.2.2.2.2.1); let l1:=(aX qw.2.2.2.2.1); (bif (decide (aaR l1=l5)) then (bif (abk l3) then ((bif (F3 qw.1&&(F3 qw.2.1&&(allFit (fits p3) l7&&(Cr qw.2.2.2.1&&(allFit (fits cB) (ab l1)&&(allFit (fits cB) (ab l2)&&(allFit (fits p2) (fw l3)&&true))))))) then some ((K3 qw.1),(K3 qw.2.1),(map d3 l7),(vd qw.2.2.2.1),(map bY (ab l1)),(map bY (ab l2)),((l5:Nat):Int),(map d2 (fw l3))) else none).bind λ w51=>bif (decide (((l7).length)=(map n3 w51.2.2.1).length)&&(aD l1&&(aD l2&&true))) then some w51 else none) else (KW l3 λ i50=>let l6:=(sM l1 i50); let l9:=(fits p3 l6.1&&fits p3 l6.2); let l8:=(bu .int (aI (d3 l6.2)) (aI 0) l2); let l4:=(eL .int (aI (d3 l6.1)) (aI (d3 l8)) l1); bif l9 then bif (decide (aaR l1=l5)&&decide (i50 < l5)&&l9) then bif (bL .int (aI (d3 l6.2)) l2&&fits p3 l8) then bif (bL .int (aI (d3 l6.1)) l1) then (((kq8 qw.1 qw.2.1 qw.2.2.1 qw.2.2.2.1 (ab l4) qw.2.2.2.2.2.1 ((l5:Nat):Int) (fw (acK l3 i50))).bind λ XL=>bif (decide (((l7).length)=(map n3 XL.2.2.1).length)&&(aD l4&&(aD l2&&true))) then some XL else none).bind k49) else none else none else none else none)) else none)
def kq9 (x0:ah) (x1:Int) (x2:aj) (x3:aj) (x4:aj) (x5:Int) (x6:List AV) (x7:List AV) (x8:Bool):Option Vh:=
 bif ((x8&&x8)&&(F3 x0&&(Cr x2&&(allFit (fits cB) (ab (aX x3))&&(allFit (fits cB) (ab (aX x4))&&(allFit (fits p2) x6&&(allFit (fits p3) x7&&true))))))) then some ((),(K3 x0),x1,(vd x2),(map bY (ab (aX x3))),(map bY (ab (aX x4))),x5,(map d2 x6),(),(map d3 x7)) else none
def mJ (N:Nat) (o7:ah) (Li:Unit×ah×Int×aj×aj×aj×Int×ah×Unit×ah):Option (Vh⊕((Unit×ah×aj×aj×aj×Int×ah×Unit×ah))):=
 let cX:=(toNat Li.2.2.2.2.2.2.1); let l6:=(fw (dT (L2 Li.2.2.2.2.2.2.2.1))); let l5:=(aX Li.2.2.2.2.2.1); let l4:=(L3 Li.2.1); let l7:=(an l4 (toNat Li.2.2.1)); let l3:=(aX Li.2.2.2.2.1); let cW:=(aD l3&&(aD l5&&true)); let l2:=(bu .int (aI (d3 l7)) (aI 0) l3); let l1:=(L3 Li.2.2.2.2.2.2.2.2.2); let l9:=(l1++[(aI (d3 l2))]); let l8:=((l1).length); (bif (decide (Li.2.2.1 < (((L3 o7).length:Nat):Int))) then bif (decide ((0:Int)<=Li.2.2.1/\Li.2.2.1 < ((l4).length:Int))&&fits p3 l7) then bif (bL .int (aI (d3 l7)) l3&&fits p3 l2) then bif (decide (l8=(l1).length)&&decide (0=0)&&decide (l8=l8)&&decide (((l1).length+1)*8<=140737488355328)) then (((kq9 Li.2.1 (wrap .i64 (Li.2.2.1+1)) Li.2.2.2.1 Li.2.2.2.2.1 Li.2.2.2.2.2.1 ((cX:Nat):Int) l6 l9 (aca ((l1).length+1) (l9).length)).bind λ XM=>bif (decide (((l4).length)=(map n3 XM.2.1).length)&&cW) then some XM else none).bind λ u57=>some (aaS u57)) else none else none else none else (((bif ((aca l8 (l1).length&&aca l8 (l1).length)&&(allFit (fits p3) l4&&(Cr Li.2.2.2.1&&(allFit (fits cB) (ab l3)&&(allFit (fits cB) (ab l5)&&(allFit (fits p2) l6&&(allFit (fits p3) l1&&true))))))) then some ((),(map d3 l4),(vd Li.2.2.2.1),(map bY (ab l3)),(map bY (ab l5)),((cX:Nat):Int),(map d2 l6),(),(map d3 l1)) else none).bind λ w58=>bif (decide (((l4).length)=(map n3 w58.2.1).length)&&cW) then some w58 else none).bind λ u59=>some (aaN u59)))
def afA (N:Nat) (a0:aP×aG):T61 N a0 =
 (let mu:=(dc a0.2); let fa:=(toNat 0); let eu:=(fits xL); let l7:=(fits cB); let l6:=(fits p3); let l5:=(ady fa (aI 0)); let l1:=(ady fa (AV.agg [(aI 0),(aI 0)])); (((bif (allFit l6 ([]:List AV)&&true) then some ((map d3 ([]:List AV)),0) else none:Option (ah×Int)).bind λ w6=>bif (decide (0=(map n3 w6.1).length)&&true) then some w6 else none).bind λ x68=>(ao (ES N a0) N x68).bind λ o7=>let l4:=(L3 o7); let uf:=(map d3 l4); bif decide ((0:Int)<=0/\0<=((mu.length:Nat):Int)/\((mu.length:Nat):Int)<=140737488355328/\((mu.length:Nat):Int)*16<=140737488355328) then (((bif ((aca fa (l1).length&&aca fa (l1).length)&&(allFit eu l1&&true)) then some ((),0,(map d106 l1)) else none:Option (Unit×Int×aj)).bind λ ZE=>bif ((decide (((l4).length)=((l4).length))&&true)&&true) then some ZE else none).bind λ x67=>(ao (pM N a0 o7) N x67).bind λ Cs=>(((bif (allFit l6 l4&&(allFit l6 l4&&(allFit eu (IP Cs.2)&&(allFit l7 (ab ([]:List (AV×AV)))&&true)))) then some (uf,uf,0,(vd Cs.2),(map bY (ab ([]:List (AV×AV))))) else none:Option PZ).bind λ w20=>bif (decide (((l4).length)=(map n3 w20.2.1).length)&&(aD ([]:List (AV×AV))&&true)) then some w20 else none).bind λ x66=>(ao (pN N o7) N x66).bind λ o21=>let lN:=(L3 o21.2.1); let cX:=(aX o21.2.2.2); (((bif (allFit l6 (L3 o21.1)&&(allFit l6 lN&&(allFit eu (IP o21.2.2.1)&&(allFit l7 (ab cX)&&true)))) then some ((K3 o21.1),(map d3 lN),0,(vd o21.2.2.1),(map bY (ab cX))) else none:Option PZ).bind λ XN=>bif (decide (((lN).length)=(map n3 XN.2.1).length)&&(aD cX&&true)) then some XN else none).bind λ x65=>(ao (nI N Cs) N x65).bind λ Gi=>let lY:=(L3 Gi.2.1); let fL:=(L3 Gi.1); let dV:=(aX Gi.2.2.2); (((bif (allFit l6 fL&&(allFit l6 lY&&(allFit l6 fL&&(allFit eu (IP Gi.2.2.1)&&(allFit l7 (ab dV)&&(allFit l7 (ab ([]:List (AV×AV)))&&true)))))) then some ((map d3 fL),(map d3 lY),(map d3 fL),0,(vd Gi.2.2.1),(map bY (ab dV)),(map bY (ab ([]:List (AV×AV))))) else none:Option (ah×ah×ah×Int×aj×aj×aj)).bind λ To=>bif (decide (((lY).length)=(map n3 To.2.2.1).length)&&(aD dV&&(aD ([]:List (AV×AV))&&true))) then some To else none).bind λ x64=>(ao (lx N Gi) N x64).bind λ Hi=>let hJ:=(L3 Hi.2.2.1); let l9:=(aX Hi.2.2.2.2.2); let l2:=(aX Hi.2.2.2.2.1); let rE:=(fw (aa5 (aaR l2))); (((bif (allFit l6 (L3 Hi.1)&&(allFit l6 (L3 Hi.2.1)&&(allFit l6 hJ&&(allFit eu (IP Hi.2.2.2.1)&&(allFit l7 (ab l2)&&(allFit l7 (ab l9)&&(allFit (fits p2) rE&&true))))))) then some ((K3 Hi.1),(K3 Hi.2.1),(map d3 hJ),(vd Hi.2.2.2.1),(map bY (ab l2)),(map bY (ab l9)),(((aaR l2):Nat):Int),(map d2 rE)) else none).bind λ w53=>bif (decide (((hJ).length)=(map n3 w53.2.2.1).length)&&(aD l2&&(aD l9&&true))) then some w53 else none).bind λ x63=>(gw (oI N) N x63).bind λ Vs=>let j1:=Vs.2.2.2; let fZ:=(fw (dT (L2 j1.2.2.2.2))); let cW:=(aX j1.2.1); let l8:=(aX j1.2.2.1); bif decide ((0:Int)<=0/\0<=(((l4).length:Nat):Int)/\(((l4).length:Nat):Int)<=140737488355328/\(((l4).length:Nat):Int)*8<=140737488355328) then (((bif ((aca fa (l5).length&&aca fa (l5).length)&&(allFit l6 l4&&(allFit eu (IP j1.1)&&(allFit l7 (ab cW)&&(allFit l7 (ab l8)&&(allFit (fits p2) fZ&&(allFit l6 l5&&true))))))) then some ((),uf,0,(vd j1.1),(map bY (ab cW)),(map bY (ab l8)),(((toNat j1.2.2.2.1):Nat):Int),(map d2 fZ),(),(map d3 l5)) else none:Option Vh).bind λ w60=>bif (decide ((L3 Vs.2.2.1).length=(map n3 w60.2.1).length)&&(aD cW&&(aD l8&&true))) then some w60 else none).bind λ x62=>(ao (mJ N o7) N x62).bind λ o61=>let l3:=(L3 o61.2.2.2.2.2.2.2.2); (bif ((decide (((l3).length)=(l3).length)&&decide (((l3).length)=(l3).length)&&aZ l3)&&true) then (bif allFit l6 l3 then some (map d3 l3) else none) else none)) else none))))) else none)):=by kernel_rfl
def c70:List (Nat×dF):=[(58,.loop [(.slot 3,4,189)] ⟨(pl [.own 0 4 jk,pI]),[3,10],[],[],[.tok 0 4 189],[]⟩ [(.ex 0,⟨(.cons (.own 0 4 jk) .nil),[3],[],[],[.tok 0 4 189],[]⟩)])]
def P4:List (Nat×dF):=[(58,.loop [] ⟨(pl [.own 5 2 bI,.own 0 4 jk,.own 5 2 bI,pI,cp,cm,.own 5 2 bI,bF]),[0,1,22,24],[],[],[.tok 1 4 189,.row 2,.rw,.kp,.dead,.tok 2 2 100,.map],[]⟩ [(.ex 0,⟨(pl [.own 5 2 bI,.own 0 4 jk,.own 5 2 bI,cp,cm,.own 5 2 bI,bF]),[0,1,22],[],[],[.tok 1 4 189,.row 2,.rw,.kp,.dead,.tok 2 2 100,.map],[]⟩)]),
 (122,.loop [] ⟨(pl [.own 5 2 bI,.own 0 4 jk,.own 5 2 bI,.own 0 4 jk,pI,cp,cm,.own 5 2 bI,bF]),[0,1,22,33,35],[],[],[.tok 3 4 189,.row 2,.rw,.kp,.dead,.tok 2 2 100,.map],[]⟩ [(.ex 2,⟨(pl [.own 5 2 bI,.own 0 4 jk,.own 5 2 bI,.own 0 4 jk,cp,cm,.own 5 2 bI,bF]),[0,1,22,33],[],[],[.tok 3 4 189,.row 2,.rw,.kp,.dead,.tok 2 2 100,.map],[]⟩)]),
 (506,.loop [] ⟨(pl [.own 5 2 bI,.own 0 4 jk,.own 5 2 bI,.own 0 4 jk,.own 5 2 bI,pI,cp,cm,.own 5 2 bI,bF,aR]),[0,1,22,33,66,68],[],[],[.tok 3 4 189,.row 2,.rw,.kp,.dead,.tok 4 2 100,.map,.map],[]⟩ [(.ex 6,⟨(pl [.own 5 2 bI,.own 0 4 jk,.own 5 2 bI,.own 0 4 jk,.own 5 2 bI,cp,cm,.own 5 2 bI,bF,aR]),[0,1,22,33,66],[],[],[.tok 3 4 189,.row 2,.rw,.kp,.dead,.tok 4 2 100,.map,.map],[]⟩)]),
 (1018,.gw [] ⟨(pl [.own 5 2 bI,.own 0 4 jk,.own 5 2 bI,.own 0 4 jk,.own 5 2 bI,cp,cm,.own 5 2 bI,bF,aR,pI,aO]),[0,1,22,33,66],[],[],[.tok 3 4 189,.row 2,.rw,.kp,.dead,.tok 4 2 100,.map,.map,.lM 6],[]⟩ [(.ex 8,⟨(pl [.own 5 2 bI,.own 0 4 jk,.own 5 2 bI,.own 0 4 jk,.own 5 2 bI,cp,cm,.own 5 2 bI,bF,aR,pI,aO]),[0,1,22,33,66],[],[],[.tok 3 4 189,.row 2,.rw,.kp,.dead,.tok 4 2 100,.map,.map,.lM 6],[]⟩)]),
 (8102,.join [(.norm,⟨(pl [.own 5 2 bI,.own 0 4 jk,.own 5 2 bI,.own 0 4 jk,.own 5 2 bI,cp,cm,.own 5 2 bI,bF,aR]),[0,1,22,33,66],[],[],[.tok 3 4 189,.row 2,.rw,.kp,.dead,.tok 4 2 100,.map,.map],[]⟩)]),
 (62670,.gw [] ⟨(pl [.own 5 2 bI,.own 0 4 jk,.own 5 2 bI,.own 0 4 jk,cp,cm,.own 5 2 bI,bF,pI,aO]),[0,1,22,33],[],[],[.tok 3 4 189,.row 2,.rw,.kp,.dead,.tok 2 2 100,.map,.lM 6],[]⟩ [(.ex 4,⟨(pl [.own 5 2 bI,.own 0 4 jk,.own 5 2 bI,.own 0 4 jk,cp,cm,.own 5 2 bI,bF,pI,aO]),[0,1,22,33],[],[],[.tok 3 4 189,.row 2,.rw,.kp,.dead,.tok 2 2 100,.map,.lM 6],[]⟩)])]
def P5:List (Nat×dF):=[(6,.loop [(.row 2 0,2,100)] ⟨(pl [pI,cp,cm,.own 5 2 bI]),[8],[],[],[.kp,.row 2,.rw,.kp,.lp .open_,.tok 3 2 100],[]⟩ [(.ex 0,⟨(pl [cp,cm,.own 5 2 bI]),[],[],[],[.kp,.row 2,.rw,.kp,.lp .open_,.tok 2 2 100],[]⟩)]),
 (1638,.loop [] ⟨(pl [pI,cp,cm,.own 5 2 bI]),[18],[],[],[.kp,.row 2,.rw,.kp,.lp .open_,.tok 3 2 100],[]⟩ [(.ex 2,⟨(pl [cp,cm,.own 5 2 bI]),[],[],[],[.kp,.row 2,.rw,.kp,.lp .open_,.tok 2 2 100],[]⟩)])]
def o70:List RF:=[⟨false,[.map (.agg (.cons bI (.ci .nil)))]⟩]
def RU (N:Nat):dx->Option (bw):=(cx N [(114,Zv N)] [(70,c70),(115,P4),(117,P5)]).fnX 1000 70 (.cons cJ .nil) o70
def Vt (N:Nat):∀ x y,RU N x=some y->tj cd 70 (a6.enc (.cons cJ .nil) x) o70 (λ z=>z=y):=by
 refine jj.U4 (C:=(cx N [(114,Zv N)] [(70,c70),(115,P4),(117,P5)])) (n:=1000) (g:=70) (ps:=(.cons cJ .nil)) (outs:=o70) ?_ ?_ ?_
 .exact (jw (P3 N) oV)
 .kernel_rfl
 .kernel_rfl
def x70 (N:Nat):ob cd 70:=⟨(.cons cJ .nil),o70,RU N,Vt N⟩
def afD (x0:aP) (x1:aG) (x2:Int) (x3:Int) (x4:Int) (x5:Int) (x6:Bool):Option (dx×ms):=
 bif ((mI x0&&(nH x1&&true))&&true) then some (((jH x0),(j8 x1)),(x2,x3,x4,x5,x6)) else none
def afE (x0:List AV) (x1:Int):Option (da×Int):=
 bif (allFit (fits tv) x0&&true) then some ((map d189 x0),x1) else none
def ET (N:Nat) (a0:aP×aG) (v1:da×Int):Option ((da×Int)⊕((da))):=
 let l3:=(dc a0.2); let l2:=(rW v1.1); let l1:=(an l3 (toNat v1.2)); (bif (decide (v1.2 < (((l3).length:Nat):Int))) then bif (decide ((0:Int)<=v1.2/\v1.2 < ((l3).length:Int))&&fits ir l1) then ((afD a0.1 a0.2 ((d110 l1).1) ((d110 l1).2.1) ((d110 l1).2.2.1) ((d110 l1).2.2.2.1) ((d110 l1).2.2.2.2)).bind λ x3=>(Vq N x3).bind λ y2=>bif (decide (((l2).length)=(l2).length)&&decide (((l2).length+2)*32<=140737488355328)) then (((afE (l2++[(AV.agg [(aI y2.1),(aI y2.2.1),(aI y2.2.2.1),(aI y2.2.2.2.1)]),(AV.agg [(aI y2.2.2.2.2.1),(aI y2.2.2.2.2.2.1),(aI y2.2.2.2.2.2.2.1),(aI y2.2.2.2.2.2.2.2)])]) (wrap .i64 (v1.2+1))).bind λ w4=>bif (decide ((((l2).length)+2)=(map n189 w4.1).length)&&true) then some w4 else none).bind λ u5=>some (aaS u5)) else none) else none else (((bif (allFit (fits tv) l2&&true) then some (map d189 l2) else none).bind λ w6=>bif (decide (((l2).length)=(map n189 w6).length)&&true) then some w6 else none).bind λ u7=>some (aaN u7)))
def RV (x0:aP) (x1:aG) (x2:aj):Option (aP×aG×aj):=
 bif (mI x0&&(nH x1&&(oH x2&&true))) then some ((jH x0),(j8 x1),(ko x2)) else none
def lZ (N:Nat) (o9:(da)) (v10:Int×aP×aG×aj) (v11:Int×aP×aG×aj):Option ((Int×aP×aG×aj)⊕((aP×aG×aj))):=
 let l4:=(rW o9).length; let l2:=(decide (l4=l4)&&true); let l1:=(jx v11.2.2.2); let l3:=(l1++[(AV.agg [(aI v10.1),(aI v11.1)])]); (bif (decide (v11.1 < ((((zw (d131 (an (map n131 v10.2.1) (toNat v10.1))).2)).length:Nat):Int))) then bif (decide (((l1).length)=(l1).length)&&decide (((l1).length+1)*16<=140737488355328)) then (((bif (mI v11.2.1&&(nH v11.2.2.1&&(allFit (fits nG) l3&&true))) then some ((wrap .i64 (v11.1+1)),(jH v11.2.1),(j8 v11.2.2.1),(map d100 l3)) else none).bind λ Of=>bif (l2&&(decide ((((l1).length)+1)=(map n100 Of.2.2.2).length)&&true)) then some Of else none).bind λ u13=>some (aaS u13)) else none else (((RV v11.2.1 v11.2.2.1 v11.2.2.2).bind λ ZF=>bif (l2&&(decide (((l1).length)=(map n100 ZF.2.2).length)&&true)) then some ZF else none).bind λ u15=>some (aaN u15)))
def ZG (x0:Int) (x1:aP) (x2:aG) (x3:aj):Option (Int×aP×aG×aj):=
 bif (mI x1&&(nH x2&&(oH x3&&true))) then some (x0,(jH x1),(j8 x2),(ko x3)) else none
def rX (N:Nat) (a0:aP×aG) (o9:(da)) (v10:Int×aP×aG×aj):Option ((Int×aP×aG×aj)⊕((aP×aG×aj))):=
 let l3:=(rW o9).length; let l2:=(jx v10.2.2.2).length; let l1:=(decide (l3=l3)&&true); (bif (decide (v10.1 < (((cE a0.1).length:Nat):Int))) then bif (decide ((0:Int)<=v10.1/\v10.1 < ((cE v10.2.1).length:Int))&&fits fY (an (cE v10.2.1) (toNat v10.1))) then (((ZG 0 v10.2.1 v10.2.2.1 v10.2.2.2).bind λ ZD=>bif (l1&&(decide (l2=(map n100 ZD.2.2.2).length)&&true)) then some ZD else none).bind λ x20=>(ao (lZ N o9 v10) N x20).bind λ o17=>(((ZG (wrap .i64 (v10.1+1)) o17.1 o17.2.1 o17.2.2).bind λ w18=>bif (l1&&(decide ((jx o17.2.2).length=(map n100 w18.2.2.2).length)&&true)) then some w18 else none).bind λ u19=>some (aaS u19))) else none else (((RV v10.2.1 v10.2.2.1 v10.2.2.2).bind λ XO=>bif (l1&&(decide (l2=(map n100 XO.2.2).length)&&true)) then some XO else none).bind λ u22=>some (aaN u22)))
def afG (x0:aj) (x1:da) (x2:aj) (x3:Int) (x4:aP) (x5:aG) (x6:aj) (x7:List AV):Option (aj×da×aj×Int×aP×aG×aj×bw):=
 bif (oH x0&&(A6 x1&&(oH x2&&(mI x4&&(nH x5&&(oH x6&&(allFit (fits cO) x7&&true))))))) then some ((ko x0),(vf x1),(ko x2),x3,(jH x4),(j8 x5),(ko x6),(map cH x7)) else none
def pO (N:Nat) (yj:(aP×aG×aj)) (v25:aj×da×aj×Int×aP×aG×aj×bw):Option ((aj×da×aj×Int×aP×aG×aj×bw)⊕((aj×da×aj×aP×aG×aj×bw))):=
 let l9:=(cE v25.2.2.2.2.1); let l8:=(dc v25.2.2.2.2.2.1); let l7:=(jx v25.2.2.2.2.2.2.1); let l6:=(rW v25.2.1); let l3:=(jx v25.2.2.1); let l5:=(an l3 (toNat v25.2.2.2.1)); let l2:=(bg v25.2.2.2.2.2.2.2); let l1:=(AV.agg [(aI (d100 l5).1),(aI (d100 l5).2)]); let l4:=(eL qv l1 (aI v25.2.2.2.1) l2); (bif (decide (v25.2.2.2.1 < (((jx yj.2.2).length:Nat):Int))) then bif (decide ((0:Int)<=v25.2.2.2.1/\v25.2.2.2.1 < ((l3).length:Int))&&fits nG l5) then bif (bL qv l1 l2) then (((afG v25.1 v25.2.1 v25.2.2.1 (wrap .i64 (v25.2.2.2.1+1)) v25.2.2.2.2.1 v25.2.2.2.2.2.1 v25.2.2.2.2.2.2.1 (ab l4)).bind λ XI=>bif (decide (((l6).length)=(map n189 XI.2.1).length)&&(decide (((l3).length)=(map n100 XI.2.2.1).length)&&(aD l4&&true))) then some XI else none).bind λ u27=>some (aaS u27)) else none else none else (((bif (oH v25.1&&(allFit (fits tv) l6&&(allFit (fits nG) l3&&(allFit (fits fY) l9&&(allFit (fits ir) l8&&(allFit (fits nG) l7&&(allFit (fits cO) (ab l2)&&true))))))) then some ((ko v25.1),(map d189 l6),(map d100 l3),(map d131 l9),(map d110 l8),(map d100 l7),(map cH (ab l2))) else none).bind λ Tk=>bif (decide (((l6).length)=(map n189 Tk.2.1).length)&&(decide (((l3).length)=(map n100 Tk.2.2.1).length)&&(aD l2&&true))) then some Tk else none).bind λ u29=>some (aaN u29)))
def afH (x0:aj) (x1:da) (x2:aj) (x3:da) (x4:aP) (x5:aG) (x6:aj) (x7:List AV) (x8:Int) (x9:List AV):Option K8:=
 bif (oH x0&&(A6 x1&&(oH x2&&(A6 x3&&(mI x4&&(nH x5&&(oH x6&&(allFit (fits cO) x7&&(allFit (fits p2) x9&&true))))))))) then some ((ko x0),(vf x1),(ko x2),(vf x3),(jH x4),(j8 x5),(ko x6),(map cH x7),x8,(map d2 x9)) else none
def Og (x0:aj) (x1:da) (x2:aj) (x3:da) (x4:aP) (x5:aG) (x6:aj) (x7:bw) (x8:Int) (x9:List AV):Option K8:=
 bif (oH x0&&(A6 x1&&(oH x2&&(A6 x3&&(mI x4&&(nH x5&&(oH x6&&(allFit (fits cO) (ab (bg x7))&&(allFit (fits p2) x9&&true))))))))) then some ((ko x0),(vf x1),(ko x2),(vf x3),(jH x4),(j8 x5),(ko x6),(map cH (ab (bg x7))),x8,(map d2 x9)) else none
def nh (N:Nat) (rb:aj×da×aj×da×Int×aP×aG×aj×bw) (k34:K8->Option (K8)) (mK:aj×da×aj×da×aP×aG×aj×bw×Int×ah):Option (K8):=
 let dV:=(bg rb.2.2.2.2.2.2.2.2); let cW:=(jx mK.2.2.1).length; let l9:=(rW mK.2.2.2.1).length; let l7:=(toNat mK.2.2.2.2.2.2.2.2.1); let l6:=(dT (L2 mK.2.2.2.2.2.2.2.2.2)); let l5:=(d189 (an (rW rb.2.2.2.1) (toNat rb.2.2.2.2.1))); let l4:=(bg mK.2.2.2.2.2.2.2.1); let l3:=(d3 (bu qv (AV.agg [(aI l5.1),(aI l5.2.1)]) (aI 0) dV)); let l2:=(d3 (bu qv (AV.agg [(aI l5.2.2.1),(aI l5.2.2.2)]) (aI 0) dV)); (bif (decide (aaR l4=l7)) then (bif (abk l6) then ((Og mK.1 mK.2.1 mK.2.2.1 mK.2.2.2.1 mK.2.2.2.2.1 mK.2.2.2.2.2.1 mK.2.2.2.2.2.2.1 mK.2.2.2.2.2.2.2.1 ((l7:Nat):Int) (fw l6)).bind λ XN=>bif (decide (l9=(map n189 XN.2.2.2.1).length)&&(decide (cW=(map n100 XN.2.2.1).length)&&(aD l4&&true))) then some XN else none) else (KW l6 λ i35=>let eu:=(sM l4 i35); let cX:=(fits nG eu.1&&fits p3 eu.2); let l8:=(AV.agg [(aI (d100 eu.1).1),(aI (d100 eu.1).2)]); let l1:=(eL qv l8 (aI (if l2 < l3 then l2 else l3)) l4); bif cX then bif (decide (aaR l4=l7)&&decide (i35 < l7)&&cX) then (bif ((d3 eu.2) == (if l2 > l3 then l2 else l3)) then bif (bL qv l8 l4) then (((afH mK.1 mK.2.1 mK.2.2.1 mK.2.2.2.1 mK.2.2.2.2.1 mK.2.2.2.2.2.1 mK.2.2.2.2.2.2.1 (ab l1) ((l7:Nat):Int) (fw (acK l6 i35))).bind λ RW=>bif (decide (l9=(map n189 RW.2.2.2.1).length)&&(decide (cW=(map n100 RW.2.2.1).length)&&(aD l1&&true))) then some RW else none).bind k34) else none else (((Og mK.1 mK.2.1 mK.2.2.1 mK.2.2.2.1 mK.2.2.2.2.1 mK.2.2.2.2.2.1 mK.2.2.2.2.2.2.1 mK.2.2.2.2.2.2.2.1 ((l7:Nat):Int) (fw (acK l6 i35))).bind λ Lj=>bif (decide (l9=(map n189 Lj.2.2.2.1).length)&&(decide (cW=(map n100 Lj.2.2.1).length)&&(aD l4&&true))) then some Lj else none).bind k34)) else none else none)) else none)
def nJ (N:Nat) (o31:(aj×da×aj×aP×aG×aj×bw)) (rb:aj×da×aj×da×Int×aP×aG×aj×bw):Option ((aj×da×aj×da×Int×aP×aG×aj×bw)⊕((aj×da×aj×da×aP×aG×aj×bw))):=
 let mu:=fj; let fZ:=(cE rb.2.2.2.2.2.1); let fa:=(dc rb.2.2.2.2.2.2.1); let dV:=(jx rb.2.2.2.2.2.2.2.1); let cX:=(fits tv); let l8:=(fits nG); let l6:=(jx rb.2.2.1); let l3:=(rW rb.2.2.2.1); let l2:=(bg rb.2.2.2.2.2.2.2.2); let l1:=(an l3 (toNat rb.2.2.2.2.1)); let l7:=(AV.agg [(aI (d189 l1).1),(aI (d189 l1).2.1)]); let l5:=(AV.agg [(aI (d189 l1).2.2.1),(aI (d189 l1).2.2.2)]); (bif (decide (rb.2.2.2.2.1 < (((rW o31.2.1).length:Nat):Int))) then bif (decide ((0:Int)<=rb.2.2.2.2.1/\rb.2.2.2.2.1 < ((l3).length:Int))&&fits tv l1) then bif (bL qv l7 l2&&fits p3 (bu qv l7 (aI 0) l2)) then bif (bL qv l5 l2&&fits p3 (bu qv l5 (aI 0) l2)) then (((Og rb.1 rb.2.1 rb.2.2.1 rb.2.2.2.1 rb.2.2.2.2.2.1 rb.2.2.2.2.2.2.1 rb.2.2.2.2.2.2.2.1 rb.2.2.2.2.2.2.2.2 (((aaR l2):Nat):Int) (fw (aa5 (aaR l2)))).bind λ w39=>bif (decide (((l3).length)=(map n189 w39.2.2.2.1).length)&&(decide (((l6).length)=(map n100 w39.2.2.1).length)&&(aD l2&&true))) then some w39 else none).bind λ x43=>(gw (nh N rb) N x43).bind λ P6=>let j1:=P6.2.2.2; let hJ:=(cE j1.2.1); let fL:=(dc j1.2.2.1); let eu:=(jx j1.2.2.2.1); let cW:=(jx P6.2.2.1); let l9:=(rW j1.1); let l4:=(bg j1.2.2.2.2.1); (((bif (allFit l8 (jx P6.1)&&(allFit cX (rW P6.2.1)&&(allFit l8 cW&&(allFit cX l9&&(allFit (fits fY) hJ&&(allFit (fits ir) fL&&(allFit l8 eu&&(allFit (fits cO) (ab l4)&&true)))))))) then some ((ko P6.1),(vf P6.2.1),(map d100 cW),(map d189 l9),(wrap .i64 (rb.2.2.2.2.1+1)),(map d131 hJ),(map d110 fL),(map d100 eu),(map cH (ab l4))) else none).bind λ Vu=>bif (decide (((l9).length)=(map n189 Vu.2.2.2.1).length)&&(decide (((cW).length)=(map n100 Vu.2.2.1).length)&&(aD l4&&true))) then some Vu else none).bind λ u42=>some (aaS u42))) else none else none else none else (((bif (allFit l8 (jx rb.1)&&(allFit cX (rW rb.2.1)&&(allFit l8 l6&&(allFit cX l3&&(allFit (fits fY) fZ&&(allFit (fits ir) fa&&(allFit l8 dV&&(allFit (fits cO) (ab l2)&&true)))))))) then some ((ko rb.1),(vf rb.2.1),(map d100 l6),(map d189 l3),(map d131 fZ),(map d110 fa),(map d100 dV),(map cH (ab l2))) else none).bind λ Tn=>bif (decide (((l3).length)=(map n189 Tn.2.2.2.1).length)&&(decide (((l6).length)=(map n100 Tn.2.2.1).length)&&(aD l2&&true))) then some Tn else none).bind λ u45=>some (aaN u45)))
def ZH (x0:aj) (x1:da) (x2:aj) (x3:da) (x4:aj) (x5:aP) (x6:aG) (x7:aj) (x8:bw) (x9:List AV):Option PS:=
 bif (oH x0&&(A6 x1&&(oH x2&&(A6 x3&&(oH x4&&(mI x5&&(nH x6&&(oH x7&&(allFit (fits cO) (ab (bg x8))&&(allFit (fits cB) x9&&true)))))))))) then some ((ko x0),(vf x1),(ko x2),(vf x3),(ko x4),(jH x5),(j8 x6),(ko x7),(map cH (ab (bg x8))),(map bY x9)) else none
def ZI (x0:aj) (x1:da) (x2:aj) (x3:da) (x4:aj) (x5:aP) (x6:aG) (x7:aj) (x8:bw) (x9:aj):Option PS:=
 bif (oH x0&&(A6 x1&&(oH x2&&(A6 x3&&(oH x4&&(mI x5&&(nH x6&&(oH x7&&(allFit (fits cO) (ab (bg x8))&&(allFit (fits cB) (ab (aX x9))&&true)))))))))) then some ((ko x0),(vf x1),(ko x2),(vf x3),(ko x4),(jH x5),(j8 x6),(ko x7),(map cH (ab (bg x8))),(map bY (ab (aX x9)))) else none
def ly (N:Nat) (Hi:(aj×da×aj×da×aP×aG×aj×bw)) (qw:aj×da×aj×da×aj×Int×aP×aG×aj×bw×aj):Option ((aj×da×aj×da×aj×Int×aP×aG×aj×bw×aj)⊕(PS)):=
 let fZ:=(fits nG); let cX:=(rW qw.2.2.2.1).length; let l6:=(jx qw.2.2.2.2.1); let dV:=(an l6 (toNat qw.2.2.2.2.2.1)); let l5:=(ZI qw.1 qw.2.1 qw.2.2.1 qw.2.2.2.1 qw.2.2.2.2.1 qw.2.2.2.2.2.2.1 qw.2.2.2.2.2.2.2.1 qw.2.2.2.2.2.2.2.2.1 qw.2.2.2.2.2.2.2.2.2.1 qw.2.2.2.2.2.2.2.2.2.2); let l4:=(bg qw.2.2.2.2.2.2.2.2.2.1); let l3:=(AV.agg [(aI (d100 dV).1),(aI (d100 dV).2)]); let l2:=(aX qw.2.2.2.2.2.2.2.2.2.2); let lY:=(aD l4&&(aD l2&&true)); let l1:=(bu qv l3 (aI 0) l4); let cW:=(bL qv l3 l4&&fits p3 l1); let l9:=(aI (d3 l1)); let eu:=(eL .int l9 (aI ((aaR l2:Nat):Int)) l2); (bif (decide (qw.2.2.2.2.2.1 < (((jx Hi.1).length:Nat):Int))) then ((bif (decide ((0:Int)<=qw.2.2.2.2.2.1/\qw.2.2.2.2.2.1 < ((l6).length:Int))&&fits nG dV) then bif cW then bif (bL .int l9 l2&&fits p3 (bu .int l9 (aI 0) l2)) then (bif (!(Option.isSome (gO .int l9 l2))) then bif cW then bif (bL .int l9 l2) then ((ZH qw.1 qw.2.1 qw.2.2.1 qw.2.2.2.1 qw.2.2.2.2.1 qw.2.2.2.2.2.2.1 qw.2.2.2.2.2.2.2.1 qw.2.2.2.2.2.2.2.2.1 qw.2.2.2.2.2.2.2.2.2.1 (ab eu)).bind λ w49=>bif (decide (cX=(map n189 w49.2.2.2.1).length)&&(decide (((l6).length)=(map n100 w49.2.2.2.2.1).length)&&(aD l4&&(aD eu&&true)))) then some w49 else none) else none else none else (l5.bind λ w50=>bif (decide (cX=(map n189 w50.2.2.2.1).length)&&(decide (((l6).length)=(map n100 w50.2.2.2.2.1).length)&&lY)) then some w50 else none)) else none else none else none:Option (PS)).bind λ JF=>let j1:=JF.2.2.2.2; let lN:=(cE j1.2.1); let mu:=(dc j1.2.2.1); let hJ:=(jx j1.2.2.2.1); let fL:=(rW JF.2.2.2.1); let fa:=(jx j1.1); let l8:=(aX j1.2.2.2.2.2); let l7:=(bg j1.2.2.2.2.1); (((bif (allFit fZ (jx JF.1)&&(A6 JF.2.1&&(allFit fZ (jx JF.2.2.1)&&(allFit (fits tv) fL&&(allFit fZ fa&&(allFit (fits fY) lN&&(allFit (fits ir) mu&&(allFit fZ hJ&&(allFit (fits cO) (ab l7)&&(allFit (fits cB) (ab l8)&&true)))))))))) then some ((ko JF.1),(vf JF.2.1),(ko JF.2.2.1),(map d189 fL),(map d100 fa),(wrap .i64 (qw.2.2.2.2.2.1+1)),(map d131 lN),(map d110 mu),(map d100 hJ),(map cH (ab l7)),(map bY (ab l8))) else none).bind λ XL=>bif (decide (((fL).length)=(map n189 XL.2.2.2.1).length)&&(decide (((fa).length)=(map n100 XL.2.2.2.2.1).length)&&(aD l7&&(aD l8&&true)))) then some XL else none).bind λ u53=>some (aaS u53))) else ((l5.bind λ w54=>bif (decide (cX=(map n189 w54.2.2.2.1).length)&&(decide (((l6).length)=(map n100 w54.2.2.2.2.1).length)&&lY)) then some w54 else none).bind λ u55=>some (aaN u55)))
def afK (x0:aj) (x1:da) (x2:aj) (x3:da) (x4:aj) (x5:aP) (x6:aG) (x7:aj) (x8:List AV) (x9:aj) (NN:Int) (KT:List AV):Option PQ:=
 bif (oH x0&&(A6 x1&&(oH x2&&(A6 x3&&(oH x4&&(mI x5&&(nH x6&&(oH x7&&(allFit (fits cO) x8&&(allFit (fits cB) (ab (aX x9))&&(allFit (fits p2) KT&&true))))))))))) then some ((ko x0),(vf x1),(ko x2),(vf x3),(ko x4),(jH x5),(j8 x6),(ko x7),(map cH x8),(map bY (ab (aX x9))),NN,(map d2 KT)) else none
def oJ (N:Nat) (k59:PQ->Option (PQ)) (CY:aj×da×aj×da×aj×aP×aG×aj×bw×aj×Int×ah):Option (PQ):=
 let fL:=(cE CY.2.2.2.2.2.1); let fa:=(dc CY.2.2.2.2.2.2.1); let eu:=(jx CY.2.2.2.2.2.2.2.1); let dV:=(fits nG); let l8:=(rW CY.2.2.2.1); let l7:=(jx CY.2.2.2.2.1); let l5:=(toNat CY.2.2.2.2.2.2.2.2.2.2.1); let l4:=(dT (L2 CY.2.2.2.2.2.2.2.2.2.2.2)); let l2:=(aX CY.2.2.2.2.2.2.2.2.2.1); let l1:=(bg CY.2.2.2.2.2.2.2.2.1); (bif (decide (aaR l1=l5)) then (bif (abk l4) then ((bif (allFit dV (jx CY.1)&&(A6 CY.2.1&&(allFit dV (jx CY.2.2.1)&&(allFit (fits tv) l8&&(allFit dV l7&&(allFit (fits fY) fL&&(allFit (fits ir) fa&&(allFit dV eu&&(allFit (fits cO) (ab l1)&&(allFit (fits cB) (ab l2)&&(allFit (fits p2) (fw l4)&&true))))))))))) then some ((ko CY.1),(vf CY.2.1),(ko CY.2.2.1),(map d189 l8),(map d100 l7),(map d131 fL),(map d110 fa),(map d100 eu),(map cH (ab l1)),(map bY (ab l2)),((l5:Nat):Int),(map d2 (fw l4))) else none).bind λ w61=>bif (decide (((l8).length)=(map n189 w61.2.2.2.1).length)&&(decide (((l7).length)=(map n100 w61.2.2.2.2.1).length)&&(aD l1&&(aD l2&&true)))) then some w61 else none) else (KW l4 λ i60=>let l6:=(sM l1 i60); let cX:=(fits nG l6.1&&fits p3 l6.2); let cW:=(bu .int (aI (d3 l6.2)) (aI 0) l2); let l9:=(AV.agg [(aI (d100 l6.1).1),(aI (d100 l6.1).2)]); let l3:=(eL qv l9 (aI (d3 cW)) l1); bif cX then bif (decide (aaR l1=l5)&&decide (i60 < l5)&&cX) then bif (bL .int (aI (d3 l6.2)) l2&&fits p3 cW) then bif (bL qv l9 l1) then (((afK CY.1 CY.2.1 CY.2.2.1 CY.2.2.2.1 CY.2.2.2.2.1 CY.2.2.2.2.2.1 CY.2.2.2.2.2.2.1 CY.2.2.2.2.2.2.2.1 (ab l3) CY.2.2.2.2.2.2.2.2.2.1 ((l5:Nat):Int) (fw (acK l4 i60))).bind λ ZJ=>bif (decide (((l8).length)=(map n189 ZJ.2.2.2.1).length)&&(decide (((l7).length)=(map n100 ZJ.2.2.2.2.1).length)&&(aD l3&&(aD l2&&true)))) then some ZJ else none).bind k59) else none else none else none else none)) else none)
def afL (N:Nat) (a0:aP×aG):RU N a0 =
 (let mu:=(fits ir); let hJ:=(fits fY); let fa:=(fits cO); let l8:=(fits tv); let l4:=fj; let l2:=(fits nG); (((bif (allFit l8 ([]:List AV)&&true) then some ((map d189 ([]:List AV)),0) else none:Option (da×Int)).bind λ w8=>bif (decide (0=(map n189 w8.1).length)&&true) then some w8 else none).bind λ x70=>(ao (ET N a0) N x70).bind λ o9=>let cW:=(rW o9); (((bif (allFit hJ (cE a0.1)&&(allFit mu (dc a0.2)&&(allFit l2 ([]:List AV)&&true))) then some (0,(jH a0.1),(j8 a0.2),(map d100 ([]:List AV))) else none:Option (Int×(List (l4×aj))×aG×aj)).bind λ w23=>bif ((decide (((cW).length)=((cW).length))&&true)&&(decide (0=(map n100 w23.2.2.2).length)&&true)) then some w23 else none).bind λ x69=>(ao (rX N a0 o9) N x69).bind λ yj=>let l3:=(jx yj.2.2); let Ct:=(map d100 l3); (((bif (allFit l2 l3&&(allFit l8 cW&&(allFit l2 l3&&(allFit hJ (cE yj.1)&&(allFit mu (dc yj.2.1)&&(allFit l2 l3&&(allFit fa (ab ([]:List (AV×AV)))&&true))))))) then some (Ct,(map d189 cW),Ct,0,(jH yj.1),(j8 yj.2.1),Ct,(map cH (ab ([]:List (AV×AV))))) else none:Option (aj×da×aj×Int×(List (l4×aj))×aG×aj×bw)).bind λ ZK=>bif (decide (((cW).length)=(map n189 ZK.2.1).length)&&(decide (((l3).length)=(map n100 ZK.2.2.1).length)&&(aD ([]:List (AV×AV))&&true))) then some ZK else none).bind λ x68=>(ao (pO N yj) N x68).bind λ o31=>let j2:=o31.2.2.2; let Aq:=(dc j2.2.1); let BW:=(jx j2.2.2.1); let lN:=(jx o31.2.2.1); let l9:=(rW o31.2.1); let l7:=(bg j2.2.2.2); (((bif (allFit l2 (jx o31.1)&&(allFit l8 l9&&(allFit l2 lN&&(allFit l8 l9&&(allFit hJ (cE j2.1)&&(allFit mu Aq&&(allFit l2 BW&&(allFit fa (ab l7)&&true)))))))) then some ((ko o31.1),(map d189 l9),(map d100 lN),(map d189 l9),0,(jH j2.1),(map d110 Aq),(map d100 BW),(map cH (ab l7))) else none:Option (aj×da×aj×da×Int×(List (l4×aj))×aG×aj×bw)).bind λ To=>bif (decide (((l9).length)=(map n189 To.2.2.2.1).length)&&(decide (((lN).length)=(map n100 To.2.2.1).length)&&(aD l7&&true))) then some To else none).bind λ x67=>(ao (nJ N o31) N x67).bind λ Hi=>let j3:=Hi.2.2.2; let JG:=(cE j3.2.1); let Gj:=(dc j3.2.2.1); let BX:=(jx j3.2.2.2.1); let lY:=(jx Hi.2.2.1); let fL:=(rW j3.1); let dV:=(jx Hi.1); let l6:=(bg j3.2.2.2.2); (((bif (allFit l2 dV&&(allFit l8 (rW Hi.2.1)&&(allFit l2 lY&&(allFit l8 fL&&(allFit l2 dV&&(allFit hJ JG&&(allFit mu Gj&&(allFit l2 BX&&(allFit fa (ab l6)&&(allFit (fits cB) (ab ([]:List (AV×AV)))&&true)))))))))) then some ((map d100 dV),(vf Hi.2.1),(map d100 lY),(map d189 fL),(map d100 dV),0,(map d131 JG),(map d110 Gj),(map d100 BX),(map cH (ab l6)),(map bY (ab ([]:List (AV×AV))))) else none:Option (aj×da×aj×da×aj×Int×(List (l4×aj))×aG×aj×bw×aj)).bind λ XM=>bif (decide (((fL).length)=(map n189 XM.2.2.2.1).length)&&(decide (((lY).length)=(map n100 XM.2.2.2.2.1).length)&&(aD l6&&(aD ([]:List (AV×AV))&&true)))) then some XM else none).bind λ x66=>(ao (ly N Hi) N x66).bind λ BY=>let j1:=BY.2.2.2.2; let tD:=(cE j1.2.1); let Cu:=(dc j1.2.2.1); let uf:=(jx j1.2.2.2.1); let fZ:=(rW BY.2.2.2.1); let eu:=(jx j1.1); let l5:=(aX j1.2.2.2.2.2); let l1:=(bg j1.2.2.2.2.1); let rE:=(fw (aa5 (aaR l1))); (((bif (allFit l2 (jx BY.1)&&(allFit l8 (rW BY.2.1)&&(allFit l2 (jx BY.2.2.1)&&(allFit l8 fZ&&(allFit l2 eu&&(allFit hJ tD&&(allFit mu Cu&&(allFit l2 uf&&(allFit fa (ab l1)&&(allFit (fits cB) (ab l5)&&(allFit (fits p2) rE&&true))))))))))) then some ((ko BY.1),(vf BY.2.1),(ko BY.2.2.1),(map d189 fZ),(map d100 eu),(map d131 tD),(map d110 Cu),(map d100 uf),(map cH (ab l1)),(map bY (ab l5)),(((aaR l1):Nat):Int),(map d2 rE)) else none).bind λ w63=>bif (decide (((fZ).length)=(map n189 w63.2.2.2.1).length)&&(decide (((eu).length)=(map n100 w63.2.2.2.2.1).length)&&(aD l1&&(aD l5&&true)))) then some w63 else none).bind λ x65=>(gw (oJ N) N x65).bind λ o64=>let cX:=(ab (bg o64.2.2.2.2.2.2.2.2.1)); (bif allFit fa cX then some (map cH cX) else none:Option bw)))))))):=by kernel_rfl
section
variable [DecidableEq K]
def P7 (v:Int):∀ (m:List (K×Int)) (i:Nat) (hi:i < m.length),(m.map aba).Nodup->dG m[i].1 v m=m.set i (m[i].1,v)
 |[],i,hi,_=>by cases hi
 |e::m,0,_,_=>by
  show dG e.1 v (e::m)=(e.1,v)::m;unfold dG;rw [if_pos rfl]
 |e::m,i+1,hi,hn=>by
  rw [adk,List.nodup_cons] at hn;have wC:i < m.length:=by simpa using hi
  have de:e.1≠m[i].1:=λ h=>hn.1 (by rw [h]; exact List.mem_map.2 ⟨m[i],ab1 wC,rfl⟩)
  show dG m[i].1 v (e::m)=e::m.set i (m[i].1,v);unfold dG;rw [if_neg (λ h=>de h.symm),P7 v m i wC hn.2]
def dH (f:Int->Int) (L:List Nat) (m:List (K×Int)):List (K×Int):=m.mapIdx λ i e=>if i∈L then e else (e.1,f e.2)
def js (f:Int->Int) (L:List Nat) (m:List (K×Int)):(dH f L m).length=m.length:=by simp [dH]
def Oh (f:Int->Int) (L:List Nat) (m:List (K×Int)):(dH f L m).map aba=m.map aba:=by
 apply acL
 .simp [dH]
 .intro i h1 h2;simp only [List.getElem_map,dH,List.getElem_mapIdx];split <;> rfl
def vg (f:Int->Int) (L:List Nat) (m:List (K×Int)) (hi:i < m.length) (hL:i∈L):(dH f L m)[i]'(by rw [js]; exact hi)=m[i]:=by
 simp only [dH,List.getElem_mapIdx,if_pos hL]
def vS (f:Int->Int) (m:List (K×Int)):dH f (aa5 m.length) m=m:=by
 apply acL
 .simp [dH]
 .intro i h1 h2;simp only [dH,List.getElem_mapIdx,if_pos (acg.2 h2)]
def vT (f:Int->Int) (m:List (K×Int)):dH f [] m=m.map λ e=>(e.1,f e.2):=by
 apply acL
 .simp [dH]
 .intro i h1 h2;simp [dH]
def tE (f:Int->Int) (L:List Nat) (m:List (K×Int)) (hi:i < m.length) (hL:i∈L) (hn:L.Nodup) (hk:(m.map aba).Nodup):dG m[i].1 (f m[i].2) (dH f L m)=dH f (L.erase i) m:=by
 have wC:i < (dH f L m).length:=by rw [js]; exact hi
 have e:=P7 (f m[i].2) (dH f L m) i wC (by rw [Oh]; exact hk);rw [vg f L m hi hL] at e;rw [e];apply acL
 .simp [dH]
 .intro j h1 h2;rw [List.getElem_set];by_cases hj:i=j
  .subst hj;have:i∉L.erase i:=λ h=>(acW.mem_erase_iff hn).1 h |>.1 rfl
   simp only [if_pos,dH,List.getElem_mapIdx,if_neg this]
  .rw [if_neg hj];simp only [dH,List.getElem_mapIdx];by_cases Oi:j∈L
   .rw [if_pos Oi,if_pos ((acW.mem_erase_iff hn).2 ⟨λ h=>hj h.symm,Oi⟩)]
   .rw [if_neg Oi,if_neg λ h=>Oi (abN h)]
def EV (f:Int->Int) (L:List Nat) (m:List (K×Int)) (hi:i < m.length) (hL:i∈L) (hn:L.Nodup) (hf:f m[i].2=m[i].2):dH f L m=dH f (L.erase i) m:=by
 apply acL
 .simp [dH]
 .intro j h1 h2;simp only [dH,List.getElem_mapIdx];by_cases hj:i=j
  .subst hj;have:i∉L.erase i:=λ h=>(acW.mem_erase_iff hn).1 h |>.1 rfl
   rw [if_pos hL,if_neg this,hf]
  .by_cases Oi:j∈L
   .rw [if_pos Oi,if_pos ((acW.mem_erase_iff hn).2 ⟨λ h=>hj h.symm,Oi⟩)]
   .rw [if_neg Oi,if_neg λ h=>Oi (abN h)]
def mL (l:List K):List (K×Int):=(l.foldl (λ s x=>(dG x s.2 s.1,s.2+1)) (([]:List (K×Int)),(0:Int))).1
def RY (a b:Int):Int:=if b > a then b else a
def ZM (a b:Int):Int:=if b < a then b else a
def xO (a b g:Int):Int:=if g=RY a b then ZM a b else g
def ar (m:List (K×Int)) (x:K):Int:=(getM x m).getD 0
def kC (m:List (K×Int)) (p:K×K):List (K×Int):=m.map λ e=>(e.1,xO (ar m p.1) (ar m p.2) e.2)
def rY (m:List (K×Int)) (ns:List (Int×Int)) (x:K):List (Int×Int):=if (getM (ar m x) ns).isSome then ns else dG (ar m x) (ns.length:Int) ns
def fR (l:List K) (ps:List (K×K)):List (K×Int):=
 let m:=ps.foldl kC (mL l)
 let ns:=l.foldl (rY m) []
 m.map λ e=>(e.1,ar ns e.2)
def Oj {k:K} (h:(m.map aba).Nodup):((dG k v m).map aba).Nodup:=by
 rw [vR];split
 .exact h
 .rename_i hk;exact List.nodup_append.2 ⟨h,by simp,λ a ha b hb e=>hk (by rw [adj] at hb; subst hb; subst e; exact ha)⟩
def tF (l:List K):((mL l).map aba).Nodup:=by
 have gen:∀ (l:List K) (s:List (K×Int)×Int),(s.1.map aba).Nodup->(((l.foldl (λ s x=>(dG x s.2 s.1,s.2+1)) s).1).map aba).Nodup:=by
  intro l
  induction l with
  |nil=>intro s h; exact h
  |cons x l ih=>intro s h; exact ih _ (Oj h)
 exact gen l _ (by simp)
def Ll (f:Int->Int) (m:List (K×Int)):(m.map λ e=>(e.1,f e.2)).map aba=m.map aba:=by
 rw [adm]; rfl
def vU (m:List (K×Int)) (p:K×K):(kC m p).map aba=m.map aba:=Ll _ m
def Hj (ps:List (K×K)) (m:List (K×Int)) (h:(m.map aba).Nodup):((ps.foldl kC m).map aba).Nodup:=by
 induction ps generalizing m with
 |nil=>exact h
 |cons p ps ih=>exact ih _ (by rw [vU]; exact h)
end
abbrev KE:EK:=.st (.cons 0 1 false .int (.cons 1 1 false .int .nil))
def BZ:kq .int (λ k:Int=>aI k) n3 pK:=⟨λ a b=>zx .i64 a b,λ _=>rfl,λ _=>rfl⟩
def EW:kq KE (λ k:Int×Int=>AV.agg [aI k.1,aI k.2]) n3 qM:=⟨λ a b=>ZL a b,λ _=>rfl,λ _=>rfl⟩
def kD (a:Int) (m:List (Int×Int)):bL .int (aI a) (ax (map pK m))=true:=BZ.keys a m
def mc (a:Int) (m:List (Int×Int)):bu .int (aI a) (aI 0) (ax (map pK m))=n3 (ar m a):=BZ.getD a 0 m
def B0 (a:Int) (m:List (Int×Int)):(gO .int (aI a) (ax (map pK m))).isSome=(getM a m).isSome:=by
 rw [BZ.get a m]; cases getM a m <;> rfl
def zy (a v:Int) (m:List (Int×Int)):eL .int (aI a) (aI v) (ax (map pK m))=ax (map pK (dG a v m)):=BZ.put a v m
def b8 (m:List (Int×Int)):ab (ax (map pK m))=map pK m:=BZ.cells m
def b9 (m:List (Int×Int)):aD (ax (map pK m))=true:=BZ.aD m
def B1 (m:List (Int×Int)):(ax (map pK m)).length=m.length:=by rw [BZ.ent,aag]
def acQ (m:List (Int×Int)) (h:i < m.length):sM (ax (map pK m)) i=(n3 m[i].1,n3 m[i].2):=by
 rw [BZ.ent,Lk _ m h]; rfl
def oq (a b:Int) (m:List ((Int×Int)×Int)):bL KE (AV.agg [aI a,aI b]) (ax (map qM m))=true:=EW.keys (a,b) m
def kh (a b:Int) (m:List ((Int×Int)×Int)):bu KE (AV.agg [aI a,aI b]) (aI 0) (ax (map qM m))=n3 (ar m (a,b)):=EW.getD (a,b) 0 m
def zB19:=And.intro @wE (And.intro @kh (And.intro @Cq (And.intro @oq (And.intro @kD @mc))))
def Vw (a b v:Int) (m:List ((Int×Int)×Int)):eL KE (AV.agg [aI a,aI b]) (aI v) (ax (map qM m))=ax (map qM (dG (a,b) v m)):=EW.put (a,b) v m
def bo (m:List ((Int×Int)×Int)):ab (ax (map qM m))=map qM m:=EW.cells m
def bp (m:List ((Int×Int)×Int)):aD (ax (map qM m))=true:=EW.aD m
def zB21:=And.intro @aV (And.intro @aW (And.intro @bo @bp))
def zz (m:List ((Int×Int)×Int)):(ax (map qM m)).length=m.length:=by rw [EW.ent,aag]
def Vx (m:List ((Int×Int)×Int)) (h:i < m.length):sM (ax (map qM m)) i=(n100 m[i].1,n3 m[i].2):=by
 rw [EW.ent,Lk _ m h]; rfl
def jI (L:List Nat):dT (map n2 (hX L))=L:=by
 unfold dT hX;rw [adm,adm]
 conv=>rhs; rw [<- List.map_id L]
 apply List.map_congr_left;intro n _;show ((n:Int)).toNat=n;exact aaK n
def akK (L:List Nat):fw L=map n2 (hX L):=by
 unfold fw hX;rw [adm]; rfl
def mM (L:List Nat):allFit (fits p2) (fw L)=true:=by rw [akK,Co]
def mN (L:List Nat):map d2 (fw L)=hX L:=by rw [akK,Cp]
def zB20:=And.intro @mM (And.intro @mN (And.intro @b8 (And.intro @bl (And.intro @bn @b9))))
def zB2:=And.intro @Co (And.intro @decide_true (And.intro @eq_self.{1} (And.intro @aaL (And.intro @b8 (And.intro @b9 (And.intro @bo (And.intro @bp (And.intro @Cp (And.intro @eV (And.intro @eW (And.intro @gy (And.intro @gz (And.intro @gS (And.intro @gT (And.intro @bc (And.intro @bf (And.intro @a7 (And.intro @a8 (And.intro @iu (And.intro @iw (And.intro @bl (And.intro @bn (And.intro @mM @mN)))))))))))))))))))))))
def Mq (l:List Int) (hk:k < l.length):d3 (an (map n3 l) k)=l[k]/\fits p3 (an (map n3 l) k)=true:=by
 rw [fK n3 l k hk,wE,Cq]; exact ⟨rfl,rfl⟩
def acR (l:List (Int×Int)) (hk:k < l.length):d106 (an (map n106 l) k)=l[k]/\fits xL (an (map n106 l) k)=true:=by
 rw [fK n106 l k hk,akq,akp]; exact ⟨rfl,rfl⟩
def Vy (l:List (Int×Int)) (hk:k < l.length):d100 (an (map n100 l) k)=l[k]/\fits nG (an (map n100 l) k)=true:=by
 rw [fK n100 l k hk,Lh,Lg]; exact ⟨rfl,rfl⟩
def acS (l:List (Int×Int×Int×Int)) (hk:k < l.length):d189 (an (map n189 l) k)=l[k]/\fits tv (an (map n189 l) k)=true:=by
 rw [fK n189 l k hk,aky,akx]; exact ⟨rfl,rfl⟩
def Lm (l:List (Int×Int×Int×Int×Bool)) (hk:k < l.length):d110 (an (map n110 l) k)=l[k]/\fits ir (an (map n110 l) k)=true:=by
 rw [fK n110 l k hk,aks,akr]; exact ⟨rfl,rfl⟩
def kE (l:List ((List UInt8)×(List (Int×Int)))) (hk:k < l.length):d131 (an (map n131 l) k)=l[k]/\fits fY (an (map n131 l) k)=true:=by
 rw [fK n131 l k hk,aku,akt]; exact ⟨rfl,rfl⟩
def ZN (hN:dC N) (l:List Int) (ps:List (Int×Int)) (x1:List Int) (hl:l.length<=1000000):ao (pN N l) N (x1,l,0,ps,([]:List (Int×Int)))=some (x1,l,ps,mL l):=by
 have key:=dw (rd:=pN N l) l (λ (s:List (Int×Int)×Int) k=>(x1,l,(k:Int),ps,s.1)) (λ s x=>(dG x s.2 s.1,s.2+1)) (λ s=>(x1,l,ps,s.1)) (λ s k=>s.2=(k:Int)) (λ s k hk hP=>by
  obtain ⟨a1,a2⟩:=Mq l hk;refine ⟨?_,by show s.2+1=_; rw [hP]; rfl⟩;rw [hP];simp only [pN,zB11,ai hk,af hk,a1,a2,kD,zy,aN (show k < 9223372036854775807 by omega),zB2,zB0,kq3]) (λ s _=>by
  simp only [pN,aag,ay,zB2,zB0,kq3]) N ([],0) 0 (abC _) (by unfold dC at hN; omega) rfl
 rw [ab7] at key;exact key
def Vz {N:Nat} (l:List Int) (ps:List (Int×Int)) (x1:List Int) (k:Nat) (hk:k < ps.length) (m:List (Int×Int)) (hn:(m.map aba).Nodup):∀ (n:Nat) (L:List Nat),L.length < n->L.Nodup->(∀ i∈L,i < m.length) ->
  gw (ng N (x1,l,(k:Int),ps,m)) n (x1,l,ps,(dH (xO (ar m ps[k].1) (ar m ps[k].2)) L m),(m.length:Int),(hX L))=some (x1,l,ps,(m.map λ e=>(e.1,xO (ar m ps[k].1) (ar m ps[k].2) e.2)),(m.length:Int),[])
 |0,L,h,_,_=>by omega
 |n+1,L,h,hL,hi=>by
  rw [pP];obtain ⟨a1,a2⟩:=acR ps hk;have ih:=λ L'=>Vz (N:=N) l ps x1 k hk m hn n L'
  generalize hf:xO (ar m ps[k].1) (ar m ps[k].2)=f at *;have RI:=js f L m;have ec:decide ((dH f L m).length=m.length)=true:=decide_eq_true RI;cases Hk:L with
  |nil=>
   have i0:abk ([]:List Nat)=true:=rfl;have e0:(dH f [] m).length=m.length:=js f [] m;simp only [ng,B1,e0,zB11,jI,i0,vT,zB2,zB0,kq4,kq5];rfl
  |cons a L'=>
   rw [<- Hk];have i0:abk L=false:=by rw [Hk]; rfl
   simp only [ng,B1,aaK,ec,zB10,jI,i0,kq4,kq5];refine zj (by rw [Hk]; simp) λ i iH=>?_
   have du:=hi i iH;have Ia:i < (dH f L m).length:=by rw [RI]; exact du
   have ql:(L.erase i).length=L.length - 1:=acf iH;have po:0 < L.length:=acq iH;have dl:decide (i < m.length)=true:=decide_eq_true du;have ZO:=ih (L.erase i) (by omega) (hL.erase i) (λ j hj=>hi j (abN hj));have eat:=vg f L m du iH;have z0:0+k=k:=adf k;rw [acQ _ Ia,eat];have avi:d3 (n3 m[i].2)=m[i].2:=wE _;simp only [Cq,wE,Cq,wE,zB17,dl,ec,z0,a1,kD,mc];have iR:f m[i].2=if m[i].2=RY (ar m ps[k].1) (ar m ps[k].2) then ZM (ar m ps[k].1) (ar m ps[k].2) else m[i].2:=by rw [<- hf]; rfl
   by_cases hg:m[i].2=RY (ar m ps[k].1) (ar m ps[k].2)
   .rw [if_pos hg] at iR;have hb:(m[i].2 == (if ar m ps[k].2 > ar m ps[k].1 then ar m ps[k].2 else ar m ps[k].1))=true:=by rw [hg]; exact beq_self_eq_true _
    have st:=tE f L m du iH hL hn;rw [iR] at st;have st:dG m[i].1 (if ar m ps[k].2 < ar m ps[k].1 then ar m ps[k].2 else ar m ps[k].1) (dH f L m)=dH f (L.erase i) m:=st;simp only [hb,zy,st,zB2,zB0];exact ZO
   .rw [if_neg hg] at iR;have hb:(m[i].2 == (if ar m ps[k].2 > ar m ps[k].1 then ar m ps[k].2 else ar m ps[k].1))=false:=beq_false_of_ne hg;have st:=EV f L m du iH hL iR;simp only [hb,zB2,zB0];rw [st];exact ZO
def ZP (hN:dC N) (l:List Int) (ps:List (Int×Int)) (x1:List Int) (m:List (Int×Int)) (hl:ps.length<=1000000) (hm:m.length<=1000000) (hn:(m.map aba).Nodup):ao (nI N ((),ps)) N (x1,l,0,ps,m)=some (x1,l,ps,(ps.foldl kC m)):=by
 have key:=dw (rd:=nI N ((),ps)) ps (λ (s:List (Int×Int)) k=>(x1,l,(k:Int),ps,s)) (λ s p=>kC s p) (λ s=>(x1,l,ps,s)) (λ s k=>(s.map aba).Nodup/\s.length<=1000000) (λ s k hk hP=>by
  obtain ⟨a1,a2⟩:=acR ps hk;have z0:0+k=k:=adf k;have q:=Vz (N:=N) l ps x1 k hk s hP.1 N (aa5 s.length) (by rw [ab3]; unfold dC at hN; omega) acM (λ i hi=>acg.1 hi);rw [vS] at q;refine ⟨?_,by rw [vU]; exact hP.1,by unfold kC; rw [aag]; exact hP.2⟩;have dz:decide (ps.length=ps.length)=true:=decide_eq_true rfl;have dk:decide (k < ps.length)=true:=decide_eq_true hk;simp only [nI,zB11,ai hk,af hk,z0,a1,a2,dz,dk,kD,mc,Cq,B1,q,aN (show k < 9223372036854775807 by omega),zB2,zB0,kq3,kq4];rfl) (λ s _=>by
  simp only [nI,aag,ay,zB2,zB0,kq3,kq4]) N m 0 (abC _) (by unfold dC at hN; omega) ⟨hn,hm⟩
 rw [ab7] at key;exact key
def afN (hN:dC N) (l:List Int) (ps:List (Int×Int)) (x1:List Int) (m:List (Int×Int)) (hl:l.length<=1000000):ao (lx N (l,l,ps,m)) N (x1,l,l,0,ps,m,[])=some (x1,l,l,ps,m,(l.foldl (rY m) [])):=by
 have key:=dw (rd:=lx N (l,l,ps,m)) l (λ (s:List (Int×Int)) k=>(x1,l,l,(k:Int),ps,m,s)) (rY m) (λ s=>(x1,l,l,ps,m,s)) (λ s k=>True) (λ s k hk hP=>by
  obtain ⟨a1,a2⟩:=Mq l hk;refine ⟨?_,trivial⟩;have e:rY m s l[k]=if (getM (ar m l[k]) s).isSome then s else dG (ar m l[k]) (s.length:Int) s:=rfl
  rw [e];cases hs:(getM (ar m l[k]) s).isSome with
  |true=>
   simp only [lx,zB11,ai hk,af hk,a1,a2,kD,mc,kD,mc,Cq,wE,B0,hs,adR,if_true,aN (show k < 9223372036854775807 by omega),zB2,zB0,kq7,kq6]
  |false=>
   simp only [lx,zB11,ai hk,af hk,a1,a2,kD,mc,kD,mc,zy,B1,Cq,wE,B0,hs,adF,zB14,aN (show k < 9223372036854775807 by omega),zB2,zB0,kq7,kq6]) (λ s _=>by
  simp only [lx,aag,ay,zB2,zB0,kq7,kq6]) N [] 0 (abC _) (by unfold dC at hN; omega) trivial
 rw [ab7] at key;exact key
def P8 {N:Nat} (l:List Int) (ps:List (Int×Int)) (x1:List Int) (m:List (Int×Int)) (ns:List (Int×Int)) (hn:(m.map aba).Nodup):∀ (n:Nat) (L:List Nat),L.length < n->L.Nodup->(∀ i∈L,i < m.length) ->
  gw (oI N) n (x1,l,l,ps,(dH (ar ns) L m),ns,(m.length:Int),(hX L))=some (x1,l,l,ps,(m.map λ e=>(e.1,ar ns e.2)),ns,(m.length:Int),[])
 |0,L,h,_,_=>by omega
 |n+1,L,h,hL,hi=>by
  rw [pP];have ih:=λ L'=>P8 (N:=N) l ps x1 m ns hn n L'
  generalize hf:ar ns=f at *;have RI:=js f L m;have ec:decide ((dH f L m).length=m.length)=true:=decide_eq_true RI;cases Hk:L with
  |nil=>
   have i0:abk ([]:List Nat)=true:=rfl;have e0:(dH f [] m).length=m.length:=js f [] m;simp only [oI,B1,e0,zB11,jI,i0,vT,zB2,zB0,kq8];rfl
  |cons a L'=>
   rw [<- Hk];have i0:abk L=false:=by rw [Hk]; rfl
   simp only [oI,B1,aaK,ec,zB10,jI,i0,kq8];refine zj (by rw [Hk]; simp) λ i iH=>?_
   have du:=hi i iH;have Ia:i < (dH f L m).length:=by rw [RI]; exact du
   have ql:(L.erase i).length=L.length - 1:=acf iH;have po:0 < L.length:=acq iH;have dl:decide (i < m.length)=true:=decide_eq_true du;have ZO:=ih (L.erase i) (by omega) (hL.erase i) (λ j hj=>hi j (abN hj));have eat:=vg f L m du iH;rw [acQ _ Ia,eat];have st:=tE f L m du iH hL hn;have ev:ar ns m[i].2=f m[i].2:=by rw [hf]
   have st:dG m[i].1 (f m[i].2) (dH f L m)=dH f (L.erase i) m:=st;simp only [Cq,wE,Cq,wE,zB0,dl,ec,kD,mc,kD,zy,ev,st,zB2,aaJ,cond_true];exact ZO
def ZQ (hN:dC N) (l:List (Int×Int)) (x1:List (Int×Int)) (J:List (Int×Int×Int×Int)) (P:List ((List UInt8)×(List (Int×Int)))) (S:List (Int×Int×Int×Int×Bool)) (E:List (Int×Int)) (hl:l.length<=1000000):ao (pO N (P,S,l)) N (x1,J,l,0,P,S,E,([]:List ((Int×Int)×Int)))=some (x1,J,l,P,S,E,mL l):=by
 have key:=dw (rd:=pO N (P,S,l)) l (λ (s:List ((Int×Int)×Int)×Int) k=>(x1,J,l,(k:Int),P,S,E,s.1)) (λ s x=>(dG x s.2 s.1,s.2+1)) (λ s=>(x1,J,l,P,S,E,s.1)) (λ s k=>s.2=(k:Int)) (λ s k hk hP=>by
  obtain ⟨a1,a2⟩:=Vy l hk;refine ⟨?_,by show s.2+1=_; rw [hP]; rfl⟩;rw [hP];simp only [pO,zB11,ai hk,af hk,a1,a2,oq,Vw,aN (show k < 9223372036854775807 by omega),zB2,aV,aW,zB0,afG]) (λ s _=>by
  simp only [pO,aag,ay,zB2,aV,aW,zB0,afG]) N ([],0) 0 (abC _) (by unfold dC at hN; omega) rfl
 rw [ab7] at key;exact key
def VA {N:Nat} (l:List (Int×Int)) (ps:List (Int×Int×Int×Int)) (x1:List (Int×Int)) (J:List (Int×Int×Int×Int)) (P:List ((List UInt8)×(List (Int×Int)))) (S:List (Int×Int×Int×Int×Bool)) (E:List (Int×Int)) (k:Nat) (hk:k < ps.length) (m:List ((Int×Int)×Int)) (hn:(m.map aba).Nodup):∀ (n:Nat) (L:List Nat),L.length < n->L.Nodup->(∀ i∈L,i < m.length) ->
  gw (nh N (x1,J,l,ps,(k:Int),P,S,E,m)) n (x1,J,l,ps,P,S,E,(dH (xO (ar m (ps[k].1,ps[k].2.1)) (ar m (ps[k].2.2.1,ps[k].2.2.2))) L m),(m.length:Int),(hX L))=some (x1,J,l,ps,P,S,E,(m.map λ e=>(e.1,xO (ar m (ps[k].1,ps[k].2.1)) (ar m (ps[k].2.2.1,ps[k].2.2.2)) e.2)),(m.length:Int),[])
 |0,L,h,_,_=>by omega
 |n+1,L,h,hL,hi=>by
  rw [pP];obtain ⟨a1,a2⟩:=acS ps hk;have ih:=λ L'=>VA (N:=N) l ps x1 J P S E k hk m hn n L'
  generalize hf:xO (ar m (ps[k].1,ps[k].2.1)) (ar m (ps[k].2.2.1,ps[k].2.2.2))=f at *;have RI:=js f L m;have ec:decide ((dH f L m).length=m.length)=true:=decide_eq_true RI;cases Hk:L with
  |nil=>
   have i0:abk ([]:List Nat)=true:=rfl;have e0:(dH f [] m).length=m.length:=js f [] m;simp only [nh,zz,e0,zB11,jI,i0,vT,zB2,aV,aW,zB0,Og,afH];rfl
  |cons a L'=>
   rw [<- Hk];have i0:abk L=false:=by rw [Hk]; rfl
   simp only [nh,zz,aaK,ec,zB10,jI,i0,Og,afH];refine zj (by rw [Hk]; simp) λ i iH=>?_
   have du:=hi i iH;have Ia:i < (dH f L m).length:=by rw [RI]; exact du
   have ql:(L.erase i).length=L.length - 1:=acf iH;have po:0 < L.length:=acq iH;have dl:decide (i < m.length)=true:=decide_eq_true du;have ZO:=ih (L.erase i) (by omega) (hL.erase i) (λ j hj=>hi j (abN hj));have eat:=vg f L m du iH;have z0:0+k=k:=adf k;rw [Vx _ Ia,eat];have avj:d3 (n3 m[i].2)=m[i].2:=wE _;simp only [Lg,Lh,Cq,wE,zB17,dl,ec,z0,a1,oq,kh];have iR:f m[i].2=if m[i].2=RY (ar m (ps[k].1,ps[k].2.1)) (ar m (ps[k].2.2.1,ps[k].2.2.2)) then ZM (ar m (ps[k].1,ps[k].2.1)) (ar m (ps[k].2.2.1,ps[k].2.2.2)) else m[i].2:=by rw [<- hf]; rfl
   by_cases hg:m[i].2=RY (ar m (ps[k].1,ps[k].2.1)) (ar m (ps[k].2.2.1,ps[k].2.2.2))
   .rw [if_pos hg] at iR;have hb:(m[i].2 == (if ar m (ps[k].2.2.1,ps[k].2.2.2) > ar m (ps[k].1,ps[k].2.1) then ar m (ps[k].2.2.1,ps[k].2.2.2) else ar m (ps[k].1,ps[k].2.1)))=true:=by rw [hg]; exact beq_self_eq_true _
    have st:=tE f L m du iH hL hn;rw [iR] at st;have st:dG (m[i].1.1,m[i].1.2) (if ar m (ps[k].2.2.1,ps[k].2.2.2) < ar m (ps[k].1,ps[k].2.1) then ar m (ps[k].2.2.1,ps[k].2.2.2) else ar m (ps[k].1,ps[k].2.1)) (dH f L m)=dH f (L.erase i) m:=st;simp only [hb,Vw,st,zB2,aV,aW,zB0];exact ZO
   .rw [if_neg hg] at iR;have hb:(m[i].2 == (if ar m (ps[k].2.2.1,ps[k].2.2.2) > ar m (ps[k].1,ps[k].2.1) then ar m (ps[k].2.2.1,ps[k].2.2.2) else ar m (ps[k].1,ps[k].2.1)))=false:=beq_false_of_ne hg;have st:=EV f L m du iH hL iR;simp only [hb,zB2,aV,aW,zB0];rw [st];exact ZO
def ZR (hN:dC N) (l:List (Int×Int)) (ps:List (Int×Int×Int×Int)) (x1:List (Int×Int)) (J:List (Int×Int×Int×Int)) (P:List ((List UInt8)×(List (Int×Int)))) (S:List (Int×Int×Int×Int×Bool)) (E:List (Int×Int)) (m:List ((Int×Int)×Int)) (hl:ps.length<=1000000) (hm:m.length<=1000000) (hn:(m.map aba).Nodup):ao (nJ N (x1,ps,l,P,S,E,m)) N (x1,J,l,ps,0,P,S,E,m)=some (x1,J,l,ps,P,S,E,(ps.foldl (λ s p=>kC s ((p.1,p.2.1),(p.2.2.1,p.2.2.2))) m)):=by
 have key:=dw (rd:=nJ N (x1,ps,l,P,S,E,m)) ps (λ (s:List ((Int×Int)×Int)) k=>(x1,J,l,ps,(k:Int),P,S,E,s)) (λ s p=>kC s ((p.1,p.2.1),(p.2.2.1,p.2.2.2))) (λ s=>(x1,J,l,ps,P,S,E,s)) (λ s k=>(s.map aba).Nodup/\s.length<=1000000) (λ s k hk hP=>by
  obtain ⟨a1,a2⟩:=acS ps hk;have z0:0+k=k:=adf k;have q:=VA (N:=N) l ps x1 J P S E k hk s hP.1 N (aa5 s.length) (by rw [ab3]; unfold dC at hN; omega) acM (λ i hi=>acg.1 hi);rw [vS] at q;refine ⟨?_,by rw [vU]; exact hP.1,by unfold kC; rw [aag]; exact hP.2⟩;have dz:decide (ps.length=ps.length)=true:=decide_eq_true rfl;have dk:decide (k < ps.length)=true:=decide_eq_true hk;simp only [nJ,zB11,ai hk,af hk,z0,a1,a2,dz,dk,oq,kh,Cq,zz,q,aN (show k < 9223372036854775807 by omega),zB2,aV,aW,zB0,Og];rfl) (λ s _=>by
  simp only [nJ,aag,ay,zB2,aV,aW,zB0,Og]) N m 0 (abC _) (by unfold dC at hN; omega) ⟨hn,hm⟩
 rw [ab7] at key;exact key
def afO (hN:dC N) (l:List (Int×Int)) (ps:List (Int×Int×Int×Int)) (x1:List (Int×Int)) (J:List (Int×Int×Int×Int)) (P:List ((List UInt8)×(List (Int×Int)))) (S:List (Int×Int×Int×Int×Bool)) (E:List (Int×Int)) (m:List ((Int×Int)×Int)) (hl:l.length<=1000000):ao (ly N (l,J,l,ps,P,S,E,m)) N (x1,J,l,ps,l,0,P,S,E,m,[])=some (x1,J,l,ps,l,P,S,E,m,(l.foldl (rY m) [])):=by
 have key:=dw (rd:=ly N (l,J,l,ps,P,S,E,m)) l (λ (s:List (Int×Int)) k=>(x1,J,l,ps,l,(k:Int),P,S,E,m,s)) (rY m) (λ s=>(x1,J,l,ps,l,P,S,E,m,s)) (λ s k=>True) (λ s k hk hP=>by
  obtain ⟨a1,a2⟩:=Vy l hk;refine ⟨?_,trivial⟩;have e:rY m s l[k]=if (getM (ar m l[k]) s).isSome then s else dG (ar m l[k]) (s.length:Int) s:=rfl
  rw [e];cases hs:(getM (ar m l[k]) s).isSome with
  |true=>
   simp only [ly,zB11,ai hk,af hk,a1,a2,zB19,B0,hs,adR,if_true,aN (show k < 9223372036854775807 by omega),zB2,aV,aW,zB0,ZI,ZH]
  |false=>
   simp only [ly,zB11,ai hk,af hk,a1,a2,zB19,zy,B1,B0,hs,adF,zB14,aN (show k < 9223372036854775807 by omega),zB2,aV,aW,zB0,ZI,ZH]) (λ s _=>by
  simp only [ly,aag,ay,zB2,aV,aW,zB0,ZI,ZH]) N [] 0 (abC _) (by unfold dC at hN; omega) trivial
 rw [ab7] at key;exact key
def P9 {N:Nat} (l:List (Int×Int)) (ps:List (Int×Int×Int×Int)) (x1:List (Int×Int)) (J:List (Int×Int×Int×Int)) (P:List ((List UInt8)×(List (Int×Int)))) (S:List (Int×Int×Int×Int×Bool)) (E:List (Int×Int)) (m:List ((Int×Int)×Int)) (ns:List (Int×Int)) (hn:(m.map aba).Nodup):∀ (n:Nat) (L:List Nat),L.length < n->L.Nodup->(∀ i∈L,i < m.length) ->
  gw (oJ N) n (x1,J,l,ps,l,P,S,E,(dH (ar ns) L m),ns,(m.length:Int),(hX L))=some (x1,J,l,ps,l,P,S,E,(m.map λ e=>(e.1,ar ns e.2)),ns,(m.length:Int),[])
 |0,L,h,_,_=>by omega
 |n+1,L,h,hL,hi=>by
  rw [pP];have ih:=λ L'=>P9 (N:=N) l ps x1 J P S E m ns hn n L'
  generalize hf:ar ns=f at *;have RI:=js f L m;have ec:decide ((dH f L m).length=m.length)=true:=decide_eq_true RI;cases Hk:L with
  |nil=>
   have i0:abk ([]:List Nat)=true:=rfl;have e0:(dH f [] m).length=m.length:=js f [] m;simp only [oJ,zz,e0,zB11,jI,i0,vT,zB2,aV,aW,zB0,afK];rfl
  |cons a L'=>
   rw [<- Hk];have i0:abk L=false:=by rw [Hk]; rfl
   simp only [oJ,zz,aaK,ec,zB10,jI,i0,afK];refine zj (by rw [Hk]; simp) λ i iH=>?_
   have du:=hi i iH;have Ia:i < (dH f L m).length:=by rw [RI]; exact du
   have ql:(L.erase i).length=L.length - 1:=acf iH;have po:0 < L.length:=acq iH;have dl:decide (i < m.length)=true:=decide_eq_true du;have ZO:=ih (L.erase i) (by omega) (hL.erase i) (λ j hj=>hi j (abN hj));have eat:=vg f L m du iH;rw [Vx _ Ia,eat];have st:=tE f L m du iH hL hn;have ev:ar ns m[i].2=f m[i].2:=by rw [hf]
   have st:dG (m[i].1.1,m[i].1.2) (f m[i].2) (dH f L m)=dH f (L.erase i) m:=st;simp only [Lg,Lh,Cq,wE,zB0,dl,ec,kD,mc,oq,Vw,ev,st,zB2,aV,aW,aaJ,cond_true];exact ZO
abbrev rk:=(List UInt8)×(List (Int×Int))
abbrev mi:=Int×Int×Int×Int×Bool
abbrev bh:=List rk×List mi
variable {t:bh}
def bH (n:Nat):List Int:=(aa5 n).map λ i:Nat=>(i:Int)
def B2 (n:Nat):bH (n+1)=bH n++[(n:Int)]:=by unfold bH; rw [List.range_succ,ab9]; rfl
def iY (n:Nat):(bH n).length=n:=by simp [bH]
def qx (s:mi):Int×Int:=(s.1,s.2.2.1)
def av (t:bh):List Int:=
 let l:=bH t.1.length
 let m:=fR l (t.2.map qx)
 l.map (ar m)
def xd (l:List Int) (x:Int):map n3 l++[aI x]=map n3 (l++[x]):=by rw [ab9]; rfl
def ZS (l:List (Int×Int)) (a b:Int):map n106 l++[AV.agg [aI a,aI b]]=map n106 (l++[(a,b)]):=by rw [ab9]; rfl
def ZT (l:List (Int×Int)) (a b:Int):map n100 l++[AV.agg [aI a,aI b]]=map n100 (l++[(a,b)]):=by rw [ab9]; rfl
theorem akL:allFit (fits p3) ([]:List AV)=true:=rfl
theorem akM:map d3 ([]:List AV)=[]:=rfl
theorem afP:allFit (fits nG) ([]:List AV)=true:=rfl
theorem afQ:map d100 ([]:List AV)=[]:=rfl
theorem afR:allFit (fits tv) ([]:List AV)=true:=rfl
theorem afS:map d189 ([]:List AV)=[]:=rfl
theorem c0_:ab ([]:List (AV×AV))=[]:=rfl
theorem a0_:aD ([]:List (AV×AV))=true:=rfl
theorem VB:allFit (fits cB) ([]:List AV)=true:=rfl
theorem VC:map bY ([]:List AV)=[]:=rfl
theorem afT:allFit (fits cO) ([]:List AV)=true:=rfl
theorem afU:map cH ([]:List AV)=[]:=rfl
def Ln [DecidableEq K] (l:List K):(mL l).length<=l.length:=by
 have gen:∀ (l:List K) (s:List (K×Int)×Int),((l.foldl (λ s x=>(dG x s.2 s.1,s.2+1)) s).1).length<=s.1.length+l.length:=by
  intro l
  induction l with
  |nil=>intro s; exact Nat.le_refl _
  |cons x l ih=>
   intro s;have h1:=ih (dG x s.2 s.1,s.2+1);have h2:(dG x s.2 s.1).length<=s.1.length+1:=by
    have:=congrArg aaR (vR (k:=x) (v:=s.2) (m:=s.1));rw [aag] at this;rw [this];split <;> simp
   rw [adx,aci];simp only at h1;omega
 have:=gen l ([],0);unfold mL;simpa using this
def Qa [DecidableEq K] (ps:List (K×K)) (m:List (K×Int)):(ps.foldl kC m).length=m.length:=by
 induction ps generalizing m with
 |nil=>rfl
 |cons p ps ih=>rw [adx,ih]; unfold kC; rw [aag]
def cl3:∀ l:List Int,aZ (map n3 l)=true
 |[]=>rfl
 |x::l=>by
  show ((n3 x).closed&&aZ (map n3 l))=true;rw [cl3 l]; rfl
section
variable (hN:dC N)
include hN
theorem ZU (t:bh) (h:t.1.length<=1000000):ao (ES N t) N ([],0)=some (bH t.1.length):=by
 have key:=aL (rd:=ES N t) t.1.length (λ k=>(bH k,(k:Int))) (bH t.1.length) (λ k hk=>by
  have d:decide ((bH k).length=(bH k).length)=true:=decide_eq_true rfl;have d2:decide ((k+1)*8<=140737488355328)=true:=decide_eq_true (by omega);simp only [ES,zB3,ai hk,iY,d2,xd,<- B2,aN (show k < 9223372036854775807 by omega),zB4,zB16,kq1]) (by
  simp only [ES,zB3,ay,iY,zB0,zB16,kq1]) N 0 (abC _) (by unfold dC at hN; omega)
 exact key
theorem ZV (t:bh) (l:List Int) (h:t.2.length<=1000000):ao (pM N t l) N ((),0,[])=some ((),t.2.map qx):=by
 have key:=aL (rd:=pM N t l) t.2.length (λ k=>((),(k:Int),(t.2.take k).map qx)) ((),t.2.map qx) (λ k hk=>by
  obtain ⟨a1,a2⟩:=Lm t.2 hk;have ht:(t.2.take k).length=k:=by rw [acu]; omega
  have d2:decide ((k+1)*16<=140737488355328)=true:=decide_eq_true (by omega);have d0:decide ((0:Nat)=0)=true:=rfl;have es:(t.2.take k).map qx++[(t.2[k].1,t.2[k].2.2.1)]=(t.2.take (k+1)).map qx:=by
   rw [acP,ab6 hk,ab9]; rfl
  have el:((t.2.take (k+1)).map qx).length=k+1:=by rw [aag,acu]; omega
  have nb:aca (k+1) (k+1)=true:=adh _;simp only [pM,zB7,aaK,ai hk,af hk,a1,a2,ht,d2,d0,ZS,es,el,nb,gy,gz,aN (show k < 9223372036854775807 by omega),zB4,zB16,kq2]) (by
  have nb:aca t.2.length t.2.length=true:=adh _;simp only [pM,zB7,ay,acV,nb,gy,gz,zB0,zB16,kq2]) N 0 (abC _) (by unfold dC at hN; omega)
 exact key
theorem ZW (l x:List Int) (hl:l.length<=1000000) (ps:List (Int×Int)) (m ns:List (Int×Int)) (c:Int) (L:List Int) (hL:∃ L',L=hX L'):∃ r,ao (mJ N l) N ((),l,0,ps,m,ns,c,L,(),[])=some r/\r.2.2.2.2.2.2.2.2=l.map (ar m):=by
 obtain ⟨L',rfl⟩:=hL;refine ⟨((),l,ps,m,ns,((toNat c:Nat):Int),hX L',(),l.map (ar m)),?_,rfl⟩;cases CL:l with
 |nil=>
  have d:decide ((0:Int) < ((([]:List Int).length:Nat):Int))=false:=rfl;obtain ⟨n,rfl⟩:∃ n,N=n+1:=⟨N - 1,by unfold dC at hN; omega⟩;have n0:aca 0 0=true:=rfl;rw [tu];simp only [mJ,adT,adi,n0,akL,akM,zB20,jI,gy,gz,zB0,zB16,decide_true,Sum.elim_inr,Int.lt_irrefl,decide_false,kq9];rfl
 |cons a l'=>
 rw [<- CL];have key:=aL (rd:=mJ N l) l.length (λ k=>((),l,(k:Int),ps,m,ns,(if k=0 then c else ((toNat c:Nat):Int)),hX L',(),(l.take k).map (ar m))) ((),l,ps,m,ns,((toNat c:Nat):Int),hX L',(),l.map (ar m)) (λ k hk=>by
  obtain ⟨a1,a2⟩:=Mq l hk;have ht:(l.take k).length=k:=by rw [acu]; omega
  have d2:decide ((k+1)*8<=140737488355328)=true:=decide_eq_true (by omega);have d0:decide ((0:Nat)=0)=true:=rfl;have es:(l.take k).map (ar m)++[ar m l[k]]=(l.take (k+1)).map (ar m):=by
   rw [acP,ab6 hk,ab9]; rfl
  have el:((l.take (k+1)).map (ar m)).length=k+1:=by rw [aag,acu]; omega
  have nb:aca (k+1) (k+1)=true:=adh _;have ec:((toNat (if k=0 then c else ((toNat c:Nat):Int)):Nat):Int)=((toNat c:Nat):Int):=by split <;> simp
  have e1:(k+1=0)=False:=by simp
  simp only [mJ,zB3,aaK,ai hk,af hk,a1,a2,ht,d2,d0,kD,mc,Cq,wE,xd,es,el,nb,ec,e1,if_false,zB20,jI,gy,gz,aN (show k < 9223372036854775807 by omega),zB4,zB16,kq9]) (by
  have nb:aca l.length l.length=true:=adh _;have e1:(l.length=0)=False:=by rw [CL]; simp
  simp only [mJ,zB3,ay,acV,nb,e1,if_false,aaK,zB20,jI,gy,gz,zB0,zB16,kq9]) N 0 (abC _) (by unfold dC at hN; omega)
 exact key
theorem xP (t:bh) (h1:t.1.length<=1000000) (h2:t.2.length<=1000000):T61 N t=some (av t):=by
 have q1:=ZU hN t h1;have q2:=ZV hN t (bH t.1.length) h2;have hl:(bH t.1.length).length<=1000000:=by rw [iY]; exact h1
 have hp:(t.2.map qx).length<=1000000:=by rw [aag]; exact h2
 have nl:=Ln (bH t.1.length);have q3:=ZN hN (bH t.1.length) (t.2.map qx) (bH t.1.length) hl;have q4:=ZP hN (bH t.1.length) (t.2.map qx) (bH t.1.length) (mL (bH t.1.length)) hp (by omega) (tF _);have q5:=afN hN (bH t.1.length) (t.2.map qx) (bH t.1.length) ((t.2.map qx).foldl kC (mL (bH t.1.length))) hl;have nd:=Hj (t.2.map qx) (mL (bH t.1.length)) (tF _);have ul:=Qa (t.2.map qx) (mL (bH t.1.length));have q6:=P8 (N:=N) (bH t.1.length) (t.2.map qx) (bH t.1.length) ((t.2.map qx).foldl kC (mL (bH t.1.length))) ((bH t.1.length).foldl (rY ((t.2.map qx).foldl kC (mL (bH t.1.length)))) []) nd N (aa5 ((t.2.map qx).foldl kC (mL (bH t.1.length))).length) (by rw [ab3]; unfold dC at hN; omega) acM (λ i hi=>acg.1 hi);rw [vS] at q6;obtain ⟨r,q7,er⟩:=ZW hN (bH t.1.length) (bH t.1.length) hl (t.2.map qx) (fR (bH t.1.length) (t.2.map qx)) ((bH t.1.length).foldl (rY ((t.2.map qx).foldl kC (mL (bH t.1.length)))) []) (((t.2.map qx).foldl kC (mL (bH t.1.length))).length:Int) [] ⟨[],rfl⟩;have z1:decide ((0:Int)<=0/\(0:Int)<=((t.2.length:Nat):Int)/\((t.2.length:Nat):Int)<=140737488355328/\((t.2.length:Nat):Int)*16<=140737488355328)=true:=decide_eq_true (by omega);have z2:decide ((0:Int)<=0/\(0:Int)<=((t.1.length:Nat):Int)/\((t.1.length:Nat):Int)<=140737488355328/\((t.1.length:Nat):Int)*8<=140737488355328)=true:=decide_eq_true (by omega);have r0:∀ x:AV,ady 0 x=[]:=λ _=>rfl
 have tz:toNat 0=0:=rfl;have nb0:aca 0 ([]:List AV).length=true:=rfl;have f23:allFit (fits xL) ([]:List AV)=true:=rfl;have m23:map d106 ([]:List AV)=[]:=rfl;have u0:dT (map n2 ([]:List Int))=[]:=rfl;have fz0:fw []=[]:=rfl;have u00:dT ([]:List AV)=[]:=rfl;have lz:hX []=[]:=rfl;have f2:allFit (fits p2) ([]:List AV)=true:=rfl;have m2:map d2 ([]:List AV)=[]:=rfl;have eU:fR (bH t.1.length) (t.2.map qx)=((t.2.map qx).foldl kC (mL (bH t.1.length))).map λ e=>(e.1,ar ((bH t.1.length).foldl (rY ((t.2.map qx).foldl kC (mL (bH t.1.length)))) []) e.2):=rfl
 rw [eU] at q7;have d0:decide ((0:Nat)=([]:List AV).length)=true:=rfl;have d0:decide ((0:Nat)=0)=true:=rfl;have apj:aca 0 0=true:=rfl;rw [afA];simp only [akL,akM,adT,adi,d0,zB16,zB4,q1,zB3,z1,tz,r0,nb0,apj,f23,m23,q2,gy,gz,c0_,VB,VC,a0_,q3,zB20,q4,q5,B1,q6,iY,z2,u0,u00,lz,fz0,f2,m2,aaK,q7,er,cl3];rfl
end
def VD:∀ l:List (Int×Int),au (map n132 l) (map n132 l)=true
 |[]=>rfl
 |x::l=>by
  rw [adk,au,VD l];show (au [aI x.1,aI x.2] [aI x.1,aI x.2]&&true)=true;simp [au,eC,ur]
def mw:∀ l:List rk,au (map n131 l) (map n131 l)=true
 |[]=>rfl
 |x::l=>by
  rw [adk,au,mw l];have e:au (map n132 x.2) (map n132 x.2)=true:=VD x.2;show (au [AV.str x.1,AV.list .bV 2 (map n132 x.2)] [AV.str x.1,AV.list .bV 2 (map n132 x.2)]&&true)=true;simp only [au,eC,ur,e,beq_self_eq_true,adh,aaJ]
def my:∀ l:List mi,au (map n110 l) (map n110 l)=true
 |[]=>rfl
 |x::l=>by
  rw [adk,au,my l];show (au [aI x.1,aI x.2.1,aI x.2.2.1,aI x.2.2.2.1,AV.bool x.2.2.2.2] [aI x.1,aI x.2.1,aI x.2.2.1,aI x.2.2.2.1,AV.bool x.2.2.2.2]&&true)=true;simp [au,eC,ur]
def kr (t:bh) (p:Int):Nat:=((t.1.getD p.toNat ([],[])).2).length
def cg (t:bh) (e:Int×Int):Int×Int:=(e.1,Int.tmod (wrap .i64 (e.2+1)) (kr t e.1:Int))
def Ok (t:bh) (e:Int×Int):Bool:=decide (0<=e.1)&&decide (e.1 < (t.1.length:Int))&&!(kr t e.1 == 0)
def ZX (t:bh) (s:mi):Bool:=Ok t (s.1,s.2.1)&&Ok t (s.2.2.1,s.2.2.2.1)
def dI (t:bh) (s:mi):(Int×Int×Int×Int)×(Int×Int×Int×Int):=
 let a0:=(s.1,s.2.1)
 let a1:=cg t a0
 let b0:=(s.2.2.1,s.2.2.2.1)
 let b1:=cg t b0
 if s.2.2.2.2 then ((a0.1,a0.2,b0.1,b0.2),(a1.1,a1.2,b1.1,b1.2)) else ((a0.1,a0.2,b1.1,b1.2),(a1.1,a1.2,b0.1,b0.2))
def afV {e:Int×Int} (h:Ok t e=true):0<=e.1/\e.1 < (t.1.length:Int)/\kr t e.1≠0:=by
 unfold Ok at h;simp only [acN,decide_eq_true_eq,Bool.not_eq_true',beq_eq_false_iff_ne] at h;exact ⟨h.1.1,h.1.2,h.2⟩
def pQ (N:Nat) (t:bh) (e:Int×Int) (h:Ok t e=true):tA N (t,e)=some (e.1,e.2,(cg t e).1,(cg t e).2):=by
 obtain ⟨h1,h2,h3⟩:=afV h;obtain ⟨k,hk⟩:∃ k:Nat,e.1=(k:Int):=⟨e.1.toNat,by omega⟩;have Ar:k < t.1.length:=by omega
 obtain ⟨a1,a2⟩:=kE t.1 Ar;have es:t.1[k].2.length=kr t e.1:=by
  unfold kr;rw [hk,aaK,adl,ab6 Ar];rfl
 have d:(!(decide (((kr t e.1:Nat):Int)=0)))=true:=by rw [decide_eq_false (by omega)]; rfl
 rw [show tA N (t,e)=tA N ((t.1,t.2),(e.1,e.2)) from rfl,Zu];simp only [hk,zB11,af Ar,a1,a2,zB17];rw [es,d,cond_true,<- hk];rfl
def RZ (N:Nat) (t:bh) (s:mi) (h:ZX t s=true):Vq N (t,s)=some ((dI t s).1.1,(dI t s).1.2.1,(dI t s).1.2.2.1,(dI t s).1.2.2.2,(dI t s).2.1,(dI t s).2.2.1,(dI t s).2.2.2.1,(dI t s).2.2.2.2):=by
 unfold ZX at h;rw [acN] at h;have q1:=pQ N t (s.1,s.2.1) h.1;have q2:=pQ N t (s.2.2.1,s.2.2.2.1) h.2;rw [Zw];have q1':tA N ((t.1,t.2),(s.1,s.2.1))=_:=q1;have q2':tA N ((t.1,t.2),(s.2.2.1,s.2.2.2.1))=_:=q2;simp only [zB6,zB4,q1',q2',mw,my];unfold dI;cases hs:s.2.2.2.2
 .simp only [adF,cond_true,aad,zB14]
 .simp only [adR,cond_false,aad,if_true]
def fg (t:bh):List (Int×Int×Int×Int):=t.2.flatMap λ s=>[(dI t s).1,(dI t s).2]
def eP (p:Nat) (n:Nat):List (Int×Int):=(aa5 n).map λ i:Nat=>((p:Int),(i:Int))
def eH:List rk->Nat->List (Int×Int)
 |[],_=>[]
 |x::l,p=>eP p x.2.length++eH l (p+1)
def bM (t:bh):List (Int×Int):=eH t.1 0
def B3 (p:Int×Int×Int×Int):(Int×Int)×(Int×Int):=((p.1,p.2.1),(p.2.2.1,p.2.2.2))
def aB (t:bh):List ((Int×Int)×Int):=fR (bM t) ((fg t).map B3)
def ZY (l:List (Int×Int×Int×Int)) (a b:Int×Int×Int×Int):map n189 l++[AV.agg [aI a.1,aI a.2.1,aI a.2.2.1,aI a.2.2.2],AV.agg [aI b.1,aI b.2.1,aI b.2.2.1,aI b.2.2.2]]=map n189 (l++[a,b]):=by rw [ab9]; rfl
def Ol (t:bh) (hk:k < t.2.length):(t.2.take (k+1)).flatMap (λ s=>[(dI t s).1,(dI t s).2])=(t.2.take k).flatMap (λ s=>[(dI t s).1,(dI t s).2])++[(dI t t.2[k]).1,(dI t t.2[k]).2]:=by
 rw [acP,ab6 hk,List.flatMap_append];rfl
def Hl (t:bh) (l:List mi):(l.flatMap (λ s=>[(dI t s).1,(dI t s).2])).length=2*l.length:=by
 induction l with
 |nil=>rfl
 |cons s l ih=>rw [List.flatMap_cons,acJ,ih,aci]; simp only [aci,adi]; omega
def tG:∀ (l:List rk) (p:Nat) (x:rk),eH (l++[x]) p=eH l p++eP (p+l.length) x.2.length
 |[],p,x=>by simp [eH]
 |y::l,p,x=>by
  rw [List.cons_append,eH,tG l (p+1) x,eH,List.append_assoc,aci];rw [show p+1+l.length=p+(l.length+1) by omega]
def vV:∀ (l:List rk) (p:Nat),(∀ x∈l,x.2.length<=1000)->(eH l p).length<=1000*l.length
 |[],_,_=>Nat.le_refl _
 |x::l,p,h=>by
  have ih:=vV l (p+1) λ y hy=>h y (adP _ hy)
  have:=h x List.mem_cons_self;rw [eH,acJ,aci];simp only [eP,aag,ab3];omega
section
variable (hN:dC N)
include hN
theorem ZZ (t:bh) (h:t.2.length<=1000000) (ho:∀ s∈t.2,ZX t s=true):ao (ET N t) N ([],0)=some (fg t):=by
 have key:=aL (rd:=ET N t) t.2.length (λ k=>((t.2.take k).flatMap (λ s=>[(dI t s).1,(dI t s).2]),(k:Int))) (fg t) (λ k hk=>by
  obtain ⟨a1,a2⟩:=Lm t.2 hk;have q:=RZ N t t.2[k] (ho _ (ab1 hk));have q:Vq N ((t.1,t.2),(t.2[k].1,t.2[k].2.1,t.2[k].2.2.1,t.2[k].2.2.2.1,t.2[k].2.2.2.2))=_:=q;have hl:=Hl t (t.2.take k);have ht:(t.2.take k).length=k:=by rw [acu]; omega
  rw [ht] at hl;have Yw:((t.2.take k).flatMap (λ s=>[(dI t s).1,(dI t s).2])++[(dI t t.2[k]).1,(dI t t.2[k]).2]).length=2*k+2:=by rw [acJ,hl]; rfl
  have d2:decide ((2*k+2)*32<=140737488355328)=true:=decide_eq_true (by omega);have sn:=ZY ((t.2.take k).flatMap (λ s=>[(dI t s).1,(dI t s).2])) (dI t t.2[k]).1 (dI t t.2[k]).2;simp only [ET,zB7,aaK,ai hk,af hk,a1,a2,zB8,q,hl,d2,sn,iu,iw,Yw,Ol t hk,aN (show k < 9223372036854775807 by omega),zB4,zB16,afE,afD]) (by
  simp only [ET,zB7,ay,acV,iu,iw,zB0,zB16,afE,afD];rfl) N 0 (abC _) (by unfold dC at hN; omega)
 exact key
theorem VE (t:bh) (J:List (Int×Int×Int×Int)) (p:Nat) (hp:p < t.1.length) (hs:t.1[p].2.length<=1000) (acc:List (Int×Int)) (ha:acc.length<=1000000) (v3:List (Int×Int)):ao (lZ N J ((p:Int),t.1,t.2,v3)) N (0,t.1,t.2,acc)=some (t.1,t.2,acc++eP p t.1[p].2.length):=by
 obtain ⟨a1,a2⟩:=kE t.1 hp;have key:=aL (rd:=lZ N J ((p:Int),t.1,t.2,v3)) t.1[p].2.length (λ k=>((k:Int),t.1,t.2,acc++eP p k)) (t.1,t.2,acc++eP p t.1[p].2.length) (λ k hk=>by
  have cl:(acc++eP p k).length=acc.length+k:=by rw [acJ]; simp [eP]
  have cs:acc++eP p k++[((p:Int),(k:Int))]=acc++eP p (k+1):=by
   rw [List.append_assoc]; congr 1; unfold eP; rw [List.range_succ,ab9]; rfl
  have cl2:(acc++eP p (k+1)).length=acc.length+k+1:=by rw [acJ]; simp [eP]; omega
  have d2:decide ((acc.length+k+1)*16<=140737488355328)=true:=decide_eq_true (by omega);simp only [lZ,zB7,aaK,a1,ai hk,cl,d2,ZT,cs,cl2,zB8,gS,gT,aN (show k < 9223372036854775807 by omega),zB4,zB16,RV]) (by
  simp only [lZ,zB7,aaK,a1,ay,zB8,gS,gT,zB0,zB16,RV]) N 0 (abC _) (by unfold dC at hN; omega)
 have e0:acc++eP p 0=acc:=by simp [eP]
 rw [e0] at key;exact key
theorem VF (t:bh) (J:List (Int×Int×Int×Int)) (h:t.1.length<=1000) (hs:∀ x∈t.1,x.2.length<=1000):ao (rX N t J) N (0,t.1,t.2,[])=some (t.1,t.2,bM t):=by
 have key:=aL (rd:=rX N t J) t.1.length (λ k=>((k:Int),t.1,t.2,eH (t.1.take k) 0)) (t.1,t.2,bM t) (λ k hk=>by
  obtain ⟨a1,a2⟩:=kE t.1 hk;have hc:=vV (t.1.take k) 0 λ x hx=>hs x (List.mem_of_mem_take hx)
  have ht:(t.1.take k).length=k:=by rw [acu]; omega
  rw [ht] at hc;have q:=VE hN t J k hk (hs _ (ab1 hk)) (eH (t.1.take k) 0) (by omega) (eH (t.1.take k) 0);have es:eH (t.1.take (k+1)) 0=eH (t.1.take k) 0++eP k t.1[k].2.length:=by
   rw [acP,ab6 hk];show eH (t.1.take k++[t.1[k]]) 0=_;rw [tG,ht,adf]
  simp only [rX,zB7,aaK,ai hk,af hk,a2,q,<- es,zB8,gS,gT,aN (show k < 9223372036854775807 by omega),zB4,zB16,RV,ZG]) (by
  simp only [rX,zB7,ay,acV,zB8,gS,gT,zB0,zB16,RV,ZG];rfl) N 0 (abC _) (by unfold dC at hN; omega)
 exact key
theorem tH (t:bh) (h1:t.1.length<=1000) (hs:∀ x∈t.1,x.2.length<=1000) (h2:t.2.length<=100000) (ho:∀ s∈t.2,ZX t s=true):RU N t=some (aB t):=by
 have q1:=ZZ hN t (by omega) ho;have q2:=VF hN t (fg t) h1 hs;have hl:(bM t).length<=1000000:=by
  have:=vV t.1 0 hs;unfold bM;omega
 have hp:(fg t).length<=1000000:=by
  have:=Hl t t.2;unfold fg;omega
 have nl:=Ln (bM t);have q3:=ZQ hN (bM t) (bM t) (fg t) t.1 t.2 (bM t) hl;have fe:∀ m:List ((Int×Int)×Int),(fg t).foldl (λ s p=>kC s ((p.1,p.2.1),(p.2.2.1,p.2.2.2))) m=((fg t).map B3).foldl kC m:=λ m=>by rw [List.foldl_map]; rfl
 have q4:=ZR hN (bM t) (fg t) (bM t) (fg t) t.1 t.2 (bM t) (mL (bM t)) hp (by omega) (tF _);rw [fe] at q4;have nd:=Hj ((fg t).map B3) (mL (bM t)) (tF _);have q5:=afO hN (bM t) (fg t) (bM t) (fg t) t.1 t.2 (bM t) (((fg t).map B3).foldl kC (mL (bM t))) hl;have q6:=P9 (N:=N) (bM t) (fg t) (bM t) (fg t) t.1 t.2 (bM t) (((fg t).map B3).foldl kC (mL (bM t))) ((bM t).foldl (rY (((fg t).map B3).foldl kC (mL (bM t)))) []) nd N (aa5 (((fg t).map B3).foldl kC (mL (bM t))).length) (by rw [ab3,Qa]; unfold dC at hN; omega) acM (λ i hi=>acg.1 hi);rw [vS] at q6;have d0:decide ((0:Nat)=0)=true:=rfl;rw [afL];simp only [afR,afS,afP,afQ,adT,adi,d0,zB16,zB4,q1,zB7,zB8,gS,gT,iu,iw,q2,c0_,afT,afU,a0_,VB,VC,q3,zB21,q4,q5,zB20,zz,q6];rfl
end
abbrev p4:aF:=.bool
abbrev d4 (v:AV):Bool:=aF.bW p4 v
abbrev n4 (x:Bool):AV:=aF.enc p4 x
abbrev p37:aF:=tZ
abbrev d37 (v:AV):List cj:=aF.bW p37 v
abbrev n37 (x:List cj):AV:=aF.enc p37 x
abbrev L37 (l:List aj):=map n37 l
def apk (x:List cj):fits p37 (n37 x)=true:=(aF.bt p37 x rfl).1
def apl (x:List cj):d37 (n37 x)=x:=(aF.bt p37 x rfl).2
abbrev kU:aF:=BT
abbrev d119 (v:AV):Int×Int×Bool:=aF.bW kU v
abbrev n119 (x:Int×Int×Bool):AV:=aF.enc kU x
abbrev gG (l:List iM):=map n119 l
abbrev Om (l:List iM):=allFit (fits kU) (map n119 l)
abbrev Gk (l:List iM):=map d119 (map n119 l)
def eR (l:List iM):allFit (fits kU) (map n119 l)=true:=cA (p:=kU) rfl l
def eS (l:List iM):map d119 (map n119 l)=l:=eO (p:=kU) rfl l
def acT (x:Int×Int×Bool):fits kU (n119 x)=true:=(aF.bt kU x rfl).1
def acU (x:Int×Int×Bool):d119 (n119 x)=x:=(aF.bt kU x rfl).2
def apm:List (Nat×dF):=[(12,.join [(.norm,⟨(.cons .bool .nil),[13],[],[],[],[]⟩)]),
 (58,.loop [] ⟨(pl [.str,pI]),[],[],[],[.Mo],[]⟩ [(.ex 0,⟨(pl [.str,pI]),[],[],[],[.Mo],[]⟩),(.ret,⟨(pl [.bool,.str,pI]),[2],[],[],[.Mo],[]⟩)]),
 (3738,.join [(.norm,⟨(pl [.bool,.str,pI]),[5],[],[],[.Mo],[]⟩)]),
 (7478,.join [(.norm,⟨(pl [.bool,.str,pI]),[51],[],[],[.Mo],[]⟩)])]
def Z0 (N:Nat):fj->Option Bool:=(cx N [] [(132,apm)]).fn 1000 132 (.cons .str .nil) .bool
def akN (N:Nat):bJ:=⟨(.cons .str .nil),.bool,Z0 N⟩
def Z1 (N:Nat):aK cd 132 (akN N):=jj.dQ oV
def zA (N:Nat) (v2:fj×Int):Option ((fj×Int)⊕((fj×Int)⊕(Bool×fj×Int))):=
 let l2:=(toNat v2.2); let l1:=(iQ v2.1 l2); let l6:=(l2+l1.2); let l5:=(decide (((l1.1:Nat):Int)>=97)); let l4:=(decide (((l1.1:Nat):Int)<=122)); (bif Nat.blt l2 (aaR v2.1) then (((bif (decide (((l1.1:Nat):Int)>=65)) then (bif (decide (((l1.1:Nat):Int)<=90)) then (some (true,v2.1,((l6:Nat):Int))) else (bif l5 then (some (l4,v2.1,((l6:Nat):Int))) else (some (false,v2.1,((l6:Nat):Int))))) else (bif l5 then (some (l4,v2.1,((l6:Nat):Int))) else (some (false,v2.1,((l6:Nat):Int))))):Option ((Bool×fj×Int))).bind λ o3=>let l3:=(toNat o3.2.2); (((bif (!o3.1) then (bif (((l2:Nat):Int) == 0) then (some (true,o3.2.1,((l3:Nat):Int))) else (bif (((l1.1:Nat):Int) != 95) then (bif (decide (((l1.1:Nat):Int) < 48)) then (some (true,o3.2.1,((l3:Nat):Int))) else (some ((decide (((l1.1:Nat):Int) > 57)),o3.2.1,((l3:Nat):Int)))) else (some (false,o3.2.1,((l3:Nat):Int))))) else (some (false,o3.2.1,((l3:Nat):Int)))):Option ((Bool×fj×Int))).bind λ o4=>(bif o4.1 then (some (aaN (aaN (false,o4.2.1,(((toNat o4.2.2):Nat):Int))))) else (some (aaS (o4.2.1,(((toNat o4.2.2):Nat):Int))))))) else (some (aaN (aaS (v2.1,((l2:Nat):Int))))))
def Z2 (N:Nat) (a0:List UInt8):Z0 N a0 =
 (((bif ((((a0).length:Nat):Int) == 0) then (some true) else (some (decide ((((a0).length:Nat):Int) > 24)))):Option Bool).bind λ o1=>(bif o1 then some false else ((ao (zA N) N (a0,((0:Nat):Int))).bind λ o9=>(acO (λ XG=>some true) (λ UM=>some UM.1) o9)))):=by kernel_rfl
def c98:List (Nat×dF):=[(26,.loop [] ⟨(.ci .nil),[12],[],[],[],[]⟩ [(.ret,⟨(.ci .nil),[2],[],[],[],[]⟩),(.ex 0,⟨.nil,[],[],[],[],[]⟩)]),
 (13516,.join [(.norm,⟨(pl [pI,.str,aR]),[6],[],[],[.row 2],[]⟩)]),
 (27038,.loop [] ⟨(pl [pI,.str,aR]),[48],[],[],[.row 2],[]⟩ [(.ret,⟨(pl [pI,.str,aR]),[2],[],[],[.row 2],[]⟩),(.ex 2,⟨(pl [.str,aR]),[],[],[],[.row 2],[]⟩)])]
def Z3:List (Nat×dF):=[(1,.join [(.ret,⟨(pl [pI,.str,aR]),[4],[],[],[.row 2],[]⟩)]),
 (26,.loop [] ⟨(pl [pI,.str,aR]),[8],[],[],[.row 2],[]⟩ [(.ret,⟨(pl [pI,.str,aR]),[4],[],[],[.row 2],[]⟩),(.ex 0,⟨(pl [.str,aR]),[],[],[],[.row 2],[]⟩)])]
def T98 (N:Nat):aP->Option Int:=(cx N [(59,e59 N),(77,e77 N),(97,e97 N),(132,akN N)] [(98,c98),(141,Z3)]).fn 1000 98 (.cons cp .nil) (.int .i64)
def e98 (N:Nat):bJ:=⟨(.cons cp .nil),(.int .i64),T98 N⟩
def afX (N:Nat):aK cd 98 (e98 N):=jj.dQ (jw (xM N) (jw (ER N) (jw (afu N) (jw (Z1 N) oV))))
def xQ (x0:Int) (x1:fj) (x2:aj):Option BV:=
 bif (akv x2&&true) then some (x0,x1,(akw x2)) else none
def IT (x0:fj) (x1:aj):Option lu:=
 bif (akv x1&&true) then some (x0,(akw x1)) else none
def pR (N:Nat) (a0:List lu) (v1:Int) (v2:Int×fj×aj):Option (BV⊕(BV⊕lu)):=
 let l1:=(Az 0 (toNat v1) (cE a0)); (bif (decide (v2.1 < (((l1).length:Nat):Int))) then bif (decide ((0:Int)<=v2.1/\v2.1 < ((l1).length:Int))&&fits fY (an l1 (toNat v2.1))) then (bif ((d131 (an l1 (toNat v2.1))).1 == v2.2.1) then ((((xQ v2.1 v2.2.1 v2.2.2).bind λ w3=>some w3).bind λ u4=>some (aaS u4)).bind λ u5=>some (aaN u5)) else (((xQ (wrap .i64 (v2.1+1)) v2.2.1 v2.2.2).bind λ w6=>some w6).bind λ u7=>some (aaS u7))) else none else ((((IT v2.2.1 v2.2.2).bind λ w8=>some w8).bind λ u9=>some (aaN u9)).bind λ ZB=>some (aaN ZB)))
def rZ (N:Nat) (tC:BV) (mK:Int×fj×aj):Option (BV⊕(BV⊕lu)):=
 let l2:=(zw tC.2.2); let l1:=(an l2 (toNat mK.1)); (bif (decide (mK.1 < (((l2).length:Nat):Int))) then bif (decide ((0:Int)<=mK.1/\mK.1 < ((l2).length:Int))&&fits EO l1) then (T97 N ((d132 l1).1,1,10000)).bind λ y34=>bif (((d132 l1).2 == (d132 l1).2)&&true) then (T97 N ((d132 l1).2,(-100000),100000)).bind λ y35=>((bif (allFit (fits Hh) [(aI y34),(aI y35)]&&true) then some (map d29 [(aI y34),(aI y35)]) else none).bind λ x37=>(IQ N x37).bind λ y36=>(bif (y36 != 0) then ((((xQ y36 mK.2.1 mK.2.2).bind λ Lj=>some Lj).bind λ u39=>some (aaS u39)).bind λ u40=>some (aaN u40)) else (((xQ (wrap .i64 (mK.1+1)) mK.2.1 mK.2.2).bind λ Vu=>some Vu).bind λ u42=>some (aaS u42)))) else none else none else ((((IT mK.2.1 mK.2.2).bind λ R5=>some R5).bind λ u44=>some (aaN u44)).bind λ u45=>some (aaN u45)))
def IU (x0:Int) (x1:fj) (x2:List AV):Option BV:=
 bif (allFit (fits EO) x2&&true) then some (x0,x1,(map d132 x2)) else none
def IV (N:Nat) (a0:List lu) (v1:Int):Option vc:=
 let l5:=(cE a0); let l4:=fj; let l3:=(an l5 (toNat v1)); (bif (decide (v1 < (((l5).length:Nat):Int))) then bif (decide ((0:Int)<=v1/\v1 < ((l5).length:Int))&&fits fY l3) then bif (decide ((0:Int)<=v1/\v1<=((l5).length:Int))&&true) then (((((IU 0 ((d131 l3).1) (zw (d131 l3).2)).bind λ ZC=>some ZC).bind λ x17=>(ao (pR N a0 v1) N x17).bind λ Z4=>(acO (λ Gl=>((xQ Gl.1 Gl.2.1 Gl.2.2).bind λ Z5=>some Z5)) (λ Cs=>((xQ (-1) Cs.1 Cs.2).bind λ ZD=>some ZD)) Z4)):Option ((Int×l4×aj))).bind λ On=>let l2:=(zw On.2.2); let l1:=(((((l2).length:Nat):Int) == (((l2).length:Nat):Int))&&(au l2 l2&&true)); (((Z0 N On.2.1).bind λ As=>bif l1 then (Gh N ((!As),8)).bind λ Qb=>let l6:=(aI Qb); bif l1 then (Gh N ((decide (On.1>=0)),9)).bind λ y21=>let l7:=(aI y21); bif l1 then (bif (decide ((((l2).length:Nat):Int) < 3)) then (Gh N (true,2)).bind λ y22=>((bif (allFit (fits Hh) [l6,l7,(aI y22)]&&true) then some (map d29 [l6,l7,(aI y22)]) else none).bind λ x24=>(IQ N x24).bind λ Z6=>((xQ Z6 On.2.1 On.2.2).bind λ Z7=>some Z7)) else (Gh N ((decide ((((l2).length:Nat):Int) > 8)),2)).bind λ y26=>((bif (allFit (fits Hh) [l6,l7,(aI y26)]&&true) then some (map d29 [l6,l7,(aI y26)]) else none).bind λ x28=>(IQ N x28).bind λ y27=>((xQ y27 On.2.1 On.2.2).bind λ Tl=>some Tl))) else none else none else none:Option ((Int×l4×aj))).bind λ tC=>(bif (tC.1 != 0) then (some (aaN (aaS tC.1))) else (((xQ 0 tC.2.1 tC.2.2).bind λ To=>some To).bind λ x52=>(ao (rZ N tC) N x52).bind λ Hi=>(acO (λ Z8=>(some (aaN (aaS Z8.1)))) (λ o49=>(some (aaS (wrap .i64 (v1+1))))) Hi))))) else none else none else (some (aaN (aaN ()))))
def af2 (N:Nat) (a0:List lu):T98 N a0 =
 ((ao (IV N a0) N 0).bind λ o55=>(acO (λ o56=>some o56) (λ BY=>some 0) o55)):=by kernel_rfl
def c89:List (Nat×dF):=[(12,.join [(.norm,⟨(.cons .bool .nil),[22],[],[],[],[]⟩)]),
 (58,.loop [] ⟨(.ci .nil),[25],[],[],[],[]⟩ [(.ret,⟨(.ci .nil),[6],[],[],[],[]⟩),(.ex 0,⟨.nil,[],[],[],[],[]⟩)]),
 (62,.join [(.norm,⟨(.ci .nil),[6],[],[],[],[]⟩)]),
 (7474,.join [(.norm,⟨(.cons .bool .nil),[54],[],[],[],[]⟩)])]
def T89 (N:Nat):dx×ms×aG->Option Int:=(cx N [(59,e59 N),(77,e77 N),(85,e85 N),(88,e88 N)] [(89,c89)]).fn 1000 89 (.cons cJ (.cons wY (.cons cm .nil))) (.int .i64)
def e89 (N:Nat):bJ:=⟨(.cons cJ (.cons wY (.cons cm .nil))),(.int .i64),T89 N⟩
def af4 (N:Nat):aK cd 89 (e89 N):=jj.dQ (jw (xM N) (jw (ER N) (jw (Ob N) (jw (Od N) oV))))
def EX (N:Nat) (a1:Int×Int×Int×Int×Bool) (a2:List ms) (v6:Int):Option vc:=
 let l2:=(dc a2); let l1:=(d110 (an l2 (toNat v6))); (bif (decide (v6 < (((l2).length:Nat):Int))) then bif (decide ((0:Int)<=v6/\v6 < ((l2).length:Int))&&fits ir (an l2 (toNat v6))) then (((bif ((a1.1 == l1.1)&&((a1.2.1 == l1.2.1)&&true)) then (some true) else (bif ((a1.1 == l1.2.2.1)&&((a1.2.1 == l1.2.2.2.1)&&true)) then (some true) else (bif ((a1.2.2.1 == l1.1)&&((a1.2.2.2.1 == l1.2.1)&&true)) then (some true) else (some ((a1.2.2.1 == l1.2.2.1)&&((a1.2.2.2.1 == l1.2.2.2.1)&&true)))))):Option Bool).bind λ o7=>(bif o7 then (some (aaN (aaS 9))) else (some (aaS (wrap .i64 (v6+1)))))) else none else (some (aaN (aaN ()))))
def af5 (N:Nat) (a0:aP×aG) (a1:Int×Int×Int×Int×Bool) (a2:List ms):T89 N (a0,a1,a2) =
 (let l7:=fj; let l3:=(dc a0.2); let l5:=(map d110 l3); let l2:=(cE a0.1); let l4:=(map d131 l2); let l1:=((allFit (fits fY) l2&&(allFit (fits ir) l3&&true))&&true); ((((bif l1 then some ((l4,l5),(a1.1,a1.2.1)) else none).bind λ x2=>(Oa N x2).bind λ y1=>(bif (!y1) then (some true) else ((bif l1 then some ((l4,l5),(a1.2.2.1,a1.2.2.2.1)) else none).bind λ x4=>(Oa N x4).bind λ y3=>(some (!y3))))):Option Bool).bind λ o5=>(bif o5 then some 10 else ((ao (EX N a1 a2) N 0).bind λ Z4=>(acO (λ Gl=>some Gl) (λ Cs=>((bif l1 then some ((l4,l5),(a1.1,a1.2.1)) else none).bind λ x16=>(Oc N x16).bind λ y15=>bif (((a1.2.2.1 == a1.2.2.1)&&((a1.2.2.2.1 == a1.2.2.2.1)&&true))&&((au l2 l2&&(au l3 l3&&true))&&true)) then ((bif l1 then some ((l4,l5),(a1.2.2.1,a1.2.2.2.1)) else none).bind λ x18=>(Oc N x18).bind λ yk=>(((Gh N (((a1.1 == a1.2.2.1)&&((a1.2.1 == a1.2.2.2.1)&&true)),9)).bind λ As=>let l6:=(aI As); (bif (decide (y15.1 > (wrap .i64 (2*yk.1)))) then (Gh N (true,24)).bind λ Qb=>((bif (allFit (fits Hh) [l6,(aI Qb)]&&true) then some (map d29 [l6,(aI Qb)]) else none).bind λ x22=>(IQ N x22).bind λ y21=>(some y21)) else (Gh N ((decide (yk.1 > (wrap .i64 (2*y15.1)))),24)).bind λ Z6=>((bif (allFit (fits Hh) [l6,(aI Z6)]&&true) then some (map d29 [l6,(aI Z6)]) else none).bind λ x25=>(IQ N x25).bind λ y24=>(some y24))):Option Int).bind λ o26=>some o26)) else none)) Z4))))):=by kernel_rfl
def c56:List (Nat×dF):=[(58,.loop [] ⟨(.ci .nil),[38],[],[],[],[]⟩ [(.ret,⟨(.ci .nil),[2],[],[],[],[]⟩),(.ex 0,⟨.nil,[],[],[],[],[]⟩)])]
def Mr (N:Nat):dx->Option Int:=(cx N [(59,e59 N),(77,e77 N),(89,e89 N),(98,e98 N)] [(56,c56)]).fn 1000 56 (.cons cJ .nil) (.int .i64)
def e56 (N:Nat):bJ:=⟨(.cons cJ .nil),(.int .i64),Mr N⟩
def IW (N:Nat):aK cd 56 (e56 N):=jj.dQ (jw (xM N) (jw (ER N) (jw (af4 N) (jw (afX N) oV))))
def EY (N:Nat) (a0:aP×aG) (v8:Int):Option vc:=
 let l3:=(toNat v8); let l1:=(dc a0.2); let l2:=(d110 (an l1 l3)); (bif (decide (v8 < (((l1).length:Nat):Int))) then bif (decide ((0:Int)<=v8/\v8 < ((l1).length:Int))&&fits ir (an l1 l3)) then bif (decide ((0:Int)<=v8/\v8<=((l1).length:Int))&&true) then ((bif ((mI a0.1&&(allFit (fits ir) l1&&true))&&(allFit (fits ir) (Az 0 l3 l1)&&true)) then some (((jH a0.1),(map d110 l1)),(l2.1,l2.2.1,l2.2.2.1,l2.2.2.2.1,l2.2.2.2.2),(map d110 (Az 0 l3 l1))) else none).bind λ NN=>(T89 N NN).bind λ y9=>(bif (y9 != 0) then (some (aaN (aaS y9))) else (some (aaS (wrap .i64 (v8+1)))))) else none else none else (some (aaN (aaN ()))))
def af7 (N:Nat) (a0:aP×aG):Mr N a0 =
 (let l2:=(dc a0.2); let l4:=((((l2).length:Nat):Int) == (((l2).length:Nat):Int)); let l1:=(cE a0.1); let l6:=(Az 0 (toNat (if 16 < (((l1).length:Nat):Int) then 16 else (((l1).length:Nat):Int))) l1); let l5:=((((l1).length:Nat):Int) == (((l1).length:Nat):Int)); let l3:=((if 16 < (((l1).length:Nat):Int) then 16 else (((l1).length:Nat):Int)) == (if 16 < (((l1).length:Nat):Int) then 16 else (((l1).length:Nat):Int))); bif (decide ((0:Int)<=(if 16 < (((l1).length:Nat):Int) then 16 else (((l1).length:Nat):Int))/\(if 16 < (((l1).length:Nat):Int) then 16 else (((l1).length:Nat):Int))<=((l1).length:Int))&&true) then (Gh N (((((l1).length:Nat):Int) == 0),12)).bind λ y1=>bif (l4&&(au l2 l2&&(l3&&(l5&&(au l1 l1&&(au l1 l1&&(l5&&(au l1 l1&&true)))))))) then (Gh N ((decide ((((l1).length:Nat):Int) > 16)),5)).bind λ y2=>bif (l4&&(au l2 l2&&(l3&&(l5&&(au l1 l1&&(au l1 l1&&true)))))) then ((bif (allFit (fits fY) l6&&true) then some (map d131 l6) else none).bind λ x4=>(T98 N x4).bind λ y3=>bif (l4&&(au l2 l2&&true)) then (Gh N ((decide ((((l2).length:Nat):Int) > 64)),5)).bind λ y5=>((bif (allFit (fits Hh) [(aI y1),(aI y2),(aI y3),(aI y5)]&&true) then some (map d29 [(aI y1),(aI y2),(aI y3),(aI y5)]) else none).bind λ x7=>(IQ N x7).bind λ y6=>(bif (y6 != 0) then some y6 else ((ao (EY N a0) N 0).bind λ o15=>(acO (λ o16=>some o16) (λ o17=>some 0) o15)))) else none) else none else none else none):=by kernel_rfl
def apu:List (Nat×dF):=[(26,.loop [] ⟨(pl [pI,pI,pI]),[12],[],[(4,2)],[],[]⟩ [(.ret,⟨(pl [pI,.bool,pI,pI]),[5,6],[],[(4,2)],[],[]⟩),(.ex 0,⟨(pl [pI,pI]),[],[],[(4,2)],[],[]⟩)])]
def apv (N:Nat):dx×cj->Option (cj×Int×Bool):=(cx N [] [(135,apu)]).fn 1000 135 (.cons cJ (.cons bI .nil)) (.cD (.cons bI (.ci (.cons .bool .nil))))
def af9 (N:Nat):bJ:=⟨(.cons cJ (.cons bI .nil)),(.cD (.cons bI (.ci (.cons .bool .nil)))),apv N⟩
def Qd (N:Nat):aK cd 135 (af9 N):=jj.dQ oV
def c99:List (Nat×dF):=[(117,.join [(.norm,⟨(pl [cp,cm,.own 5 2 bI,cp,cm]),[],[],[],[.row 2,.rw,.row 2,.kp,.lp .busy,.tok 2 2 100],[]⟩)])]
def Z9:List (Nat×dF):=[(6,.loop [(.row 1 0,2,100)] ⟨(pl [pI,cp,cm,.own 5 2 bI,cp,cm]),[8],[],[],[.row 2,.rw,.row 2,.kp,.lp .open_,.tok 3 2 100],[]⟩ [(.ex 0,⟨(pl [cp,cm,.own 5 2 bI,cp,cm]),[],[],[],[.row 2,.rw,.row 2,.kp,.lp .open_,.tok 2 2 100],[]⟩)]),
 (1638,.loop [] ⟨(pl [pI,cp,cm,.own 5 2 bI,cp,cm]),[18],[],[],[.row 2,.rw,.row 2,.kp,.lp .open_,.tok 3 2 100],[]⟩ [(.ex 2,⟨(pl [cp,cm,.own 5 2 bI,cp,cm]),[],[],[],[.row 2,.rw,.row 2,.kp,.lp .open_,.tok 2 2 100],[]⟩)])]
def T99 (N:Nat):dx->Option (aj):=(cx N [(135,af9 N)] [(99,c99),(117,Z9)]).fn 1000 99 (.cons cJ .nil) aR
def e99 (N:Nat):bJ:=⟨(.cons cJ .nil),aR,T99 N⟩
def VG (N:Nat):aK cd 99 (e99 N):=jj.dQ (jw (Qd N) oV)
def r7 (x0:aP) (x1:aG) (x2:Int) (x3:Int):Option (dx×cj):=
 bif ((mI x0&&(nH x1&&true))&&true) then some (((jH x0),(j8 x1)),(x2,x3)) else none
def apx (N:Nat):dx×cj×cj->Option (cj):=(cx N [] []).fn 1000 136 (.cons cJ (.cons bI (.cons bI .nil))) bI
def akU (N:Nat):bJ:=⟨(.cons cJ (.cons bI (.cons bI .nil))),bI,apx N⟩
def aaa (N:Nat):aK cd 136 (akU N):=jj.dQ oV
def apy:List (Nat×dF):=[(6,.loop [] ⟨(pl [pI,pI,pI,pI,pI,pI]),[],[],[(4,2),(5,2),(6,2)],[],[]⟩ [(.ret,⟨(pl [.bool,pI,pI,pI,pI,pI,pI]),[7],[],[(4,2),(5,2),(6,2)],[],[]⟩)]),
 (1594,.loop [] ⟨(pl [pI,pI,pI]),[37],[],[(5,2)],[],[]⟩ [(.ex 2,⟨(pl [pI,pI]),[],[],[(5,2)],[],[]⟩)]),
 (102040,.join [(.norm,⟨(pl [pI,pI,pI,pI]),[],[],[(12,4)],[],[(12,12,0)]⟩)]),
 (408164,.join [(.norm,⟨(.cons .bool .nil),[53],[],[],[],[]⟩)]),
 (408166,.join [(.norm,⟨(.cons .bool .nil),[69],[],[],[],[]⟩)])]
def apz (N:Nat):dx×cj×cj->Option (cj×Bool):=(cx N [(114,Zv N),(135,af9 N),(136,akU N)] [(101,apy)]).fn 1000 101 (.cons cJ (.cons bI (.cons bI .nil))) (.cD (.cons bI (.cons .bool .nil)))
def akV (N:Nat):bJ:=⟨(.cons cJ (.cons bI (.cons bI .nil))),(.cD (.cons bI (.cons .bool .nil))),apz N⟩
def aab (N:Nat):aK cd 101 (akV N):=jj.dQ (jw (P3 N) (jw (Qd N) (jw (aaa N) oV)))
def c57:List (Nat×dF):=[(442,.loop [(.slot 4,1,37)] ⟨(pl [.own 1 1 aR,pI,Hc]),[4,15],[],[],[.map,.tok 0 1 37],[]⟩ [(.ex 0,⟨(pl [.own 1 1 aR,Hc]),[4],[],[],[.map,.tok 0 1 37],[]⟩)]),
 (7078,.join [(.norm,⟨(pl [.own 1 1 aR,Hc]),[4],[],[],[.map,.tok 0 1 37],[]⟩)]),
 (453022,.loop [(.slot 7,2,100)] ⟨(pl [.own 1 1 aR,.own 2 2 bI,.bool,pI,pI,Hc]),[4,7,9],[],[(8,2)],[.map,.tok 0 1 37,.tok 1 2 100],[]⟩ [(.ex 1,⟨(pl [.own 1 1 aR,pI,pI,Hc]),[4],[],[(8,2)],[.map,.tok 0 1 37,.dead],[]⟩)]),
 (57986845,.join [(.norm,⟨(pl [.own 1 1 aR,.own 2 2 bI,pI,pI,Hc]),[4,7],[],[(10,2)],[.map,.tok 0 1 37,.tok 1 2 100],[]⟩)])]
def T57 (N:Nat):dx->Option ((List aj)):=(cx N [(99,e99 N),(100,RT N),(101,akV N)] [(57,c57)]).fn 1000 57 (.cons cJ .nil) (.list 1 aR)
def e57 (N:Nat):bJ:=⟨(.cons cJ .nil),(.list 1 aR),T57 N⟩
def aga (N:Nat):aK cd 57 (e57 N):=jj.dQ (jw (VG N) (jw (CX N) (jw (aab N) oV)))
def c60:List (Nat×dF):=[(122,.loop [] ⟨(pl [pI,pI]),[3,4],[],[],[],[]⟩ [(.ex 0,⟨(.ci .nil),[3],[],[],[],[]⟩)])]
def T60 (N:Nat):ah->Option Int:=(cx N [] [(60,c60)]).fn 1000 60 (.cons aO .nil) (.int .i64)
def e60 (N:Nat):bJ:=⟨(.cons aO .nil),(.int .i64),T60 N⟩
def agb (N:Nat):aK cd 60 (e60 N):=jj.dQ oV
def T22 (N:Nat):dx->Option (ah×Int):=(cx N [(56,e56 N),(61,e61 N)] []).fn 1000 22 (.cons cJ .nil) (.cD (.cons aO (.ci .nil)))
def e22 (N:Nat):bJ:=⟨(.cons cJ .nil),(.cD (.cons aO (.ci .nil))),T22 N⟩
def VH (x0:Int) (x1:aP) (x2:aG):Option (Int×aP×aG):=
 bif (mI x1&&(nH x2&&true)) then some (x0,(jH x1),(j8 x2)) else none
def Oo (x0:aP) (x1:aG):Option dx:=
 bif (mI x0&&(nH x1&&true)) then some ((jH x0),(j8 x1)) else none
def c38:List (Nat×dF):=[(506,.loop [] ⟨(pl [pI,pI,cp,cm,bF]),[7,30],[],[],[.row 2,.map],[]⟩ [(.ret,⟨(pl [pI,cp,cm,bF]),[4],[],[],[.row 2,.map],[]⟩),(.ex 0,⟨(pl [pI,cp,cm,bF]),[7],[],[],[.row 2,.map],[]⟩)]),
 (1037117,.join [(.norm,⟨(pl [pI,cp,cm,bF]),[11],[],[],[.row 2,.map],[]⟩)])]
def agc:List (Nat×dF):=[(1,.join [(.ret,⟨(pl [pI,cp,cm,bF]),[6],[],[],[.row 2,.map],[]⟩)])]
def aac:List (Nat×dF):=[(1,.join [(.ret,⟨(pl [pI,cp,cm]),[4],[],[],[.row 2],[]⟩)]),
 (26,.loop [] ⟨(pl [pI,cp,cm]),[8],[],[],[.row 2],[]⟩ [(.ret,⟨(pl [pI,cp,cm]),[4],[],[],[.row 2],[]⟩),(.ex 0,⟨(pl [cp,cm]),[],[],[],[.row 2],[]⟩)])]
def apB (N:Nat):(g:FuncId)->Option (ob cd g)
 |70=>some (x70 N)
 |_=>none
def T38 (N:Nat):dx×eJ->Option Int:=({ cx N [(56,e56 N),(59,e59 N),(77,e77 N),(85,e85 N),(88,e88 N),(100,RT N)] [(38,c38),(86,agc),(128,aac)] with xt:=apB N }:jj).fn 1000 38 (.cons cJ (.cons fx .nil)) (.int .i64)
def e38 (N:Nat):bJ:=⟨(.cons cJ (.cons fx .nil)),(.int .i64),T38 N⟩
def age (N:Nat):aK cd 38 (e38 N):=jj.dQ (jw (IW N) (jw (xM N) (jw (ER N) (jw (Ob N) (jw (Od N) (jw (CX N) oV))))))
def mO (N:Nat) (a1:List iM) (v6:Int×aP×aG):Option ((Int×aP×aG)⊕((Int×aP×aG)⊕dx)):=
 let l2:=(gG a1); let l1:=(an l2 (toNat v6.1)); (bif (decide (v6.1 < (((l2).length:Nat):Int))) then bif (decide ((0:Int)<=v6.1/\v6.1 < ((l2).length:Int))&&fits kU l1) then ((r7 v6.2.1 v6.2.2 ((d119 l1).1) ((d119 l1).2.1)).bind λ x8=>(Oa N x8).bind λ y7=>(bif (!y7) then ((((VH v6.1 v6.2.1 v6.2.2).bind λ w9=>some w9).bind λ ZB=>some (aaS ZB)).bind λ u11=>some (aaN u11)) else (((VH (wrap .i64 (v6.1+1)) v6.2.1 v6.2.2).bind λ Of=>some Of).bind λ u13=>some (aaS u13)))) else none else ((((Oo v6.2.1 v6.2.2).bind λ ZF=>some ZF).bind λ u15=>some (aaN u15)).bind λ u16=>some (aaN u16)))
def EZ (x0:Int) (x1:aP) (x2:aG) (x3:bw):Option (Int×aP×aG×bw):=
 bif (mI x1&&(nH x2&&(allFit (fits cO) (ab (bg x3))&&true))) then some (x0,(jH x1),(j8 x2),(map cH (ab (bg x3)))) else none
def vW (N:Nat) (a1:List iM) (sG:Int×Int×aP×aG×bw):Option ((Int×Int×aP×aG×bw)⊕((Int×aP×aG×bw)⊕(Int×aP×aG×bw))):=
 let lN:=fj; let hJ:=(aI 0); let cW:=(gG a1); let l4:=(an cW (toNat sG.2.1)); let l3:=(bg sG.2.2.2.2); let mu:=(aD l3&&true); let l2:=(Int.tmod (wrap .i64 ((wrap .i64 (sG.2.1+(((cW).length:Nat):Int))) - 1)) (((cW).length:Nat):Int)); let l1:=(an cW (toNat l2)); (bif (decide (sG.2.1 < (((cW).length:Nat):Int))) then bif (decide ((0:Int)<=sG.2.1/\sG.2.1 < ((cW).length:Int))&&fits kU l4) then bif !(decide ((((cW).length:Nat):Int)=0)) then bif (decide ((0:Int)<=l2/\l2 < ((cW).length:Int))&&fits kU l1) then ((((r7 sG.2.2.1 sG.2.2.2.1 ((d119 l4).1) ((d119 l4).2.1)).bind λ x29=>(tA N x29).bind λ y28=>let fL:=(AV.agg [(aI y28.1),(aI y28.2.1)]); let eu:=(AV.agg [(aI y28.2.2.1),(aI y28.2.2.2)]); let l8:=(bu qv fL hJ l3); let l6:=(bu qv eu hJ l3); (bif (d119 l4).2.2 then bif (bL qv eu l3&&fits p3 l6) then ((EZ (d3 l6) sG.2.2.1 sG.2.2.2.1 sG.2.2.2.2).bind λ ZK=>bif mu then some ZK else none) else none else bif (bL qv fL l3&&fits p3 l8) then ((EZ (d3 l8) sG.2.2.1 sG.2.2.2.1 sG.2.2.2.2).bind λ Tm=>bif mu then some Tm else none) else none)):Option ((Int×(List (lN×aj))×aG×bw))).bind λ R6=>let l5:=(bg R6.2.2.2); bif ((((d119 l1).1 == (d119 l1).1)&&(((d119 l1).2.1 == (d119 l1).2.1)&&(((d119 l1).2.2 == (d119 l1).2.2)&&true)))&&((au (cE R6.2.1) (cE sG.2.2.1)&&(au (dc R6.2.2.1) (dc sG.2.2.2.1)&&true))&&true)) then ((((r7 sG.2.2.1 sG.2.2.2.1 ((d119 l1).1) ((d119 l1).2.1)).bind λ x34=>(tA N x34).bind λ y33=>let fZ:=(AV.agg [(aI y33.1),(aI y33.2.1)]); let fa:=(AV.agg [(aI y33.2.2.1),(aI y33.2.2.2)]); let l9:=(bu qv fZ hJ l5); let l7:=(bu qv fa hJ l5); (bif (!(d119 l1).2.2) then bif (bL qv fa l5&&fits p3 l7) then ((EZ (d3 l7) R6.2.1 R6.2.2.1 R6.2.2.2).bind λ w35=>bif (aD l5&&true) then some w35 else none) else none else bif (bL qv fZ l5&&fits p3 l9) then ((EZ (d3 l9) R6.2.1 R6.2.2.1 R6.2.2.2).bind λ XN=>bif (aD l5&&true) then some XN else none) else none)):Option ((Int×(List (lN×aj))×aG×bw))).bind λ Gi=>let j1:=Gi.2.2; let cX:=(gm j1.2&&true); (bif (R6.1 != Gi.1) then ((((EZ 21 Gi.2.1 j1.1 j1.2).bind λ Lj=>bif cX then some Lj else none).bind λ u39=>some (aaS u39)).bind λ u40=>some (aaN u40)) else ((r7 Gi.2.1 j1.1 ((d119 l4).1) ((d119 l4).2.1)).bind λ x42=>(Oc N x42).bind λ y41=>(((bif (d119 l4).2.2 then ((EZ (wrap .i64 (0 - y41.2)) Gi.2.1 j1.1 j1.2).bind λ R5=>bif cX then some R5 else none) else ((EZ y41.2 Gi.2.1 j1.1 j1.2).bind λ Tn=>bif cX then some Tn else none)):Option ((Int×(List (lN×aj))×aG×bw))).bind λ vh=>let dV:=(bg vh.2.2.2); (((bif (mI vh.2.1&&(nH vh.2.2.1&&(allFit (fits cO) (ab dV)&&true))) then some ((wrap .i64 (sG.1+vh.1)),(wrap .i64 (sG.2.1+1)),(jH vh.2.1),(j8 vh.2.2.1),(map cH (ab dV))) else none).bind λ To=>bif (aD dV&&true) then some To else none).bind λ u47=>some (aaS u47)))))) else none) else none else none else none else ((((EZ sG.1 sG.2.2.1 sG.2.2.2.1 sG.2.2.2.2).bind λ w48=>bif mu then some w48 else none).bind λ u49=>some (aaN u49)).bind λ u50=>some (aaN u50)))
def A7 (N:Nat) (a0:aP×aG) (a1:List iM):T38 N (a0,a1) =
 (let l9:=(dc a0.2); let l8:=(cE a0.1); let l7:=(fits ir); let l6:=(fits fY); let l2:=fj; let l1:=(allFit l6 l8&&(allFit l7 l9&&true)); ((bif (l1&&true) then some ((map d131 l8),(map d110 l9)) else none).bind λ x2=>(Mr N x2).bind λ y1=>(Gh N ((decide ((((gG a1).length:Nat):Int) > 256)),5)).bind λ y3=>((bif (allFit (fits Hh) [(aI y1),(aI y3)]&&true) then some (map d29 [(aI y1),(aI y3)]) else none).bind λ x5=>(IQ N x5).bind λ y4=>(bif (y4 != 0) then some y4 else (((((bif l1 then some (0,(map d131 l8),(map d110 l9)) else none:Option (Int×(List (l2×aj))×aG)).bind λ Oq=>some Oq).bind λ x23=>(ao (mO N a1) N x23).bind λ On=>(acO (λ Hm=>((bif (allFit l6 (cE Hm.2.1)&&(allFit l7 (dc Hm.2.2)&&true)) then some (Hm.1,(jH Hm.2.1),(j8 Hm.2.2)) else none).bind λ XO=>some XO)) (λ Gm=>((bif (allFit l6 (cE Gm.1)&&(allFit l7 (dc Gm.2)&&true)) then some ((-1),(jH Gm.1),(j8 Gm.2)) else none).bind λ VI=>some VI)) On)):Option ((Int×(List (l2×aj))×aG))).bind λ yj=>let l4:=(dc yj.2.2); let l3:=(cE yj.2.1); (bif (decide (yj.1>=0)) then some 10 else ((bif ((allFit l6 l3&&(allFit l7 l4&&true))&&true) then some ((map d131 l3),(map d110 l4)) else none).bind λ x26=>(RU N x26).bind λ y25=>let l5:=(bg y25); (((bif (allFit l6 l3&&(allFit l7 l4&&(allFit (fits cO) (ab l5)&&true))) then some (0,0,(map d131 l3),(map d110 l4),(map cH (ab l5))) else none:Option (Int×Int×(List (l2×aj))×aG×bw)).bind λ w51=>bif (aD l5&&true) then some w51 else none).bind λ x56=>(ao (vW N a1) N x56).bind λ o52=>(acO (λ o53=>some o53.1) (λ Vs=>(Gh N ((Vs.1 == 0),21)).bind λ y55=>some y55) o52))))))))):=by kernel_rfl
abbrev vi:aF:=(.agg (.cons (.int .i64) (.cons .bool .nil)))
abbrev zB (v:AV):Int×Bool:=aF.bW vi v
abbrev ua (x:Int×Bool):AV:=aF.enc vi x
abbrev B4 (l:List (Int×Bool)):=ax (map ua l)
abbrev pS (l:List (Int×Bool)):=aD (ax (map ua l))
def iy (l:List (Int×Bool)):allFit (fits vi) (map ua l)=true:=cA (p:=vi) rfl l
def iz (l:List (Int×Bool)):map zB (map ua l)=l:=eO (p:=vi) rfl l
def c62:List (Nat×dF):=[(506,.acz [] ⟨(pl [pI,aO,qL,bF,pI,aO]),[],[],[],[.rw,.rw,.map,.map,.lM 3],[]⟩),
 (2042,.loop [] ⟨(pl [pI,pI,pI,pI,pI,pI,pI,pI,aO,qL,bF,pI,aO]),[42],[],[(7,6)],[.rw,.rw,.map,.map,.lM 3],[]⟩ [(.ex 2,⟨(pl [pI,pI,pI,pI,pI,pI,pI,aO,qL,bF,pI,aO]),[],[],[(7,6)],[.rw,.rw,.map,.map,.lM 3],[]⟩)]),
 (4090,.loop [] ⟨(pl [pI,pI,pI,pI,pI,pI,pI,pI,aO,qL,bF,pI,aO]),[56],[],[(7,6)],[.rw,.rw,.map,.map,.lM 3],[]⟩ [(.ex 4,⟨(pl [pI,pI,pI,pI,pI,pI,pI,aO,qL,bF,pI,aO]),[],[],[(7,6)],[.rw,.rw,.map,.map,.lM 3],[]⟩)]),
 (8186,.loop [] ⟨(pl [pI,pI,pI,pI,pI,pI,pI,pI,aO,qL,bF,pI,aO]),[73],[],[(7,6)],[.rw,.rw,.map,.map,.lM 3],[]⟩ [(.ex 6,⟨(pl [pI,pI,pI,pI,pI,pI,pI,aO,qL,bF,pI,aO]),[],[],[(7,6)],[.rw,.rw,.map,.map,.lM 3],[]⟩)]),
 (16378,.loop [] ⟨(pl [pI,pI,pI,pI,pI,pI,pI,pI,aO,qL,bF,pI,aO]),[89],[],[(7,6)],[.rw,.rw,.map,.map,.lM 3],[]⟩ [(.ex 8,⟨(pl [pI,pI,pI,pI,pI,pI,pI,aO,qL,bF,pI,aO]),[],[],[(7,6)],[.rw,.rw,.map,.map,.lM 3],[]⟩)]),
 (32678,.join [(.norm,⟨(pl [pI,pI,pI,pI,pI,pI,pI,aO,qL,bF,pI,aO]),[],[],[(7,6)],[.rw,.rw,.map,.map,.lM 3],[]⟩)]),
 (65446,.join [(.norm,⟨(pl [pI,pI,pI,pI,pI,pI,pI,aO,qL,bF,pI,aO]),[],[],[(7,6)],[.rw,.rw,.map,.map,.lM 3],[]⟩)]),
 (130982,.join [(.norm,⟨(pl [pI,pI,pI,pI,pI,pI,pI,aO,qL,bF,pI,aO]),[],[],[(7,6)],[.rw,.rw,.map,.map,.lM 3],[]⟩)]),
 (262054,.join [(.norm,⟨(pl [pI,pI,pI,pI,pI,pI,pI,aO,qL,bF,pI,aO]),[],[],[(7,6)],[.rw,.rw,.map,.map,.lM 3],[]⟩)])]
def aae:List (Nat×dF):=[(6,.join [(.norm,⟨(pl [.bool,pI,aO,qL,bF,pI,aO]),[4],[],[],[.rw,.rw,.map,.map,.lM 3],[]⟩)])]
def apG (N:Nat):(g:FuncId)->Option (ob cd g)
 |70=>some (x70 N)
 |_=>none
def T62 (N:Nat):dx×Int->Option (Ld):=({ cx N [(57,e57 N),(60,e60 N),(61,e61 N),(99,e99 N)] [(62,c62),(107,aae)] with xt:=apG N }:jj).fn 1000 62 (.cons cJ (.ci .nil)) Hd
def e62 (N:Nat):bJ:=⟨(.cons cJ (.ci .nil)),Hd,T62 N⟩
def agh (N:Nat):aK cd 62 (e62 N):=jj.dQ (jw (aga N) (jw (agb N) (jw (Oe N) (jw (VG N) oV))))
def mn (x0:Bool) (x1:Int) (x2:ah) (x3:vb) (x4:bw) (x5:Int) (x6:List AV):Option Hb:=
 bif (F3 x2&&(allFit (fits vi) (ab (B4 x3))&&(allFit (fits cO) (ab (bg x4))&&(allFit (fits p2) x6&&true)))) then some (x0,x1,(K3 x2),(map zB (ab (B4 x3))),(map cH (ab (bg x4))),x5,(map d2 x6)) else none
def od (x0:Int) (x1:Int) (x2:Int) (x3:Int) (x4:Int) (x5:Int) (x6:Int) (x7:Int) (x8:ah) (x9:vb) (NN:bw) (KT:Int) (x12:List AV):Option acF:=
 bif (F3 x8&&(allFit (fits vi) (ab (B4 x9))&&(allFit (fits cO) (ab (bg NN))&&(allFit (fits p2) x12&&true)))) then some (x0,x1,x2,x3,x4,x5,x6,x7,(K3 x8),(map zB (ab (B4 x9))),(map cH (ab (bg NN))),KT,(map d2 x12)) else none
def mo (x0:Int) (x1:Int) (x2:Int) (x3:Int) (x4:Int) (x5:Int) (x6:Int) (x7:ah) (x8:vb) (x9:bw) (NN:Int) (KT:List AV):Option Vc:=
 bif (F3 x7&&(allFit (fits vi) (ab (B4 x8))&&(allFit (fits cO) (ab (bg x9))&&(allFit (fits p2) KT&&true)))) then some (x0,x1,x2,x3,x4,x5,x6,(K3 x7),(map zB (ab (B4 x8))),(map cH (ab (bg x9))),NN,(map d2 KT)) else none
def pT (N:Nat) (a0:aP×aG) (v8:Int×Int×Int×Int×Int×Int×Int×Int×ah×vb×bw×Int×ah):Option PN:=
 let l5:=(L3 v8.2.2.2.2.2.2.2.2.1); let l4:=(toNat v8.2.2.2.2.2.2.2.2.2.2.2.1); let l2:=(fw (dT (L2 v8.2.2.2.2.2.2.2.2.2.2.2.2))); let l1:=(pS v8.2.2.2.2.2.2.2.2.2.1&&(gm v8.2.2.2.2.2.2.2.2.2.2.1&&true)); (bif (decide (v8.1 < (((cE a0.1).length:Nat):Int))) then (((((bif (decide (v8.2.2.2.2.2.2.2.1 < 0)) then ((mn true v8.2.2.2.2.2.2.2.1 v8.2.2.2.2.2.2.2.2.1 v8.2.2.2.2.2.2.2.2.2.1 v8.2.2.2.2.2.2.2.2.2.2.1 ((l4:Nat):Int) l2).bind λ w9=>bif l1 then some w9 else none) else bif (decide ((0:Int)<=v8.1/\v8.1 < ((l5).length:Int))&&fits p3 (an l5 (toNat v8.1))) then ((mn ((d3 (an l5 (toNat v8.1))) == v8.2.2.2.2.2.2.2.1) v8.2.2.2.2.2.2.2.1 v8.2.2.2.2.2.2.2.2.1 v8.2.2.2.2.2.2.2.2.2.1 v8.2.2.2.2.2.2.2.2.2.2.1 ((l4:Nat):Int) l2).bind λ w10=>bif l1 then some w10 else none) else none):Option (Hb)).bind λ UM=>let j2:=UM.2.2.2; let l6:=(fw (dT (L2 j2.2.2.2))); let l3:=(pS j2.1&&(gm j2.2.1&&true)); (bif UM.1 then ((mo v8.2.1 v8.2.2.1 (wrap .i64 (v8.2.2.2.1+1)) v8.2.2.2.2.1 v8.2.2.2.2.2.1 v8.2.2.2.2.2.2.1 UM.2.1 UM.2.2.1 j2.1 j2.2.1 (((toNat j2.2.2.1):Nat):Int) l6).bind λ Of=>bif l3 then some Of else none) else ((mo v8.2.1 v8.2.2.1 v8.2.2.2.1 v8.2.2.2.2.1 v8.2.2.2.2.2.1 v8.2.2.2.2.2.2.1 UM.2.1 UM.2.2.1 j2.1 j2.2.1 (((toNat j2.2.2.1):Nat):Int) l6).bind λ ZE=>bif l3 then some ZE else none))):Option (Vc)).bind λ Cs=>let j1:=Cs.2.2.2.2.2.2; (((od (wrap .i64 (v8.1+1)) Cs.1 Cs.2.1 Cs.2.2.1 Cs.2.2.2.1 Cs.2.2.2.2.1 Cs.2.2.2.2.2.1 j1.1 j1.2.1 j1.2.2.1 j1.2.2.2.1 (((toNat j1.2.2.2.2.1):Nat):Int) (fw (dT (L2 j1.2.2.2.2.2)))).bind λ Z5=>bif (pS j1.2.2.1&&(gm j1.2.2.2.1&&true)) then some Z5 else none).bind λ u16=>some (aaS u16))) else (((mo v8.2.1 v8.2.2.1 v8.2.2.2.1 v8.2.2.2.2.1 v8.2.2.2.2.2.1 v8.2.2.2.2.2.2.1 v8.2.2.2.2.2.2.2.1 v8.2.2.2.2.2.2.2.2.1 v8.2.2.2.2.2.2.2.2.2.1 v8.2.2.2.2.2.2.2.2.2.2.1 ((l4:Nat):Int) l2).bind λ Oq=>bif l1 then some Oq else none).bind λ u18=>some (aaN u18)))
def pU (N:Nat) (a0:aP×aG) (v21:Int×Int×Int×Int×Int×Int×Int×Int×ah×vb×bw×Int×ah):Option PN:=
 let l8:=(dc a0.2); let l6:=(L3 v21.2.2.2.2.2.2.2.2.1); let l5:=(toNat v21.2.2.2.2.2.2.2.2.2.2.2.1); let l3:=(fw (dT (L2 v21.2.2.2.2.2.2.2.2.2.2.2.2))); let l2:=(an l8 (toNat v21.1)); let l9:=(an l6 (toNat (d110 l2).1)); let l1:=(pS v21.2.2.2.2.2.2.2.2.2.1&&(gm v21.2.2.2.2.2.2.2.2.2.2.1&&true)); (bif (decide (v21.1 < (((l8).length:Nat):Int))) then ((bif (decide ((0:Int)<=v21.1/\v21.1 < ((l8).length:Int))&&fits ir l2) then (((bif (decide (v21.2.2.2.2.2.2.2.1 < 0)) then ((mn true v21.2.2.2.2.2.2.2.1 v21.2.2.2.2.2.2.2.2.1 v21.2.2.2.2.2.2.2.2.2.1 v21.2.2.2.2.2.2.2.2.2.2.1 ((l5:Nat):Int) l3).bind λ VI=>bif l1 then some VI else none) else bif (decide ((0:Int)<=(d110 l2).1/\(d110 l2).1 < ((l6).length:Int))&&fits p3 l9) then ((mn ((d3 l9) == v21.2.2.2.2.2.2.2.1) v21.2.2.2.2.2.2.2.1 v21.2.2.2.2.2.2.2.2.1 v21.2.2.2.2.2.2.2.2.2.1 v21.2.2.2.2.2.2.2.2.2.2.1 ((l5:Nat):Int) l3).bind λ w23=>bif l1 then some w23 else none) else none):Option (Hb)).bind λ yj=>let j2:=yj.2.2.2; let l7:=(fw (dT (L2 j2.2.2.2))); let l4:=(pS j2.1&&(gm j2.2.1&&true)); (bif yj.1 then ((mo v21.2.1 (wrap .i64 (v21.2.2.1+1)) v21.2.2.2.1 v21.2.2.2.2.1 v21.2.2.2.2.2.1 v21.2.2.2.2.2.2.1 yj.2.1 yj.2.2.1 j2.1 j2.2.1 (((toNat j2.2.2.1):Nat):Int) l7).bind λ Z7=>bif l4 then some Z7 else none) else ((mo v21.2.1 v21.2.2.1 v21.2.2.2.1 v21.2.2.2.2.1 v21.2.2.2.2.2.1 v21.2.2.2.2.2.2.1 yj.2.1 yj.2.2.1 j2.1 j2.2.1 (((toNat j2.2.2.1):Nat):Int) l7).bind λ XI=>bif l4 then some XI else none))) else none).bind λ lC=>let j1:=lC.2.2.2.2.2.2; (((od (wrap .i64 (v21.1+1)) lC.1 lC.2.1 lC.2.2.1 lC.2.2.2.1 lC.2.2.2.2.1 lC.2.2.2.2.2.1 j1.1 j1.2.1 j1.2.2.1 j1.2.2.2.1 (((toNat j1.2.2.2.2.1):Nat):Int) (fw (dT (L2 j1.2.2.2.2.2)))).bind λ Tk=>bif (pS j1.2.2.1&&(gm j1.2.2.2.1&&true)) then some Tk else none).bind λ u29=>some (aaS u29))) else (((mo v21.2.1 v21.2.2.1 v21.2.2.2.1 v21.2.2.2.2.1 v21.2.2.2.2.2.1 v21.2.2.2.2.2.2.1 v21.2.2.2.2.2.2.2.1 v21.2.2.2.2.2.2.2.2.1 v21.2.2.2.2.2.2.2.2.2.1 v21.2.2.2.2.2.2.2.2.2.2.1 ((l5:Nat):Int) l3).bind λ ZK=>bif l1 then some ZK else none).bind λ u31=>some (aaN u31)))
def pV (N:Nat) (y34:aj) (rF:Int×Int×Int×Int×Int×Int×Int×Int×ah×vb×bw×Int×ah):Option PN:=
 let l8:=(jx y34); let l6:=(L3 rF.2.2.2.2.2.2.2.2.1); let l5:=(toNat rF.2.2.2.2.2.2.2.2.2.2.2.1); let l3:=(fw (dT (L2 rF.2.2.2.2.2.2.2.2.2.2.2.2))); let l2:=(an l8 (toNat rF.1)); let l9:=(an l6 (toNat (d100 l2).1)); let l1:=(pS rF.2.2.2.2.2.2.2.2.2.1&&(gm rF.2.2.2.2.2.2.2.2.2.2.1&&true)); (bif (decide (rF.1 < (((l8).length:Nat):Int))) then ((bif (decide ((0:Int)<=rF.1/\rF.1 < ((l8).length:Int))&&fits nG l2) then (((bif (decide (rF.2.2.2.2.2.2.2.1 < 0)) then ((mn true rF.2.2.2.2.2.2.2.1 rF.2.2.2.2.2.2.2.2.1 rF.2.2.2.2.2.2.2.2.2.1 rF.2.2.2.2.2.2.2.2.2.2.1 ((l5:Nat):Int) l3).bind λ RW=>bif l1 then some RW else none) else bif (decide ((0:Int)<=(d100 l2).1/\(d100 l2).1 < ((l6).length:Int))&&fits p3 l9) then ((mn ((d3 l9) == rF.2.2.2.2.2.2.2.1) rF.2.2.2.2.2.2.2.1 rF.2.2.2.2.2.2.2.2.1 rF.2.2.2.2.2.2.2.2.2.1 rF.2.2.2.2.2.2.2.2.2.2.1 ((l5:Nat):Int) l3).bind λ Lj=>bif l1 then some Lj else none) else none):Option (Hb)).bind λ Ms=>let j2:=Ms.2.2.2; let l7:=(fw (dT (L2 j2.2.2.2))); let l4:=(pS j2.1&&(gm j2.2.1&&true)); (bif Ms.1 then ((mo rF.2.1 (wrap .i64 (rF.2.2.1+1)) rF.2.2.2.1 rF.2.2.2.2.1 rF.2.2.2.2.2.1 rF.2.2.2.2.2.2.1 Ms.2.1 Ms.2.2.1 j2.1 j2.2.1 (((toNat j2.2.2.1):Nat):Int) l7).bind λ XJ=>bif l4 then some XJ else none) else ((mo rF.2.1 rF.2.2.1 rF.2.2.2.1 rF.2.2.2.2.1 rF.2.2.2.2.2.1 rF.2.2.2.2.2.2.1 Ms.2.1 Ms.2.2.1 j2.1 j2.2.1 (((toNat j2.2.2.1):Nat):Int) l7).bind λ Vu=>bif l4 then some Vu else none))) else none).bind λ R7=>let j1:=R7.2.2.2.2.2.2; (((od (wrap .i64 (rF.1+1)) R7.1 R7.2.1 R7.2.2.1 R7.2.2.2.1 R7.2.2.2.2.1 R7.2.2.2.2.2.1 j1.1 j1.2.1 j1.2.2.1 j1.2.2.2.1 (((toNat j1.2.2.2.2.1):Nat):Int) (fw (dT (L2 j1.2.2.2.2.2)))).bind λ R5=>bif (pS j1.2.2.1&&(gm j1.2.2.2.1&&true)) then some R5 else none).bind λ u44=>some (aaS u44))) else (((mo rF.2.1 rF.2.2.1 rF.2.2.2.1 rF.2.2.2.2.1 rF.2.2.2.2.2.1 rF.2.2.2.2.2.2.1 rF.2.2.2.2.2.2.2.1 rF.2.2.2.2.2.2.2.2.1 rF.2.2.2.2.2.2.2.2.2.1 rF.2.2.2.2.2.2.2.2.2.2.1 ((l5:Nat):Int) l3).bind λ w45=>bif l1 then some w45 else none).bind λ u46=>some (aaN u46)))
def mP (N:Nat) (y49:(List aj)) (v51:Int×Int×Int×Int×Int×Int×Int×Int×ah×vb×bw×Int×ah):Option PN:=
 let cW:=(L37 y49); let l7:=(L3 v51.2.2.2.2.2.2.2.2.1); let l6:=(toNat v51.2.2.2.2.2.2.2.2.2.2.2.1); let l5:=(an cW (toNat v51.1)); let l3:=(fw (dT (L2 v51.2.2.2.2.2.2.2.2.2.2.2.2))); let l2:=(pS v51.2.2.2.2.2.2.2.2.2.1&&(gm v51.2.2.2.2.2.2.2.2.2.2.1&&true)); let l1:=(an (jx (d37 l5)) (toNat 0)); let l9:=(an l7 (toNat (d100 l1).1)); (bif (decide (v51.1 < (((cW).length:Nat):Int))) then ((bif (decide ((0:Int)<=v51.1/\v51.1 < ((cW).length:Int))&&fits p37 l5) then bif (decide ((0:Int)<=0/\0 < (((jx (d37 l5))).length:Int))&&fits nG l1) then (((bif (decide (v51.2.2.2.2.2.2.2.1 < 0)) then ((mn true v51.2.2.2.2.2.2.2.1 v51.2.2.2.2.2.2.2.2.1 v51.2.2.2.2.2.2.2.2.2.1 v51.2.2.2.2.2.2.2.2.2.2.1 ((l6:Nat):Int) l3).bind λ XL=>bif l2 then some XL else none) else bif (decide ((0:Int)<=(d100 l1).1/\(d100 l1).1 < ((l7).length:Int))&&fits p3 l9) then ((mn ((d3 l9) == v51.2.2.2.2.2.2.2.1) v51.2.2.2.2.2.2.2.1 v51.2.2.2.2.2.2.2.2.1 v51.2.2.2.2.2.2.2.2.2.1 v51.2.2.2.2.2.2.2.2.2.2.1 ((l6:Nat):Int) l3).bind λ w53=>bif l2 then some w53 else none) else none):Option (Hb)).bind λ Vs=>let j2:=Vs.2.2.2; let l8:=(fw (dT (L2 j2.2.2.2))); let l4:=(pS j2.1&&(gm j2.2.1&&true)); (bif Vs.1 then ((mo v51.2.1 v51.2.2.1 v51.2.2.2.1 v51.2.2.2.2.1 (wrap .i64 (v51.2.2.2.2.2.1+1)) v51.2.2.2.2.2.2.1 Vs.2.1 Vs.2.2.1 j2.1 j2.2.1 (((toNat j2.2.2.1):Nat):Int) l8).bind λ w55=>bif l4 then some w55 else none) else ((mo v51.2.1 v51.2.2.1 v51.2.2.2.1 v51.2.2.2.2.1 v51.2.2.2.2.2.1 v51.2.2.2.2.2.2.1 Vs.2.1 Vs.2.2.1 j2.1 j2.2.1 (((toNat j2.2.2.1):Nat):Int) l8).bind λ XM=>bif l4 then some XM else none))) else none else none:Option (Vc)).bind λ BY=>let j1:=BY.2.2.2.2.2.2; (((od (wrap .i64 (v51.1+1)) BY.1 BY.2.1 BY.2.2.1 BY.2.2.2.1 BY.2.2.2.2.1 BY.2.2.2.2.2.1 j1.1 j1.2.1 j1.2.2.1 j1.2.2.2.1 (((toNat j1.2.2.2.2.1):Nat):Int) (fw (dT (L2 j1.2.2.2.2.2)))).bind λ w58=>bif (pS j1.2.2.1&&(gm j1.2.2.2.1&&true)) then some w58 else none).bind λ u59=>some (aaS u59))) else (((mo v51.2.1 v51.2.2.1 v51.2.2.2.1 v51.2.2.2.2.1 v51.2.2.2.2.2.1 v51.2.2.2.2.2.2.1 v51.2.2.2.2.2.2.2.1 v51.2.2.2.2.2.2.2.2.1 v51.2.2.2.2.2.2.2.2.2.1 v51.2.2.2.2.2.2.2.2.2.2.1 ((l6:Nat):Int) l3).bind λ w60=>bif l2 then some w60 else none).bind λ u61=>some (aaN u61)))
def aaf (x0:aP) (x1:aG):Option (dx):=
 bif ((mI x0&&(nH x1&&true))&&true) then some ((jH x0),(j8 x1)) else none
def zC (N:Nat) (a0:aP×aG) (k6:(Int×ah×vb×bw×Int×ah)->Option (Ld)) (v5:Int×ah×vb×bw×Int×ah):Option (Ld):=
 let fZ:=(fits vi); let cX:=(L3 v5.2.1); let l8:=(toNat v5.2.2.2.2.1); let l5:=(dT (L2 v5.2.2.2.2.2)); let l4:=(B4 v5.2.2.1); let l1:=(bg v5.2.2.2.1); let eu:=(aD l4&&(aD l1&&true)); (bif (decide (aaR l1=l8)) then (bif (abk l5) then (((bif (allFit (fits p3) cX&&(allFit fZ (ab l4)&&(allFit (fits cO) (ab l1)&&(allFit (fits p2) (fw l5)&&true)))) then some (0,((aaR l4:Nat):Int),0,0,0,0,0,v5.1,(map d3 cX),(map zB (ab l4)),(map cH (ab l1)),((l8:Nat):Int),(map d2 (fw l5))) else none:Option acF).bind λ w19=>bif eu then some w19 else none).bind λ x69=>(ao (pT N a0) N x69).bind λ Gm=>let j1:=Gm.2.2.2.2.2.2; (((od 0 Gm.1 Gm.2.1 Gm.2.2.1 Gm.2.2.2.1 Gm.2.2.2.2.1 Gm.2.2.2.2.2.1 j1.1 j1.2.1 j1.2.2.1 j1.2.2.2.1 (((toNat j1.2.2.2.2.1):Nat):Int) (fw (dT (L2 j1.2.2.2.2.2)))).bind λ w32=>bif (pS j1.2.2.1&&(gm j1.2.2.2.1&&true)) then some w32 else none).bind λ x68=>(ao (pU N a0) N x68).bind λ o33=>let j2:=o33.2.2.2.2.2.2; ((aaf a0.1 a0.2).bind λ x35=>(T99 N x35).bind λ y34=>(((od 0 o33.1 o33.2.1 o33.2.2.1 o33.2.2.2.1 o33.2.2.2.2.1 o33.2.2.2.2.2.1 j2.1 j2.2.1 j2.2.2.1 j2.2.2.2.1 (((toNat j2.2.2.2.2.1):Nat):Int) (fw (dT (L2 j2.2.2.2.2.2)))).bind λ w47=>bif (pS j2.2.2.1&&(gm j2.2.2.2.1&&true)) then some w47 else none).bind λ x67=>(ao (pV N y34) N x67).bind λ Z8=>let j3:=Z8.2.2.2.2.2.2; ((aaf a0.1 a0.2).bind λ x50=>(T57 N x50).bind λ y49=>(((od 0 Z8.1 Z8.2.1 Z8.2.2.1 Z8.2.2.2.1 Z8.2.2.2.2.1 Z8.2.2.2.2.2.1 j3.1 j3.2.1 j3.2.2.1 j3.2.2.2.1 (((toNat j3.2.2.2.2.1):Nat):Int) (fw (dT (L2 j3.2.2.2.2.2)))).bind λ ZJ=>bif (pS j3.2.2.1&&(gm j3.2.2.2.1&&true)) then some ZJ else none).bind λ x66=>(ao (mP N y49) N x66).bind λ VJ=>((kq1 VJ.2.2.2.2.2.2.2.1).bind λ x65=>(T60 N x65).bind λ y64=>some (VJ.1,VJ.2.1,VJ.2.2.1,(wrap .i64 (y64+1)),VJ.2.2.2.2.1,(wrap .i64 ((wrap .i64 (VJ.1 - VJ.2.1))+VJ.2.2.1)))))))))) else (KW l5 λ i7=>let l9:=(sM l1 i7); let fL:=(an cX (toNat (d100 l9.1).1)); let fa:=(fits nG l9.1&&fits p3 l9.2); bif fa then bif (decide (aaR l1=l8)&&decide (i7 < l8)&&fa) then (((bif (decide (v5.1 < 0)) then ((mn true v5.1 v5.2.1 v5.2.2.1 v5.2.2.2.1 ((l8:Nat):Int) (fw (acK l5 i7))).bind λ w70=>bif eu then some w70 else none) else bif (decide ((0:Int)<=(d100 l9.1).1/\(d100 l9.1).1 < ((cX).length:Int))&&fits p3 fL) then ((mn ((d3 fL) == v5.1) v5.1 v5.2.1 v5.2.2.1 v5.2.2.2.1 ((l8:Nat):Int) (fw (acK l5 i7))).bind λ w71=>bif eu then some w71 else none) else none):Option (Hb)).bind λ o72=>let j4:=o72.2.2.2; let dV:=(L3 o72.2.2.1); let l6:=(fw (dT (L2 j4.2.2.2))); let l3:=(bg j4.2.1); let hJ:=(map cH (ab l3)); let cW:=(allFit (fits cO) (ab l3)&&(allFit (fits p2) l6&&true)); let l2:=(B4 j4.1); let l7:=(eL .int (aI (d3 l9.2)) (AV.bool true) l2); (bif o72.1 then bif (bL .int (aI (d3 l9.2)) l2) then (((bif (allFit (fits p3) dV&&(allFit fZ (ab l7)&&cW)) then some (o72.2.1,(map d3 dV),(map zB (ab l7)),hJ,(((toNat j4.2.2.1):Nat):Int),(map d2 l6)) else none).bind λ w73=>bif (aD l7&&(aD l3&&true)) then some w73 else none).bind k6) else none else (((bif (allFit (fits p3) dV&&(allFit fZ (ab l2)&&cW)) then some (o72.2.1,(map d3 dV),(map zB (ab l2)),hJ,(((toNat j4.2.2.1):Nat):Int),(map d2 l6)) else none).bind λ w74=>bif (aD l2&&(aD l3&&true)) then some w74 else none).bind k6))) else none else none)) else none)
def agl (N:Nat) (a0:aP×aG) (a1:Int):T62 N (a0,a1) =
 (let l4:=(dc a0.2); let l3:=(cE a0.1); let l2:=((allFit (fits fY) l3&&(allFit (fits ir) l4&&true))&&true); ((bif l2 then some ((map d131 l3),(map d110 l4)) else none).bind λ x2=>(T61 N x2).bind λ y1=>((bif l2 then some ((map d131 l3),(map d110 l4)) else none).bind λ x4=>(RU N x4).bind λ y3=>let l1:=(bg y3); let l5:=(fw (aa5 (aaR l1))); (((bif (F3 y1&&(allFit (fits vi) (ab ([]:List (AV×AV)))&&(allFit (fits cO) (ab l1)&&(allFit (fits p2) l5&&true)))) then some (a1,(K3 y1),(map zB (ab ([]:List (AV×AV)))),(map cH (ab l1)),(((aaR l1):Nat):Int),(map d2 l5)) else none).bind λ w75=>bif (aD ([]:List (AV×AV))&&(aD l1&&true)) then some w75 else none).bind λ x77=>(gw (zC N a0) N x77))))):=by kernel_rfl
def T23 (N:Nat):dx->Option (Ld×Int):=(cx N [(56,e56 N),(62,e62 N)] []).fn 1000 23 (.cons cJ .nil) (.cD (.cons Hd (.ci .nil)))
def e23 (N:Nat):bJ:=⟨(.cons cJ .nil),(.cD (.cons Hd (.ci .nil))),T23 N⟩
def Lo:kq .int (λ k:Int=>aI k) AV.bool ua:=⟨λ a b=>zx .i64 a b,λ _=>rfl,λ _=>rfl⟩
def acX (a:Int) (m:List (Int×Bool)):bL .int (aI a) (ax (map ua m))=true:=Lo.keys a m
def acY (a:Int) (v:Bool) (m:List (Int×Bool)):eL .int (aI a) (AV.bool v) (ax (map ua m))=ax (map ua (dG a v m)):=Lo.put a v m
def lD (m:List (Int×Bool)):ab (ax (map ua m))=map ua m:=Lo.cells m
def lE (m:List (Int×Bool)):aD (ax (map ua m))=true:=Lo.aD m
def zB5:=And.intro @aV (And.intro @eq_self.{1} (And.intro @aaL (And.intro @bo (And.intro @aW (And.intro @bp (And.intro @mM (And.intro @mN (And.intro @aaK (And.intro @lD (And.intro @lE (And.intro @iy (And.intro @iz @jI))))))))))))
def ak2 (m:List (Int×Bool)):(ax (map ua m)).length=m.length:=by rw [Lo.ent,aag]
def zD (l:List Int):List (Int×Bool):=l.map λ x=>(x,true)
def VK (l:List Int) (x:Int):dG x true (zD l)=zD (if x∈l then l else l++[x]):=by
 by_cases h:x∈l
 .rw [if_pos h]
  induction l with
  |nil=>cases h
  |cons y l ih=>
   show dG x true ((y,true)::zD l)=(y,true)::zD l;unfold dG;by_cases hy:x=y
   .rw [if_pos hy,hy]
   .rw [if_neg hy,ih (by rcases List.mem_cons.1 h with h | h; exact absurd h hy; exact h)]
 .rw [if_neg h];have:getM x (zD l)=none:=by unfold zD; rw [RX,if_neg h]
  rw [EU this];unfold zD;rw [ab9];rfl
def iN (pc:List Int) (piece p:Int):Bool:=if piece < 0 then true else pc.getD p.toNat 0 == piece
def IX (i:Nat):Int:=(i:Int)
def tJ {α:Type} (pc:List Int) (piece:Int) (key:α->Int) (l:List α) (s:Int):Int:=l.foldl (λ s x=>if iN pc piece (key x)=true then s+1 else s) s
def Ot (pc:List Int) (p:Int):Prop:=0<=p/\p < (pc.length:Int)
def zE (h:Ot pc p):∃ k:Nat,p=(k:Int)/\∃ hk:k < pc.length,∀ piece,¬ piece < 0->iN pc piece p=(pc[k] == piece):=by
 obtain ⟨h1,h2⟩:=h;refine ⟨p.toNat,by omega,by omega,λ piece hp=>?_⟩;unfold iN;rw [if_neg hp,adl,ab6 (show p.toNat < pc.length by omega)];rfl
def VL (hN:dC N) (t:bh) (p n z o u s0:Int) (piece:Int) (pc:List Int) (S:List (Int×Bool)) (pm:List ((Int×Int)×Int)) (c:Nat) (L:List Nat) (hl:t.2.length<=1000000) (hs:0<=s0/\s0<=1000000) (hr:∀ x∈t.2,Ot pc (x.1)) :
  ao (pU N t) N (0,p,s0,n,z,o,u,piece,pc,S,pm,(c:Int),hX L)=some (p,(tJ pc piece (λ x=>x.1) t.2 s0),n,z,o,u,piece,pc,S,pm,(c:Int),hX L):=by
 have key:=dw (rd:=pU N t) t.2 (λ (s:Int) k=>((k:Int),p,s,n,z,o,u,piece,pc,S,pm,(c:Int),hX L)) (λ s x=>if iN pc piece (x.1)=true then s+1 else s) (λ s=>(p,s,n,z,o,u,piece,pc,S,pm,(c:Int),hX L)) (λ s k=>0<=s/\s<=s0+(k:Int)) (λ s k hk hP=>by
  obtain ⟨a1,a2⟩:=Lm t.2 hk;obtain ⟨j,ej,hj,hm⟩:=zE (hr _ (ab1 hk));obtain ⟨b1,b2⟩:=Mq pc hj;have ws:wrap .i64 (s+1)=s+1:=Ap ⟨by omega,by omega⟩;refine ⟨?_,by split <;> omega⟩;by_cases hp:piece < 0
  .have em:iN pc piece (t.2[k].1)=true:=by unfold iN; rw [if_pos hp]
   rw [em];simp only [pU,zB3,ai hk,af hk,a1,a2,hp,em,if_true,ws,aN (show k < 9223372036854775807 by omega),zB5,zB0,mo,od,mn]
  .have em:=hm piece hp;have dp:decide (piece < 0)=false:=decide_eq_false hp;rw [em]
   skip
   cases hb:(pc[j] == piece)
   .simp only [pU,zB3,ai hk,af hk,a1,a2,dp,ej,af hj,b1,b2,hb,zB14,aN (show k < 9223372036854775807 by omega),zB5,zB0,mo,od,mn]
   .simp only [pU,zB3,ai hk,af hk,a1,a2,dp,ej,af hj,b1,b2,hb,if_true,ws,aN (show k < 9223372036854775807 by omega),zB5,zB0,mo,od,mn]) (λ s _=>by
  simp only [pU,zB3,ay,zB5,zB0,mo,od,mn]) N s0 0 (abC _) (by unfold dC at hN; omega) ⟨hs.1,by simp⟩
 rw [ab7] at key;exact key
def VM (hN:dC N) (fr:List (Int×Int)) (p n z o u s0:Int) (piece:Int) (pc:List Int) (S:List (Int×Bool)) (pm:List ((Int×Int)×Int)) (c:Nat) (L:List Nat) (hl:fr.length<=1000000) (hs:0<=s0/\s0<=1000000) (hr:∀ x∈fr,Ot pc (x.1)) :
  ao (pV N fr) N (0,p,s0,n,z,o,u,piece,pc,S,pm,(c:Int),hX L)=some (p,(tJ pc piece (λ x=>x.1) fr s0),n,z,o,u,piece,pc,S,pm,(c:Int),hX L):=by
 have key:=dw (rd:=pV N fr) fr (λ (s:Int) k=>((k:Int),p,s,n,z,o,u,piece,pc,S,pm,(c:Int),hX L)) (λ s x=>if iN pc piece (x.1)=true then s+1 else s) (λ s=>(p,s,n,z,o,u,piece,pc,S,pm,(c:Int),hX L)) (λ s k=>0<=s/\s<=s0+(k:Int)) (λ s k hk hP=>by
  obtain ⟨a1,a2⟩:=Vy fr hk;obtain ⟨j,ej,hj,hm⟩:=zE (hr _ (ab1 hk));obtain ⟨b1,b2⟩:=Mq pc hj;have ws:wrap .i64 (s+1)=s+1:=Ap ⟨by omega,by omega⟩;refine ⟨?_,by split <;> omega⟩;by_cases hp:piece < 0
  .have em:iN pc piece (fr[k].1)=true:=by unfold iN; rw [if_pos hp]
   rw [em];simp only [pV,zB3,ai hk,af hk,a1,a2,hp,em,if_true,ws,aN (show k < 9223372036854775807 by omega),zB5,zB0,mo,od,mn]
  .have em:=hm piece hp;have dp:decide (piece < 0)=false:=decide_eq_false hp;rw [em]
   skip
   cases hb:(pc[j] == piece)
   .simp only [pV,zB3,ai hk,af hk,a1,a2,dp,ej,af hj,b1,b2,hb,zB14,aN (show k < 9223372036854775807 by omega),zB5,zB0,mo,od,mn]
   .simp only [pV,zB3,ai hk,af hk,a1,a2,dp,ej,af hj,b1,b2,hb,if_true,ws,aN (show k < 9223372036854775807 by omega),zB5,zB0,mo,od,mn]) (λ s _=>by
  simp only [pV,zB3,ay,zB5,zB0,mo,od,mn]) N s0 0 (abC _) (by unfold dC at hN; omega) ⟨hs.1,by simp⟩
 rw [ab7] at key;exact key
def apN (l:List (List (Int×Int))) (hk:k < l.length):d37 (an (map n37 l) k)=l[k]/\fits p37 (an (map n37 l) k)=true:=by
 rw [fK n37 l k hk,apl,apk]; exact ⟨rfl,rfl⟩
def R8 (hN:dC N) (op:List (List (Int×Int))) (de:∀ x∈op,x≠[]) (p e n z u s0:Int) (piece:Int) (pc:List Int) (S:List (Int×Bool)) (pm:List ((Int×Int)×Int)) (c:Nat) (L:List Nat) (hl:op.length<=1000000) (hs:0<=s0/\s0<=1000000) (hr:∀ x∈op,Ot pc ((x.getD 0 (0,0)).1)) :
  ao (mP N op) N (0,p,e,n,z,s0,u,piece,pc,S,pm,(c:Int),hX L)=some (p,e,n,z,(tJ pc piece (λ x=>(x.getD 0 (0,0)).1) op s0),u,piece,pc,S,pm,(c:Int),hX L):=by
 have key:=dw (rd:=mP N op) op (λ (s:Int) k=>((k:Int),p,e,n,z,s,u,piece,pc,S,pm,(c:Int),hX L)) (λ s x=>if iN pc piece ((x.getD 0 (0,0)).1)=true then s+1 else s) (λ s=>(p,e,n,z,s,u,piece,pc,S,pm,(c:Int),hX L)) (λ s k=>0<=s/\s<=s0+(k:Int)) (λ s k hk hP=>by
  obtain ⟨a1,a2⟩:=apN op hk;obtain ⟨x0,xt,hx⟩:∃ x0 xt,op[k]=x0::xt:=by
   have:=de _ (ab1 hk);cases h:op[k] with
   |nil=>exact absurd h this
   |cons a b=>exact ⟨a,b,rfl⟩
  have ek:op[k].getD 0 (0,0)=x0:=by rw [hx]; rfl
  have e1:decide ((0:Int)<=0/\0 < (((x0::xt).length:Nat):Int))=true:=decide_eq_true ⟨by omega,by rw [aci]; omega⟩;have e2:d100 (an (map n100 (x0::xt)) 0)=x0:=Lh x0;have e3:fits nG (an (map n100 (x0::xt)) 0)=true:=Lg x0;have tz:toNat 0=0:=rfl;obtain ⟨j,ej,hj,hm⟩:=zE (hr _ (ab1 hk));obtain ⟨b1,b2⟩:=Mq pc hj;have ej2:x0.1=(j:Int):=by rw [<- ej,ek]
  have ws:wrap .i64 (s+1)=s+1:=Ap ⟨by omega,by omega⟩;refine ⟨?_,by split <;> omega⟩;by_cases hp:piece < 0
  .have em:iN pc piece ((op[k].getD 0 (0,0)).1)=true:=by unfold iN; rw [if_pos hp]
   rw [em];simp only [mP,zB3,ai hk,af hk,a1,a2,hx,e1,e2,e3,tz,hp,em,if_true,ws,aN (show k < 9223372036854775807 by omega),zB5,zB0,mo,od,mn]
  .have em:=hm piece hp;have dp:decide (piece < 0)=false:=decide_eq_false hp;rw [em]
   skip
   cases hb:(pc[j] == piece)
   .simp only [mP,zB3,ai hk,af hk,a1,a2,hx,e1,e2,e3,tz,dp,ej2,af hj,b1,b2,hb,zB14,aN (show k < 9223372036854775807 by omega),zB5,zB0,mo,od,mn]
   .simp only [mP,zB3,ai hk,af hk,a1,a2,hx,e1,e2,e3,tz,dp,ej2,af hj,b1,b2,hb,if_true,ws,aN (show k < 9223372036854775807 by omega),zB5,zB0,mo,od,mn]) (λ s _=>by
  simp only [mP,zB3,ay,zB5,zB0,mo,od,mn]) N s0 0 (abC _) (by unfold dC at hN; omega) ⟨hs.1,by simp⟩
 rw [ab7] at key;exact key
def VN (hN:dC N) (t:bh) (p e z o u s0:Int) (piece:Int) (pc:List Int) (S:List (Int×Bool)) (pm:List ((Int×Int)×Int)) (c:Nat) (L:List Nat) (hl:(aa5 t.1.length).length<=1000000) (hs:0<=s0/\s0<=1000000) (hr:∀ x∈(aa5 t.1.length),Ot pc (IX x)) :
  ao (pT N t) N (0,p,e,s0,z,o,u,piece,pc,S,pm,(c:Int),hX L)=some (p,e,(tJ pc piece (λ x=>IX x) (aa5 t.1.length) s0),z,o,u,piece,pc,S,pm,(c:Int),hX L):=by
 have key:=dw (rd:=pT N t) (aa5 t.1.length) (λ (s:Int) k=>((k:Int),p,e,s,z,o,u,piece,pc,S,pm,(c:Int),hX L)) (λ s x=>if iN pc piece (IX x)=true then s+1 else s) (λ s=>(p,e,s,z,o,u,piece,pc,S,pm,(c:Int),hX L)) (λ s k=>0<=s/\s<=s0+(k:Int)) (λ s k hk hP=>by
  have Ar:k < t.1.length:=by rw [ab3] at hk; exact hk
  obtain ⟨j,ej,hj,hm⟩:=zE (hr _ (ab1 hk));obtain ⟨b1,b2⟩:=Mq pc hj;have ek:(aa5 t.1.length)[k]=k:=by simp
  have ej2:(k:Int)=(j:Int):=by rw [<- ej,ek]; rfl
  have ejk:k=j:=by omega
  subst ejk;have ws:wrap .i64 (s+1)=s+1:=Ap ⟨by omega,by omega⟩;refine ⟨?_,by split <;> omega⟩;by_cases hp:piece < 0
  .have em:iN pc piece (IX ((aa5 t.1.length)[k]))=true:=by unfold iN; rw [if_pos hp]
   rw [em];simp only [pT,zB3,ai Ar,af Ar,hp,em,if_true,ws,aN (show k < 9223372036854775807 by omega),zB5,zB0,mo,od,mn]
  .have em:=hm piece hp;have dp:decide (piece < 0)=false:=decide_eq_false hp;rw [em]
   skip
   cases hb:(pc[k] == piece)
   .simp only [pT,zB3,ai Ar,af Ar,dp,af hj,b1,b2,hb,zB14,aN (show k < 9223372036854775807 by omega),zB5,zB0,mo,od,mn]
   .simp only [pT,zB3,ai Ar,af Ar,dp,af hj,b1,b2,hb,if_true,ws,aN (show k < 9223372036854775807 by omega),zB5,zB0,mo,od,mn]) (λ s _=>by
  simp only [pT,zB3,ab3,ay,zB5,zB0,mo,od,mn]) N s0 0 (abC _) (by unfold dC at hN; omega) ⟨hs.1,by simp⟩
 rw [ab7] at key;exact key
def A8 (pc:List Int) (piece:Int) (s:List Int) (e:(Int×Int)×Int):List Int:=if iN pc piece e.1.1=true then (if e.2∈s then s else s++[e.2]) else s
def Lp (pc:List Int) (piece:Int) (pm:List ((Int×Int)×Int)):List Int:=pm.foldl (A8 pc piece) []
def E0 (h:s.Nodup):(A8 pc piece s e).Nodup:=by
 unfold A8;split
 .split
  .exact h
  .rename_i hn;exact List.nodup_append.2 ⟨h,by simp,λ a ha b hb hab=>hn (by rw [adj] at hb; subst hb; subst hab; exact ha)⟩
 .exact h
def Lq :x∈A8 pc piece s e↔x∈s\/(iN pc piece e.1.1=true/\e.2=x):=by
 unfold A8;by_cases h1:iN pc piece e.1.1=true
 .rw [if_pos h1];by_cases h2:e.2∈s
  .rw [if_pos h2];exact ⟨.inl,λ h=>h.elim id λ h=>h.2 ▸ h2⟩
  .rw [if_neg h2,List.mem_append,adj];exact ⟨λ h=>h.elim .inl λ h=>.inr ⟨h1,h.symm⟩,λ h=>h.elim .inl λ h=>.inr h.2.symm⟩
 .rw [if_neg h1];exact ⟨.inl,λ h=>h.elim id λ h=>absurd h.1 h1⟩
def Ou (pc:List Int) (piece:Int) (pm:List ((Int×Int)×Int)):(Lp pc piece pm).Nodup/\∀ x,x∈Lp pc piece pm↔∃ e∈pm,iN pc piece e.1.1=true/\e.2=x:=by
 have gen:∀ (pm:List ((Int×Int)×Int)) (s:List Int),s.Nodup->(pm.foldl (A8 pc piece) s).Nodup/\∀ x,x∈pm.foldl (A8 pc piece) s↔x∈s\/∃ e∈pm,iN pc piece e.1.1=true/\e.2=x:=by
  intro pm
  induction pm with
  |nil=>intro s h; exact ⟨h,λ x=>⟨.inl,λ h=>h.elim id λ ⟨e,he,_⟩=>by cases he⟩⟩
  |cons e pm ih=>
   intro s h;obtain ⟨h1,h2⟩:=ih (A8 pc piece s e) (E0 h);refine ⟨h1,λ x=>?_⟩;rw [adx,h2,Lq];constructor
   .rintro ((h|h)|⟨e',DV,h⟩)
    .exact .inl h
    .exact .inr ⟨e,List.mem_cons_self,h⟩
    .exact .inr ⟨e',adP _ DV,h⟩
   .rintro (h|⟨e',DV,h⟩)
    .exact .inl (.inl h)
    .rcases List.mem_cons.1 DV with rfl|DV
     .exact .inl (.inr h)
     .exact .inr ⟨e',DV,h⟩
 obtain ⟨h1,h2⟩:=gen pm [] List.nodup_nil;exact ⟨h1,λ x=>by rw [show Lp pc piece pm=pm.foldl (A8 pc piece) [] from rfl,h2]; simp⟩
def aah (t:bh) (piece:Int) (pc:List Int) (pm:List ((Int×Int)×Int)) (fr:List (Int×Int)) (op:List (List (Int×Int))) (mx:Int):Int×Int×Int×Int×Int×Int:=
 let pts:Int:=((Lp pc piece pm).length:Int)
 let IY:=tJ pc piece IX (aa5 t.1.length) 0
 let edg:=tJ pc piece (λ x:Int×Int=>x.1) fr (tJ pc piece (λ x:mi=>x.1) t.2 0)
 (pts,edg,IY,wrap .i64 (mx+1),tJ pc piece (λ x:List (Int×Int)=>(x.getD 0 (0,0)).1) op 0,wrap .i64 (wrap .i64 (pts - edg)+IY))
def Qe {α:Type} (pc:List Int) (piece:Int) (key:α->Int):∀ (l:List α) (s:Int),s<=tJ pc piece key l s/\tJ pc piece key l s<=s+(l.length:Int)
 |[],s=>⟨Int.le_refl _,by simp [tJ]⟩
 |x::l,s=>by
  have h:=Qe pc piece key l (if iN pc piece (key x)=true then s+1 else s);have e:tJ pc piece key (x::l) s=tJ pc piece key l (if iN pc piece (key x)=true then s+1 else s):=rfl;rw [e,aci];split at h <;> (rename_i hm; simp only [hm,if_true,zB14]; omega)
section
variable (hN:dC N)
include hN
theorem Qf (t:bh) (piece:Int) (pc:List Int) (pm:List ((Int×Int)×Int)) (fr:List (Int×Int)) (op:List (List (Int×Int))) (mx:Int)
  (hf:T99 N t=some fr) (ho:T57 N t=some op) (hx:T60 N pc=some mx) (h1:t.1.length<=1000) (h2:t.2.length<=100000) (h3:fr.length<=1000000) (h4:op.length<=1000000)
  (r0:∀ e∈pm,Ot pc e.1.1) (r1:pc.length=t.1.length) (r2:∀ s∈t.2,Ot pc s.1) (r3:∀ e∈fr,Ot pc e.1) (r4:∀ l∈op,l≠[]) (r5:∀ l∈op,Ot pc (l.getD 0 (0,0)).1) (hpm:pm.length<=1000000000) :
  ∀ (n:Nat) (L:List Nat) (s:List Int),L.length < n->L.Nodup->(∀ i∈L,i < pm.length)->s.Nodup->(∀ x,x∈s↔∃ j,∃ hj:j < pm.length,j∉L/\iN pc piece pm[j].1.1=true/\pm[j].2=x) ->
   gw (zC N t) n (piece,pc,zD s,pm,(pm.length:Int),hX L)=some (aah t piece pc pm fr op mx)
 |0,L,s,h,_,_,_,_=>by omega
 |n+1,L,s,h,hL,hi,hs,iH=>by
  rw [pP];have ec:decide (pm.length=pm.length)=true:=decide_eq_true rfl;cases Hk:L with
  |nil=>
   have i0:abk ([]:List Nat)=true:=rfl;subst Hk;have sl:s.length=(Lp pc piece pm).length:=by
    obtain ⟨d1,d2⟩:=Ou pc piece pm;refine List.Perm.length_eq ((List.perm_ext_iff_of_nodup hs d1).2 λ x=>?_);rw [iH,d2];constructor
    .rintro ⟨j,hj,-,h⟩;exact ⟨pm[j],ab1 hj,h⟩
    .rintro ⟨e,he,h⟩;obtain ⟨j,hj,rfl⟩:=List.getElem_of_mem he;exact ⟨j,hj,by simp,h⟩
   have c0:=Qe pc piece (λ x:mi=>x.1) t.2 0;have q1:=VN hN t (s.length:Int) 0 0 0 0 0 piece pc (zD s) pm pm.length [] (by rw [ab3]; omega) (by omega) (λ x hx=>by
    have:=acg.1 hx;unfold Ot IX;omega)
   have q2:=VL hN t (s.length:Int) (tJ pc piece IX (aa5 t.1.length) 0) 0 0 0 0 piece pc (zD s) pm pm.length [] (by omega) (by omega) r2;have q3:=VM hN fr (s.length:Int) (tJ pc piece IX (aa5 t.1.length) 0) 0 0 0 (tJ pc piece (λ x:mi=>x.1) t.2 0) piece pc (zD s) pm pm.length [] h3 (by omega) r3;have q4:=R8 hN op r4 (s.length:Int) (tJ pc piece (λ x:Int×Int=>x.1) fr (tJ pc piece (λ x:mi=>x.1) t.2 0)) (tJ pc piece IX (aa5 t.1.length) 0) 0 0 0 piece pc (zD s) pm pm.length [] h4 (by omega) r5;have sl2:(zD s).length=s.length:=by unfold zD; rw [aag]
   have ht:T99 N (t.1,t.2)=some fr:=hf;have ht2:T57 N (t.1,t.2)=some op:=ho;simp only [zC,zz,aaK,ec,zB4,jI,i0,ak2,sl2,eV,eW,lD,lE,zB21,iy,iz,mM,mN,zB8,aaL,q1,q2,ht,q3,ht2,q4,hx,mn,kq1,od,aaf];rw [sl];rfl
  |cons a L'=>
   rw [<- Hk];have i0:abk L=false:=by rw [Hk]; rfl
   simp only [zC,zz,aaK,ec,zB10,jI,i0,mn,kq1,od,aaf];refine zj (by rw [Hk]; simp) λ i hmi=>?_
   have du:=hi i hmi;have ql:(L.erase i).length=L.length - 1:=acf hmi;have po:0 < L.length:=acq hmi;have dl:decide (i < pm.length)=true:=decide_eq_true du;have ih:=λ s' (ye:s'.Nodup) h2'=>Qf t piece pc pm fr op mx hf ho hx h1 h2 h3 h4 r0 r1 r2 r3 r4 r5 hpm n (L.erase i) s' (by omega) (hL.erase i) (λ j hj=>hi j (abN hj)) ye h2'
   have hme:∀ x,(x∈A8 pc piece s pm[i])↔∃ j,∃ hj:j < pm.length,j∉L.erase i/\iN pc piece pm[j].1.1=true/\pm[j].2=x:=λ x=>by
    rw [Lq,iH];constructor
    .rintro (⟨j,hj,Oi,h⟩|h)
     .exact ⟨j,hj,λ hm=>Oi (abN hm),h⟩
     .exact ⟨i,du,λ hm=>((acW.mem_erase_iff hL).1 hm).1 rfl,h⟩
    .rintro ⟨j,hj,Oi,h⟩;by_cases hji:j=i
     .subst hji; exact .inr h
     .exact .inl ⟨j,hj,λ hm=>Oi ((acW.mem_erase_iff hL).2 ⟨hji,hm⟩),h⟩
   have A9:=ih (A8 pc piece s pm[i]) (E0 hs) hme;obtain ⟨j,ej,hj,hm⟩:=zE (r0 pm[i] (ab1 du));obtain ⟨b1,b2⟩:=Mq pc hj;rw [Vx pm du];simp only [Lg,Lh,Cq,wE,zB17,dl,ec];have sp:=VK s pm[i].2;by_cases hp:piece < 0
   .have em:iN pc piece pm[i].1.1=true:=by unfold iN; rw [if_pos hp]
    unfold A8 at A9;rw [if_pos em] at A9;simp only [hp,decide_true,eV,eW,lD,lE,zB21,iy,iz,mM,mN,jI,aaK,zB4,aaL,acX,acY,sp];exact A9
   .have em:=hm piece hp;have dp:decide (piece < 0)=false:=decide_eq_false hp;unfold A8 at A9;rw [em] at A9;cases hb:(pc[j] == piece)
    .rw [hb] at A9;rw [if_neg (by decide)] at A9;simp only [zB3,zB5,dp,ej,af hj,b1,b2,hb,zB0];exact A9
    .rw [hb,if_pos rfl] at A9;simp only [zB3,zB5,dp,ej,af hj,b1,b2,hb,zB0,acX,acY,sp];exact A9
theorem R9 (t:bh) (piece:Int) (fr:List (Int×Int)) (op:List (List (Int×Int))) (mx:Int)
  (hf:T99 N t=some fr) (ho:T57 N t=some op) (hx:T60 N (av t)=some mx) (h1:t.1.length<=1000) (hs:∀ x∈t.1,x.2.length<=1000) (h2:t.2.length<=100000) (hk:∀ s∈t.2,ZX t s=true) (h3:fr.length<=1000000) (h4:op.length<=1000000)
  (r0:∀ e∈aB t,Ot (av t) e.1.1) (r2:∀ s∈t.2,Ot (av t) s.1) (r3:∀ e∈fr,Ot (av t) e.1) (r4:∀ l∈op,l≠[]) (r5:∀ l∈op,Ot (av t) (l.getD 0 (0,0)).1) (hpm:(aB t).length<=1000000000) :
  T62 N (t,piece)=some (aah t piece (av t) (aB t) fr op mx):=by
 have q1:T61 N (t.1,t.2)=some (av t):=xP hN t (by omega) (by omega);have q2:RU N (t.1,t.2)=some (aB t):=tH hN t h1 hs h2 hk;have r1:(av t).length=t.1.length:=by unfold av; simp only [aag,iY]
 have q:=Qf hN t piece (av t) (aB t) fr op mx hf ho hx h1 h2 h3 h4 r0 r1 r2 r3 r4 r5 hpm N (aa5 (aB t).length) [] (by rw [ab3]; unfold dC at hN; omega) acM (λ i hi=>acg.1 hi) List.nodup_nil (λ x=>by
  constructor
  .intro h; cases h
  .rintro ⟨j,hj,Oi,-⟩;exact absurd (acg.2 hj) Oi)
 have q:gw (zC N t) N (piece,av t,[],aB t,((aB t).length:Int),hX (aa5 (aB t).length))=some (aah t piece (av t) (aB t) fr op mx):=q;have f0:allFit (fits vi) ([]:List AV)=true:=rfl;have m0:map zB ([]:List AV)=[]:=rfl;rw [show T62 N (t,piece)=T62 N ((t.1,t.2),piece) from rfl,agl];simp only [zB8,zB4,aaL,q1,q2,eV,eW,c0_,f0,m0,a0_,zB21,zz,mM,mN];exact q
end
def aK.swap {p:aF} {T T':ps.T->Option p.T} (h:aK E g ⟨ps,p,T⟩) (hT:∀ x y,T' x=some y->T x=some y):aK E g ⟨ps,p,T'⟩:=λ x y hh=>h x y (hT x y hh)
def okT (t:bh):Bool:=adO t.1.length 1000&&(t.1.all λ x=>adO x.2.length 1000)&&adO t.2.length 1000&&t.2.all (ZX t)
def Ov (h:okT t=true):t.1.length<=1000/\(∀ x∈t.1,x.2.length<=1000)/\t.2.length<=1000/\∀ s∈t.2,ZX t s=true:=by
 unfold okT at h;simp only [acN,List.all_eq_true] at h;exact ⟨acd h.1.1.1,λ x hx=>acd (h.1.1.2 x hx),acd h.1.2,h.2⟩
def Sa (pc:List Int) (p:Int):Bool:=decide (0<=p)&&decide (p < (pc.length:Int))
def CZ (h:Sa pc p=true):Ot pc p:=by
 unfold Sa at h;simp only [acN,decide_eq_true_eq] at h;exact h
def IZ (t:bh):Option (List Int):=bif okT t then some (av t) else none
def I0 (t:bh):Option (List ((Int×Int)×Int)):=bif okT t then some (aB t) else none
def EI (N:Nat) (x:bh×Int):Option (Int×Int×Int×Int×Int×Int):=
 bif okT x.1 then (T99 N x.1).bind λ fr=>(T57 N x.1).bind λ op=>(T60 N (av x.1)).bind λ mx=>
  bif adO fr.length 1000000&&(adO op.length 1000000&&(adO (aB x.1).length 1000000&&((aB x.1).all (λ e=>Sa (av x.1) e.1.1)&&(x.1.2.all (λ s=>Sa (av x.1) s.1)&&(fr.all (λ e=>Sa (av x.1) e.1)&&op.all (λ l=>!l.isEmpty&&Sa (av x.1) (l.getD 0 (0,0)).1)))))) then some (aah x.1 x.2 (av x.1) (aB x.1) fr op mx) else none
 else none
section
variable (hN:dC N)
include hN
theorem Sb (t:bh) (y:List Int) (h:IZ t=some y):T61 N t=some y:=by
 unfold IZ at h;obtain ⟨h1,h2⟩:=bZ h;cases h2;obtain ⟨a,b,c,d⟩:=Ov h1;exact xP hN t (by omega) (by omega)
theorem Sc (t:bh) (y:List ((Int×Int)×Int)) (h:I0 t=some y):RU N t=some y:=by
 unfold I0 at h;obtain ⟨h1,h2⟩:=bZ h;cases h2;obtain ⟨a,b,c,d⟩:=Ov h1;exact tH hN t a b (by omega) d
theorem count_eq (x:bh×Int) (y:Int×Int×Int×Int×Int×Int) (h:EI N x=some y):T62 N x=some y:=by
 unfold EI at h;obtain ⟨h1,h2⟩:=bZ h;obtain ⟨a,b,c,d⟩:=Ov h1;obtain ⟨fr,q1,h2⟩:=bind_some h2;obtain ⟨op,q2,h2⟩:=bind_some h2;obtain ⟨mx,q3,h2⟩:=bind_some h2;obtain ⟨h3,h4⟩:=bZ h2;cases h4;simp only [acN,List.all_eq_true] at h3;obtain ⟨c1,c2,c3,c4,c5,c6,c7⟩:=h3;exact R9 hN x.1 x.2 fr op mx q1 q2 q3 a b (by omega) d (acd c1) (acd c2) (λ e he=>CZ (c4 e he)) (λ s hs=>CZ (c5 s hs)) (λ e he=>CZ (c6 e he)) (λ l hl=>by
  have:=(c7 l hl).1;intro e;subst e;cases this) (λ l hl=>CZ (c7 l hl).2) (by have:=acd c3; omega)
end
def Qg:bJ:=⟨(.cons mm .nil),aO,IZ⟩
def Ow (hN:dC N):aK cd 61 Qg:=aK.swap (Oe N) (λ x y h=>Sb hN x y h)
def N9 (N:Nat):bJ:=⟨(.cons mm (.cons (.int .i64) .nil)),PO,EI N⟩
def Sd (hN:dC N):aK cd 62 (N9 N):=λ x y h=>agh N x y (count_eq hN x y h)
def aai (N:Nat) (hN:dC N):ob cd 70:=⟨(.cons mm .nil),o70,I0,λ x y h=>Vt N x y (Sc hN x y h)⟩
end
end Go.Proofs.YtegoimldbgdeiaaGreat
namespace Go.Proofs
open Go.Shelf
def Tryz.Hn:adn:=⟨λ | 4=>139 | n=>n,λ | 22=>59 | 25=>3 | 3=>3 | 4=>4 | 9=>9 | 20=>20 | 0=>0 | n=>n,λ | n=>n⟩
def Tryz.ak4:Go.Proofs.Lays8.n4 Tryz.prog Tryz.Hn:={
 mixed:=by kernel_rfl
 f4:=⟨Tryz.f139.name,by decide,Tryz.func139.trans (congrArg some (by kernel_rfl))⟩
 t0:=Tryz.underlying0
 a0:=Tryz.isAgg0
 z0:=Tryz.sizeOf0
 v0:=Tryz.zeroValue0
 t3:=Tryz.underlying3
 a3:=Tryz.isAgg3
 z3:=Tryz.sizeOf3
 v3:=Tryz.zeroValue3
 t4:=Tryz.underlying4
 a4:=Tryz.isAgg4
 z4:=Tryz.sizeOf4
 v4:=Tryz.zeroValue4
 t9:=Tryz.underlying9
 a9:=Tryz.isAgg9
 z9:=Tryz.sizeOf9
 v9:=Tryz.zeroValue9
 t20:=Tryz.underlying20
 a20:=Tryz.isAgg20
 z20:=Tryz.sizeOf20
 v20:=Tryz.zeroValue20
 t22:=Tryz.underlying59
 a22:=Tryz.isAgg59
 z22:=Tryz.sizeOf59
 v22:=Tryz.zeroValue59 }
def Tryz.Ho:adn:=⟨λ | 4=>140 | n=>n,λ | 22=>83 | 25=>119 | 3=>3 | 4=>4 | 9=>9 | 20=>20 | 0=>0 | n=>n,λ | n=>n⟩
def Tryz.ak5:Go.Proofs.Lays8.n4 Tryz.prog Tryz.Ho:={
 mixed:=by kernel_rfl
 f4:=⟨Tryz.f140.name,by decide,Tryz.func140.trans (congrArg some (by kernel_rfl))⟩
 t0:=Tryz.underlying0
 a0:=Tryz.isAgg0
 z0:=Tryz.sizeOf0
 v0:=Tryz.zeroValue0
 t3:=Tryz.underlying3
 a3:=Tryz.isAgg3
 z3:=Tryz.sizeOf3
 v3:=Tryz.zeroValue3
 t4:=Tryz.underlying4
 a4:=Tryz.isAgg4
 z4:=Tryz.sizeOf4
 v4:=Tryz.zeroValue4
 t9:=Tryz.underlying9
 a9:=Tryz.isAgg9
 z9:=Tryz.sizeOf9
 v9:=Tryz.zeroValue9
 t20:=Tryz.underlying20
 a20:=Tryz.isAgg20
 z20:=Tryz.sizeOf20
 v20:=Tryz.zeroValue20
 t22:=Tryz.underlying83
 a22:=Tryz.isAgg83
 z22:=Tryz.sizeOf83
 v22:=Tryz.zeroValue83 }
end Go.Proofs
namespace Go.Proofs
open Go.Shelf
def Tryz.E1:adn:=⟨λ | 15=>118 | n=>n,λ | 22=>59 | 3=>3 | 4=>4 | n=>n,λ | n=>n⟩
def Tryz.agn:Go.Proofs.Lays2.n15 Tryz.prog Tryz.E1:={
 mixed:=by kernel_rfl
 f15:=Tryz.func118.trans (congrArg some (by kernel_rfl))
 t3:=Tryz.underlying3
 a3:=Tryz.isAgg3
 z3:=Tryz.sizeOf3
 v3:=Tryz.zeroValue3
 t4:=Tryz.underlying4
 a4:=Tryz.isAgg4
 z4:=Tryz.sizeOf4
 v4:=Tryz.zeroValue4
 t22:=Tryz.underlying59
 a22:=Tryz.isAgg59
 z22:=Tryz.sizeOf59
 v22:=Tryz.zeroValue59
 i3:=by kernel_rfl }
end Go.Proofs
namespace Go.Proofs.YtegoimldbgdeiaaGreat
open Go Go.Am
open Go.Am.aF (fits)
open Go.IntKind (wrap)
open Int (toNat)
open List (map)
set_option maxRecDepth 100000
def aaj:∃ (i0:TypeInfo) (z:Value),Tryz.prog.info? 3=some i0/\i0.zero=some z/\i0.size=1/\i0.bytes=8/\z.cells.size=1:=by
 have h1:((Tryz.prog.info? 3).bind λ i=>i.zero).isSome=true:=by kernel_rfl
 have h2:((Tryz.prog.info? 3).map λ i=>i.size)=some 1:=by kernel_rfl
 have h3:((Tryz.prog.info? 3).map λ i=>i.bytes)=some 8:=by kernel_rfl
 have h4:(((Tryz.prog.info? 3).bind λ i=>i.zero).map λ z=>z.cells.size)=some 1:=by kernel_rfl
 cases h:Tryz.prog.info? 3 with
 |none=>rw [h] at h1; cases h1
 |some i0=>
  rw [h] at h1 h2 h3 h4;simp only [aad,Option.map_some,ad4] at h1 h2 h3 h4;cases hz:i0.zero with
  |none=>rw [hz] at h1; cases h1
  |some z=>
   rw [hz] at h4;exact ⟨i0,z,rfl,hz,h2,h3,by simpa using h4⟩
noncomputable def agr:xF cd 139:=⟨Qh 1 8 3,λ args G r G' h=>by
 obtain ⟨i0,z,h1,h2,h3,h4,h5⟩:=aaj;have key:=Lr (E:=cd) (ρ:=Tryz.Hn) Tryz.ak4 (Plain.of Tryz.func139 (by kernel_rfl) (by kernel_rfl)) i0 z h1 h2 (by omega) (by omega) args G r G';rw [h3,h4] at key;exact key h⟩
def Qi:∃ (i0:TypeInfo) (z:Value),Tryz.prog.info? 119=some i0/\i0.zero=some z/\i0.size=3/\i0.bytes=24/\z.cells.size=3:=by
 have h1:((Tryz.prog.info? 119).bind λ i=>i.zero).isSome=true:=by kernel_rfl
 have h2:((Tryz.prog.info? 119).map λ i=>i.size)=some 3:=by kernel_rfl
 have h3:((Tryz.prog.info? 119).map λ i=>i.bytes)=some 24:=by kernel_rfl
 have h4:(((Tryz.prog.info? 119).bind λ i=>i.zero).map λ z=>z.cells.size)=some 3:=by kernel_rfl
 cases h:Tryz.prog.info? 119 with
 |none=>rw [h] at h1; cases h1
 |some i0=>
  rw [h] at h1 h2 h3 h4;simp only [aad,Option.map_some,ad4] at h1 h2 h3 h4;cases hz:i0.zero with
  |none=>rw [hz] at h1; cases h1
  |some z=>
   rw [hz] at h4;exact ⟨i0,z,rfl,hz,h2,h3,by simpa using h4⟩
noncomputable def agt:xF cd 140:=⟨Qh 3 24 119,λ args G r G' h=>by
 obtain ⟨i0,z,h1,h2,h3,h4,h5⟩:=Qi;have key:=Lr (E:=cd) (ρ:=Tryz.Ho) Tryz.ak5 (Plain.of Tryz.func140 (by kernel_rfl) (by kernel_rfl)) i0 z h1 h2 (by omega) (by omega) args G r G';rw [h3,h4] at key;exact key h⟩
noncomputable def aak:xF cd 118:=⟨I1 3,λ args G r G' h=>
 Se (E:=cd) (ρ:=Tryz.E1) Tryz.agn (Plain.of Tryz.func118 (by kernel_rfl) (by kernel_rfl)) rfl args G r G' h⟩
noncomputable def gtG:(g:FuncId)->Option (xF cd g)
 |118=>some aak
 |139=>some agr
 |140=>some agt
 |_=>none
noncomputable def cxG (N:Nat) (NU:List (Nat×bJ)) (Ex:List (Nat×List (Nat×dF))):jj:={ cx N NU Ex with gt:=gtG }
end Go.Proofs.YtegoimldbgdeiaaGreat
namespace Go.Proofs
open Go.Shelf
def Tryz.E3:adn:=⟨λ | 41=>123 | n=>n,λ | 22=>83 | 23=>119 | 4=>4 | n=>n,λ | n=>n⟩
def Tryz.agu:Go.Proofs.SlLaysE0.n41 Tryz.prog Tryz.E3:={
 mixed:=by kernel_rfl
 f41:=⟨Tryz.f123.name,by decide,Tryz.func123.trans (congrArg some (by kernel_rfl))⟩
 t4:=Tryz.underlying4
 a4:=Tryz.isAgg4
 z4:=Tryz.sizeOf4
 v4:=Tryz.zeroValue4
 t22:=Tryz.underlying83
 a22:=Tryz.isAgg83
 z22:=Tryz.sizeOf83
 v22:=Tryz.zeroValue83 }
end Go.Proofs
namespace Go.Proofs.YtegoimldbgdeiaaGreat
open Go Go.Am
open Go.Am.aF (fits)
open Go.IntKind (wrap)
open Int (toNat)
open List (map)
set_option maxRecDepth 100000
noncomputable def aal:xF cd 123:=⟨I2 3 24 119,λ args G r G' h=>by
 obtain ⟨i0,z,h1,h2,h3,h4,h5⟩:=Qi;exact Sf (E:=cd) (ρ:=Tryz.E3) Tryz.agu (Plain.of Tryz.func123 (by kernel_rfl) (by kernel_rfl)) i0 z 3 24 h1 h2 h3 h4 h5 (by decide) (by decide) Tryz.sizeOf119 rfl args G r G' h⟩
noncomputable def gtK:(g:FuncId)->Option (xF cd g)
 |123=>some aal
 |g=>gtG g
noncomputable def cxK (N:Nat) (NU:List (Nat×bJ)) (Ex:List (Nat×List (Nat×dF))):jj:={ cx N NU Ex with gt:=gtK }
end Go.Proofs.YtegoimldbgdeiaaGreat
