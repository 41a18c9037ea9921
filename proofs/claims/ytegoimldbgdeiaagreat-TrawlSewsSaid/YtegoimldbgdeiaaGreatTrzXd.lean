/- Plain laws: the program's flip: T47. -/
import Derived.Test.YtegoimldbgdeiaaGreatTrzXc
set_option linter.all false
open List renaming ext_getElem→aal, length_map→aao, map_append→aap, map_set→aaq, getElem?_eq_getElem→aas, getElem_map→aav
namespace Go.Proofs.YtegoimldbgdeiaaGreat
open Go Go.Am
open List (map)
open Int (toNat)
open Go.IntKind (wrap)
open Go.Am.aP (fits)
set_option maxRecDepth 100000
def mG (l:List nJ):List (List (Int × Int)):=l.map fun x=>x.2
def nU (l:List nJ):List (List UInt8 × Nat × Nat):=l.mapIdx fun j x=>(x.1,j,x.2.length)
theorem qy (l:List nJ):(mG l).length=l.length:=aao _
theorem mw (l:List nJ):(nU l).length=l.length:=List.length_mapIdx
theorem OU (l:List nJ) (x:nJ):mG l++[x.2]=mG (l++[x]):=by unfold mG; rw [aap]; rfl
theorem OV (l:List nJ) (x:nJ):nU l++[(x.1,l.length,x.2.length)]=nU (l++[x]):=by unfold nU; rw [List.mapIdx_append]; simp
theorem yf (rows:List (List (Int × Int))):aq (map n129 rows)=rows.map (map n132):=by
 unfold aq;rw [List.map_map]; rfl
theorem qI (rows:List (List (Int × Int))):gy 2 (aq (map n129 rows))=map n129 rows:=by
 rw [yf]; unfold gy; rw [List.map_map]; rfl
theorem TG:∀ l:List (Int × Int),fw (map n132 l)=true
 |[]=>rfl
 |x :: l=>by
  show ((n132 x).exact&&fw (map n132 l))=true;rw [TG l]; rfl
theorem pJ:∀ rows:List (List (Int × Int)),gY (aq (map n129 rows))=true
 |[]=>rfl
 |r :: rows=>by
  show (fw (map n132 r)&&gY (aq (map n129 rows)))=true;rw [TG,pJ rows]; rfl
theorem aaA (rows:List (List (Int × Int))):(aq (map n129 rows)).length=rows.length:=by rw [yf,aao]
theorem aaB (rows:List (List (Int × Int))) (r:List (Int × Int)):aq (map n129 rows)++[map n132 r]=aq (map n129 (rows++[r])):=by
 rw [yf,yf,aap]; rfl
theorem roP (rows:List (List (Int × Int))) {p:Nat} (hp:p < rows.length) (s:List (Int × Int)):rowOf (aq (map n129 (rows.set p s))) p=map n132 s:=by
 unfold rowOf;rw [yf,aN,List.getElem?_map,List.getElem?_set_self hp]; rfl
theorem stP (rows:List (List (Int × Int))) (p:Nat) (s r:List (Int × Int)):ak (aq (map n129 (rows.set p s))) p (map n132 r)=aq (map n129 (rows.set p r)):=by
 rw [yf,yf,dV,aaq,List.set_set,aaq]
theorem TH (s:List (Int × Int)) (i:Nat) (a b:Int):ak (map n132 s) i (AV.agg [AV.int .i64 a,AV.int .i64 b])=map n132 (s.set i (a,b)):=by
 rw [dV,aaq]; rfl
theorem snP (ls:List (List UInt8 × Nat × Nat)) (a:List UInt8) (b c:Nat):map gS ls++[AV.agg [AV.str a,AV.eX 1 b 2 c]]=map gS (ls++[(a,b,c)]):=by rw [aap]; rfl
theorem gP (R:List nJ) {j:Nat} (hj:j < R.length):aS (ae (map gS (nU R)) j)=(R[j].1,j,R[j].2.length)∧fits kj (ae (map gS (nU R)) j)=true:=by
 rw [fW gS (nU R) j (by rw [mw]; exact hj),Sb,Sa];exact ⟨by simp [nU],rfl⟩
theorem Xt:gy 2 ([]:List (List AV))=map n129 []:=rfl
theorem aer:gY ([]:List (List AV))=true:=rfl
theorem aes:allFit (fits kj) ([]:List AV)=true∧map aS ([]:List AV)=[]:=⟨rfl,rfl⟩
theorem aaC (a b:Int):AV.closed (AV.agg [AV.int .i64 a,AV.int .i64 b])=true:=rfl
theorem aaD (rows:List (List AV)):∀ ls:List (List UInt8 × Nat × Nat),(∀ x∈ls,x.2.2=(rowOf rows x.2.1).length)→sZ 1 2 rows (an (map gS ls))=true
 |[],_=>rfl
 |x :: ls,h=>by
  show ((Nat.beq 2 2&&decide (x.2.2=(rowOf rows x.2.1).length))&&sZ 1 2 rows (an (map gS ls)))=true;rw [aaD rows ls fun y hy=>h y (by simp [hy]),decide_eq_true (h x (by simp))];rfl
theorem TJ (rows:List (List (Int × Int))) {j:Nat} (hj:j < rows.length):rowOf (aq (map n129 rows)) j=map n132 rows[j]:=by
 unfold rowOf;rw [yf,aN,List.getElem?_map,aas hj]; rfl
theorem aaE (R:List nJ):sZ 1 2 (aq (map n129 (mG R))) (an (map gS (nU R)))=true:=by
 refine aaD _ _ fun x hx=>?_
 unfold nU at hx;rw [List.mem_mapIdx] at hx;obtain ⟨j,hj,rfl⟩:=hx;show R[j].2.length=(rowOf (aq (map n129 (mG R))) j).length;rw [TJ _ (by rw [qy]; exact hj),aao];simp [mG]
theorem aaF (R:List nJ):map (yw 1 (aq (map n129 (mG R)))) (map gS (nU R))=map n131 R:=by
 apply aal
 ·simp [mw]
 ·intro j h1 h2;have hj:j < R.length:=by simpa [mw] using h1
  rw [aav,aav,aav];have e:(nU R)[j]'(by rw [mw]; exact hj)=(R[j].1,j,R[j].2.length):=by simp [nU]
  rw [e];show AV.agg [AV.str R[j].1,AV.list .gQ 2 (rowOf (aq (map n129 (mG R))) j)]=n131 R[j];rw [TJ _ (by rw [qy]; exact hj)];have e2:(mG R)[j]'(by rw [qy]; exact hj)=R[j].2:=by simp [mG]
  rw [e2];rfl
theorem Sq (l:List nJ) (p:Nat) (x:List UInt8) (s:List (Int × Int)):mG (l.set p (x,s))=(mG l).set p s:=by unfold mG; rw [aaq]
theorem OW (l:List nJ) {p:Nat} (hp:p < l.length):(mG l).set p l[p].2=mG l:=by
 have:(mG l)[p]'(by rw [qy]; exact hp)=l[p].2:=by simp [mG]
 rw [← this];exact List.set_getElem_self _
theorem Sr (l:List nJ) {p:Nat} (hp:p < l.length) (s:List (Int × Int)) (hs:s.length=l[p].2.length):nU (l.set p (l[p].1,s))=nU l:=by
 apply aal
 ·rw [mw,mw,List.length_set]
 ·intro j h1 h2;simp only [nU,List.getElem_mapIdx,List.getElem_set];by_cases c:p=j
  ·subst c;rw [if_pos rfl,hs]
  ·rw [if_neg c]
def lR (l:List (Int × Int)) (k:Nat):List (Int × Int):=(List.range l.length).map fun m=>if m < k∨l.length≤m+k then l.getD (l.length - 1 - m) (0,0) else l.getD m (0,0)
theorem kn (l:List (Int × Int)) (k:Nat):(lR l k).length=l.length:=by simp [lR]
theorem sL (l:List (Int × Int)) (k:Nat) {m:Nat} (hm:m < l.length):(lR l k)[m]'(by rw [kn]; exact hm)=if m < k∨l.length≤m+k then l.getD (l.length - 1 - m) (0,0) else l.getD m (0,0):=by
 simp [lR]
theorem LP (l:List (Int × Int)):lR l 0=l:=by
 apply aal
 ·exact kn l 0
 ·intro m h1 h2;rw [sL l 0 h2,if_neg (by omega),getD_at _ _ h2]
theorem OX (l:List (Int × Int)):lR l (l.length / 2)=l.reverse:=by
 apply aal
 ·rw [kn,List.length_reverse]
 ·intro m h1 h2;have hm:m < l.length:=by rw [kn] at h1; exact h1
  rw [sL l _ hm,List.getElem_reverse];by_cases c:m < l.length / 2∨l.length≤m+l.length / 2
  ·rw [if_pos c,getD_at _ _ (by omega)]
  ·rw [if_neg c,getD_at _ _ hm];congr 1;omega
theorem LQ (l:List (Int × Int)) (k:Nat) (hk:k < l.length / 2) :
  ((lR l k).set k ((lR l k)[l.length - 1 - k]'(by rw [kn]; omega))).set (l.length - 1 - k) ((lR l k)[k]'(by rw [kn]; omega))=lR l (k+1):=by
 apply aal
 ·simp [kn]
 ·intro m h1 h2;have hm:m < l.length:=by rw [kn] at h2; exact h2
  have e:=sL l (k+1) hm;have g1:=sL l k (m:=l.length - 1 - k) (by omega);have g2:=sL l k (m:=k) (by omega);have g3:=sL l k hm;rw [if_neg (by omega)] at g1 g2;simp only [e,List.getElem_set,g1,g2,g3];by_cases c1:l.length - 1 - k=m
  ·rw [if_pos c1,if_pos (by omega)]; congr 1; omega
  ·rw [if_neg c1];by_cases c2:k=m
   ·rw [if_pos c2,if_pos (by omega),c2]
   ·rw [if_neg c2];by_cases c3:m < k∨l.length≤m+k
    ·rw [if_pos c3,if_pos (by omega)]
    ·rw [if_neg c3,if_neg (by omega)]
def nI {α:Type} (f:α→α) (l:List α) (k:Nat):List α:=(l.take k).map f++l.drop k
theorem BD {α:Type} (f:α→α) (l:List α) {k:Nat} (hk:k≤l.length):(nI f l k).length=l.length:=by simp [nI]; omega
theorem Kc {α:Type} (f:α→α) (l:List α) {k:Nat} (hk:k < l.length):(nI f l k)[k]'(by rw [BD f l (by omega)]; exact hk)=l[k]:=by
 unfold nI;have hl:((l.take k).map f).length=k:=by rw [aao,List.length_take]; omega
 rw [List.getElem_append_right (by omega),List.getElem_drop];congr 1;omega
theorem Dk {α:Type} (f:α→α) (l:List α) {k:Nat} (hk:k < l.length):(nI f l k).set k (f l[k])=nI f l (k+1):=by
 unfold nI;have hl:((l.take k).map f).length=k:=by rw [aao,List.length_take]; omega
 rw [List.set_append_right _ _ (by omega),hl,Nat.sub_self,List.drop_eq_getElem_cons hk,List.set_cons_zero,List.take_add_one,aas hk,aap,List.append_assoc];rfl
theorem GA {α:Type} (f:α→α) (l:List α):nI f l l.length=l.map f:=by simp [nI]
theorem Dl {α:Type} (f:α→α) (l:List α):nI f l 0=l:=by simp [nI]
end Go.Proofs.YtegoimldbgdeiaaGreat
