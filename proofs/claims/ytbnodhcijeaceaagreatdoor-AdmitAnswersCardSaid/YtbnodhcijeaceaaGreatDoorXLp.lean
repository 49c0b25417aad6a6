/- From walks to rows: a call that leaves all that was there as it was; slices of numbers and levels out of readings. -/
import Derived.Test.YtbnodhcijeaceaaGreatDoorXGwr
import Derived.ProofKit
import Derived.OpenShut
import Derived.Deep.Slices
set_option linter.all false
namespace Go.Gw
open Go Go.ChangeShapes Go.WideShapes Go.ChangeAt Go.RowKit
def memOf(W:World):Mem:=fun b=>W.heap[b]?
section
variable{H:Type}{enc:TypeId×Value→H}{P:Program}{W W':World}
def j9d(hl:laidOutB P=true)(hb:Below W.heap.size W W'){sp:Nat→Bool}:∀{ts:List TypeId}{vs:List Value}{ds:List (DataW H)}{ps:List MemPlace},(∀t∈ts,P.readableRec t=true∧t<P.types.size) →
  DataW.TrodAll enc P W 0 (fun _=>true) true ts vs ds ps→(∀x∈ps,x.block<W.heap.size)→(∀x∈ps,sp x.block=true)→DataW.TrodAll enc P W' 0 sp true ts vs ds ps
 |[],vs,ds,ps,_,h,_,_=>by
  obtain⟨rfl,rfl,rfl⟩:=trodAll_nil h;exact trodAll_mk0
 |t::ts,vs,ds,ps,hA,h,gA,qA=>by
  obtain⟨v,vs',d,ds',p,q,rfl,rfl,rfl,h1,h2⟩:=trodAll_cons h;have ht:=hA t (by simp)
  exact trodAll_cons_mk (WideElems.Trod_stays hl ht.1 ht.2 h1 (fun x hx=>hb.same (gA x (DR _ hx))) (fun x hx=>qA x (DR _ hx)))
   (j9d hl hb (fun t' h'=>hA t' (BE _ h')) h2 (fun x hx=>gA x (DM _ hx)) (fun x hx=>qA x (DM _ hx)))
def post_low{f:Func}{s:ChangeSpec}{apart fresh qA again:Bool}{args:Array Value}{v:Value}{ds gs:List (DataW H)}{before:List MemPlace}
  (hW:DataW.Whole enc P f.params.toList s.vars apart W args.toList ds gs before) (hb:Below W.heap.size W W') (hl:laidOutB P=true) (wC:∀t∈f.params.toList,P.readableRec t=true∧t<P.types.size)
  (gA:s.vars=[]) (wA:(s.fn H (ds++gs)).args=ds) (gB:(s.fn H (ds++gs)).vars=[])
  (hB:∀(b:Nat) (sp:Nat→Bool) (hd:Bool),DataW.TrodAll enc P W' b sp hd f.resultTypes.toList (v.resultList f.resultTypes.size) (s.fn H (ds++gs)).results [])
  (hD:∀(j:Nat) (t:TypeId) (r:Value),f.resultTypes[j]?=some t→(v.resultList f.resultTypes.size)[j]?=some r→Value.okWide P W' .any 0 t r) :
  s.post enc P f apart fresh qA again W args v W':=by
 have qB:=hW.lt;have hC:=hW;obtain⟨p,q,hA,hV,rfl,hz,hn⟩:=hW;rw[gA] at hV;obtain⟨rfl,rfl⟩:=trodVars_none hV;simp only[BF] at hC qB hz hn wA gB hB⊢;have gC:∀sp:Nat→Bool,(∀x∈p,sp x.block=true)→DataW.TrodAll enc P W' 0 sp true f.params.toList args.toList (s.fn H ds).args p:=fun sp h=>by
  rw[wA];exact j9d hl hb wC hA qB h
 have qC:∀sp:Nat→Bool,DataW.TrodVars enc P W' sp s.vars (s.fn H ds).vars []:=fun sp=>by
  rw[gA,gB];rfl
 refine⟨ds,[],p,[],p,[],hC,by simpa using hB _ _ _,by simpa using gC _ (fun x hx=>by simpa using qB x hx),by simpa using qC _,hb.frame _,fun _=>?_⟩
 refine⟨hD,_,_,([]++p)++[],⟨[]++p,[],trodAll_append (gC _ (fun _ _=>rfl)) (hB _ _ _),qC _,rfl,?_,?_⟩,?_⟩
 ·intro b off hp;have wB:MemPlace.cell b off∈p:=by simpa using hp
  rw[hb.frozen (qB _ wB)];exact hz b off wB
 ·intro ha;simpa using hn ha
 ·intro x hx _;simpa using hx
def jpb{a:Addr}{i:Nat}{v:Value}(h:W.cell? (a.add i)=some v):Rd (memOf W) a.block (a.off+i) v∧(i=0→a.spot=none):=by
 unfold World.cell? at h;have qA:(a.add i).block=a.block:=by unfold Addr.add;split<;>rfl
 have hA:(a.add i).off=a.off+i:=by
  unfold Addr.add;split
  ·rename_i e;rw[e];rfl
  ·rfl
 rw[qA] at h;split at h
 ·rename_i c T fr e;split at h
  ·cases h
  ·rename_i hs;rw[hA] at h;refine⟨⟨c,T,fr,e,h⟩,fun hi=>?_⟩
   subst hi;simpa[Addr.add] using hs
 ·cases h
def add_block(a:Addr)(i:Nat):(a.add i).block=a.block:=by unfold Addr.add;split<;>rfl
def jmT(a:Addr)(i:Nat):(a.add i).off=a.off+i:=by
 unfold Addr.add;split
 ·rename_i e;rw[e];rfl
 ·rfl
def LvsV.of{m:Mem}:∀{ls:List Lv}{b off:Nat},(∀i l,ls[i]?=some l→∃cs,RdN m b (off+i*3) cs∧LvV m l cs)→LvsV m ls b off
 |[],_,_,_=>trivial
 |l::r,b,off,h=>by
  refine⟨by simpa using h 0 l rfl,LvsV.of fun i l' hl=>?_⟩
  have:=h (i+1) l' (by simpa using hl)
  rwa [show off+(i+1)*3=off+3+i*3 by omega] at this
def jis{α:Type}{Q:Nat→α→Prop}:∀{n:Nat},(∀i,i<n→∃x,Q i x)→∃xs:List α,xs.length=n∧∀i x,xs[i]?=some x→Q i x
 |0,_=>⟨[],rfl,fun i x h=>by simp at h⟩
 |n+1,h=>by
  obtain⟨xs,h1,h2⟩:=jis (n:=n) fun i hi=>h i (by omega)
  obtain⟨x,hx⟩:=h n (by omega)
  refine⟨xs++[x],by simp[h1],fun i y hy=>?_⟩
  by_cases hi:i<n
  ·rw[AW (by omega)] at hy
   exact h2 i y hy
  ·have hA:=(AK.1 hy).1;simp at hA;obtain rfl:i=n:=by omega
   rw[BK (by omega),h1] at hy
   simp at hy;subst hy;exact hx
def weightsAll_mem{e:TypeId}:∀{ds:List (DataW H)}{d:DataW H}{n:Nat},d∈ds→n∈d.weights P e→n∈DataW.weightsAll P e ds
 |d0::r,d,n,hd,hn=>by
  simp only[DataW.weightsAll,BJ];rcases AN.1 hd with rfl|hd
  ·exact .inl hn
  ·exact .inr (weightsAll_mem hd hn)
end
open Go
def tm(x y:Int):Int:=if x = -1 then -1 else x+y
def evF(f:Fm)(v:Nat→Int):Int:=max f.num (max (tm (f.off 0) (v 0)) (max (tm (f.off 1) (v 1)) (max (tm (f.off 2) (v 2)) (tm (f.off 3) (v 3)))))
def Fm.low(f:Fm):Prop:=-1≤f.num∧∀j,-1≤f.off j
def jnR{f:Fm}{v:Nat→Int}{x:Int}:evF f v≤x↔f.num≤x∧∀j,j<4→tm (f.off j) (v j)≤x:=by
 unfold evF;simp only[Int.max_le];constructor
 ·rintro⟨h,h0,h1,h2,h3⟩;refine⟨h,fun j hj=>?_⟩
  obtain e|e|e|e:j=0∨j=1∨j=2∨j=3:=by omega
  all_goals subst e;assumption
 ·rintro⟨h,k⟩;exact⟨h,k 0 (by omega),k 1 (by omega),k 2 (by omega),k 3 (by omega)⟩
def Agree(z:Int)(f:Int→Int):Prop:=∀n:Nat,n<4→(bit z n=0→1≤f n)∧(bit z n≠0→f n=0)
structure FmOk (z:Int) (f:Fm):Prop where
 low:f.low
 pos:∀j:Nat,j<4→f.off j≠-1→bit z j=0
def zOf(f:Int→Int):Int:=(if f 0=0 then 1 else 0)+(if f 1=0 then 2 else 0)+(if f 2=0 then 4 else 0)+(if f 3=0 then 8 else 0)
