/- Calls, yields and ends where rows of the store are not written out. Plain lemmas, no statement of the seat. -/
import Derived.Test.YtbnodhcijeaceaaGreatDoorXVy
import Derived.ProofKit
import Derived.OpenShut
import Derived.Deep.Slices
set_option linter.all false
namespace Go.Am
open Go
structure Shr (o:SO) (l:List Nat) (ρ:(Nat→Nat)→SO):Prop where
 sh:Sh o l
 ren:∀g,j4h g o=ρ g
def ShrL:Sto→List (List Nat)→List ((Nat→Nat)→SO)→Prop
 |[],L,R=>L=[]∧R=[]
 |o::r,L,R=>∃l L' ρ R',L=l::L'∧R=ρ::R'∧Shr o l ρ∧ShrL r L' R'
theorem ShrL.nil:ShrL [] [] []:=⟨rfl,rfl⟩
variable{ρ:AEnv}{a b:Code}{l ps:List Nat}{cs:List PV}{s:LpS}{T:TypeId}
theorem ShrL.cons{o:SO}{ρ:(Nat→Nat)→SO}{r:Sto}{L:List (List Nat)}{R:List ((Nat→Nat)→SO)}(h:Shr o l ρ)(k:ShrL r L R):ShrL (o::r) (l::L) (ρ::R):=⟨l,L,ρ,R,rfl,rfl,h,k⟩
theorem ShrL.shl:∀{st:Sto}{L:List (List Nat)}{R:List ((Nat→Nat)→SO)},ShrL st L R→ShL st L
 |[],_,_,h=>h.1
 |o::r,_,_,h=>by
  obtain⟨l,L',ρ,R',rfl,rfl,h1,h2⟩:=h;exact .cons h1.sh h2.shl
theorem j4T:∀{n:Nat}{x:PV}{g:Nat→Nat},pur n x=true→j1l g n x=x
 |0,x,g,h=>by simp[pur] at h
 |n+1,x,g,h=>by
  have hall:∀{l:List PV},l.all (pur n)=true→l.map (j1l g n)=l:=fun{l} hl=>by
   rw[List.all_eq_true] at hl;rw[List.map_congr_left (g:=id) (fun y hy=>by rw[j4T (hl y hy)];rfl),List.map_id]
  cases x with
  |ag cs=>simp only[pur] at h;simp only[j1l,hall h]
  |tu cs=>simp only[pur] at h;simp only[j1l,hall h]
  |fn f a b=>simp only[pur,Bool.and_eq_true] at h;simp only[j1l,hall h.1,hall h.2]
  |ifc t x=>simp only[pur] at h;simp only[j1l,j4T h]
  |_=>first|(simp[pur] at h;done)|rfl
theorem j5H(h1:ρ.flatMap (fun p=>ids 8 p.2)=l)(h2:ρ.all (fun p=>j0e (fun j=>l.elem j) 8 p.2)=true):Sh (.lp ρ ps a b s) l:=
 ⟨h1,fun f hf=>List.all_eq_true.2 fun x hx=>j6S (fun i hi=>hf i (by simpa using hi)) (List.all_eq_true.1 h2 x hx)⟩
theorem j05(h1:cs.flatMap (ids 8)=l)(h2:cs.all (j0e (fun j=>l.elem j) 8)=true):Shr (.box T cs) l (fun g=>.box T (cs.map (j1l g 8))):=⟨j02 h1 h2,fun _=>rfl⟩
theorem j0J(h1:ρ.flatMap (fun p=>ids 8 p.2)=l)(h2:ρ.all (fun p=>j0e (fun j=>l.elem j) 8 p.2)=true):Shr (.lp ρ ps a b s) l (fun g=>.lp (ρ.map fun p=>(p.1,j1l g 8 p.2)) ps a b s):=⟨j5H h1 h2,fun _=>rfl⟩
theorem j2Y:Shr .dead [] (fun _=>.dead):=⟨j0i,fun _=>rfl⟩
theorem j0l{b:Bool}{z:Nat}(h:cs.all (pur 8)=true):Shr (.row b T z cs) [] (fun _=>.row b T z cs):=by
 refine⟨j08 h,fun g=>?_⟩
 rw[List.all_eq_true] at h;simp only[j4h];congr 1;rw[List.map_congr_left (g:=id) (fun y hy=>by rw[j4T (h y hy)];rfl),List.map_id]
theorem jal(h:cs.all (pur 8)=true):Shr (.box T cs) [] (fun _=>.box T cs):=by
 have hr:=j08 (b:=true) (T:=T) (z:=0) h;refine⟨⟨hr.1,fun f hf=>hr.2 f hf⟩,fun g=>?_⟩
 rw[List.all_eq_true] at h;simp only[j4h];congr 1;rw[List.map_congr_left (g:=id) (fun y hy=>by rw[j4T (h y hy)];rfl),List.map_id]
theorem ShrL.get:∀{st:Sto}{L:List (List Nat)}{R:List ((Nat→Nat)→SO)},ShrL st L R→∀{i:Nat}{l:List Nat}{ρ:(Nat→Nat)→SO},L[i]?=some l→R[i]?=some ρ→∃o,st[i]?=some o∧Shr o l ρ
 |[],_,_,h,i,l,ρ,h1,h2=>by rw[h.1] at h1;simp at h1
 |o::r,_,_,h,i,l,ρ,h1,h2=>by
  obtain⟨l0,L',ρ0,R',rfl,rfl,h3,h4⟩:=h;cases i with
  |zero=>simp at h1 h2;subst h1;subst h2;exact⟨o,rfl,h3⟩
  |succ i=>simpa using h4.get (i:=i) (by simpa using h1) (by simpa using h2)
def jaR(L:List (List Nat))(R:List ((Nat→Nat)→SO))(g:Nat→Nat)(f:Nat→Bool):List Nat→Option Sto
 |[]=>some []
 |i::π=>match L[i]?,R[i]? with
  |some l,some ρ=>match l.all f with
   |true=>match jaR L R g f π with
    |some r=>some (ρ g::r)
    |none=>none
   |false=>none
  |_,_=>none
theorem j8b{st:Sto}{L:List (List Nat)}{R:List ((Nat→Nat)→SO)}(h:ShrL st L R){g:Nat→Nat}{f:Nat→Bool}:∀{π:List Nat}{st0:Sto},jaR L R g f π=some st0→fetch g f st π=some st0
 |[],st0,hx=>by
  simp only[jaR,Option.some.injEq] at hx;subst hx;rfl
 |i::π,st0,hx=>by
  unfold jaR at hx;split at hx
  ·rename_i l ρ h1 h2;split at hx
   ·rename_i hl;split at hx
    ·rename_i r hr;cases hx;obtain⟨o,h3,h4⟩:=h.get h1 h2;have ih:=j8b h hr;have hso:soIn f o=true:=h4.sh.2 f fun i hi=>List.all_eq_true.1 hl i hi
     unfold fetch at ih⊢;simp only[mapO,h3,hso,h4.ren,ih]
    ·cases hx
   ·cases hx
  ·cases hx
def putR(g:Nat→Nat):List Nat→List ((Nat→Nat)→SO)→Sto→Sto
 |i::π,ρ::R,st=>putR g π R (st.set i (ρ g))
 |_,_,st=>st
theorem jd4{g:Nat→Nat}:∀{π:List Nat}{os st:Sto}{L:List (List Nat)}{R:List ((Nat→Nat)→SO)},ShrL os L R→j2e g π os st=putR g π R st
 |[],os,st,L,R,h=>by cases R<;>simp[j2e,putR]
 |i::π,[],st,L,R,h=>by rw[h.2];simp[j2e,putR]
 |i::π,o::os,st,L,R,h=>by
  obtain⟨l0,L',ρ0,R',rfl,rfl,h3,h4⟩:=h;simp only[j2e,putR,h3.ren,jd4 h4]
theorem ShrL.map{g:Nat→Nat}:∀{st:Sto}{L:List (List Nat)}{R:List ((Nat→Nat)→SO)},ShrL st L R→st.map (j4h g)=R.map fun ρ=>ρ g
 |[],_,_,h=>by rw[h.2];rfl
 |o::r,_,_,h=>by
  obtain⟨l0,L',ρ0,R',rfl,rfl,h3,h4⟩:=h;simp only[List.map_cons,h3.ren,h4.map]
theorem ShrL.drop:∀{st:Sto}{L:List (List Nat)}{R:List ((Nat→Nat)→SO)}(k:Nat),ShrL st L R→ShrL (st.drop k) (L.drop k) (R.drop k)
 |_,_,_,0,h=>by simpa using h
 |[],_,_,k+1,h=>by rw[h.1,h.2];exact .nil
 |o::r,_,_,k+1,h=>by
  obtain⟨l0,L',ρ0,R',rfl,rfl,h3,h4⟩:=h;simpa using h4.drop k
theorem ShL.get:∀{st:Sto}{L:List (List Nat)},ShL st L→∀{i:Nat}{o:SO},st[i]?=some o→∃l,L[i]?=some l∧Sh o l
 |[],_,h,i,o,h1=>by simp at h1
 |q::r,_,h,i,o,h1=>by
  obtain⟨l,L',rfl,h2,h3⟩:=h;cases i with
  |zero=>simp at h1;subst h1;exact⟨l,rfl,h2⟩
  |succ i=>simpa using h3.get (i:=i) (by simpa using h1)
section
variable{C:Cfg}
variable{r:AEnd}{K Q:AEnd→Sto→Prop}{f:FuncId}{R:List ((Nat→Nat)→SO)}{L:List (List Nat)}{π:List Nat}{args0 rs:List PV}{k0:Nat}{st st' st0 st1:Sto}
theorem j0W{args args':List PV}(hw:handed C f args st=some (args',st1))(hp:args'.all (pur 8)=false)(hs:ShrL st1 L R)(hπ:(j9F L 64 (args'.flatMap (ids 8)) []).reverse=π)
  (hi:args'.all (j0e (fun i=>π.elem i) 8)=true) (hf:jaR L R (fun i=>place i 0 π) (fun i=>π.elem i) π=some st0) (ha:args'.map (j1l (fun i=>place i 0 π) 8)=args0)
  (h:Finds C f args0 st0 fun r st2=>VBack π st1 r st2 K):VCall C f args st K:=
 j0F hw hp (by rw[j6P hs.shl];exact hπ) hi (j8b hs hf) ha h
theorem j2W{id:Nat}{vs vs':List PV}{K:AR→Prop}(hw:pubL C vs st=some (vs',st1))(hs:ShrL st1 L R)(hπ:(j9F L 64 ((PV.yl id::vs').flatMap (ids 8)) []).reverse=π)
  (hi:(PV.yl id::vs').all (j0e (fun i=>π.elem i) 8)=true) (hf:jaR L R (fun i=>place i 0 π) (fun i=>π.elem i) π=some st0) (ha:(PV.yl id::vs').map (j1l (fun i=>place i 0 π) 8)=args0)
  (h:FindsY C args0 st0 fun r st2=>VBack π st1 r st2 fun r st'=>match r with
   | .ret rs=>K (.val (retV rs) st')
   | .pan _=>False):VYield C id vs st K:=
 jrs hw (by rw[j6P hs.shl];exact hπ) hi (j8b hs hf) ha h
theorem j1t(hs:ShrL st1 L R)(hi:(jc9 (fun j=>Nat.blt j st1.length) r&&L.all (fun l=>l.all fun j=>Nat.blt j st1.length))=true)
  (k:K (j5P (back π st.length) r) (putR (back π st.length) π R st++(R.drop π.length).map (fun ρ=>ρ (back π st.length)))):VBack π st r st1 K:=by
 rw[Bool.and_eq_true] at hi;refine j1X (by rw[hi.1,hs.shl.soIn hi.2];rfl) ?_
 rw[jd4 hs,(hs.drop π.length).map];exact k
def fpv(v:PV)(k:PV→Prop):Prop:=match v with
 | .sc x=>k (.sc x)
 | .sl b z xs=>k (.sl b z xs)
 | .ms i n=>k (.ms i n)
 |v=>k v
theorem jt8{v:PV}{k:PV→Prop}:fpv v k↔k v:=by cases v<;>exact Iff.rfl
def fpvs:List PV→(List PV→Prop)→Prop
 |[],k=>k []
 |v::r,k=>fpv v fun v'=>fpvs r fun r'=>k (v'::r')
theorem jn2:∀{cs:List PV}{k:List PV→Prop},fpvs cs k↔k cs
 |[],_=>Iff.rfl
 |v::r,k=>by
  unfold fpvs;rw[jt8];exact jn2 (cs:=r) (k:=fun r'=>k (v::r'))
def fso(o:SO)(k:SO→Prop):Prop:=match o with
 | .box T cs=>fpvs cs fun cs'=>k (.box T cs')
 | .lp ρ ps a b s=>k (.lp ρ ps a b s)
 | .row p e z xs=>k (.row p e z xs)
 | .frz cs=>k (.frz cs)
 | .mp ks vs=>k (.mp ks vs)
 | .ch c q=>k (.ch c q)
 | .dead=>k .dead
theorem jt9{o:SO}{k:SO→Prop}:fso o k↔k o:=by
 cases o with
 |box T cs=>exact jn2 (cs:=cs) (k:=fun cs'=>k (.box T cs'))
 |_=>exact Iff.rfl
def fsto:Sto→(Sto→Prop)→Prop
 |[],k=>k []
 |o::r,k=>fso o fun o'=>fsto r fun r'=>k (o'::r')
theorem jn3:∀{st:Sto}{k:Sto→Prop},fsto st k↔k st
 |[],_=>Iff.rfl
 |o::r,k=>by
  unfold fsto;rw[jt9];exact jn3 (st:=r) (k:=fun r'=>k (o::r'))
theorem j4g(hs:ShrL st1 L R)(hi:(jc9 (fun j=>Nat.blt j st1.length) r&&L.all (fun l=>l.all fun j=>Nat.blt j st1.length))=true)
  (k:fsto (putR (back π st.length) π R st++(R.drop π.length).map (fun ρ=>ρ (back π st.length))) fun st'=>K (j5P (back π st.length) r) st'):VBack π st r st1 K:=j1t hs hi (jn3.1 k)
theorem j1L{r':AEnd}(hs:ShrL st1 L R)(hi:(jc9 (fun j=>Nat.blt j st1.length) r&&L.all (fun l=>l.all fun j=>Nat.blt j st1.length))=true)
  (hr:j5P (back π st.length) r=r') (ht:putR (back π st.length) π R st++(R.drop π.length).map (fun ρ=>ρ (back π st.length))=st') (k:K r' st'):VBack π st r st1 K:=by
 subst hr;subst ht;exact j1t hs hi k
theorem j2U(hs:ShrL st L R)(hπ:j7G 0 k0++j3w k0 (st.drop k0)=π)(hb:Nat.beq π.length st.length=false)(hi:rs.all (j0e (fun i=>π.elem i) 8)=true)
  (hf:jaR L R (fun i=>place i 0 π) (fun i=>π.elem i) π=some st'):squeeze k0 rs st=(rs.map (j1l (fun i=>place i 0 π) 8),st'):=by
 unfold squeeze;rw[hπ];unfold j6E;simp only[hb,hi,j8b hs hf]
theorem j1a(hb:Nat.beq (j7G 0 k0++j3w k0 (st.drop k0)).length st.length=true):squeeze k0 rs st=(rs,st):=by
 unfold squeeze j6E;simp only[hb]
theorem j1i{rs1 rs2:List PV}{st2 st3:Sto}(hp:(C.keep f=true∧rs1=rs∧st1=st)∨(C.keep f=false∧pubL C rs st=some (rs1,st1)))(hn:(rs1.all (pur 8)&&(st1.take k0).all (soIn fun i=>Nat.blt i k0))=false)(hg:gc k0 (rs1.map fun r=>(0,r)) st1=st2)(hs:squeeze k0 rs1 st2=(rs2,st3))(k:Q (.ret rs2) st3):VRet C f k0 rs st Q:=by
 refine⟨rs2,st3,?_,k⟩;unfold aret;rcases hp with⟨h1,rfl,rfl⟩|⟨h1,h2⟩
 ·simp only[h1,hn,hg,hs]
 ·simp only[h1,h2,hn,hg,hs]
theorem j0Z(hp:rs.all (pur 8)=true)(ht:st.take k0=st')(hs:ShrL st' L R)(hL:L.all (fun l=>l.all fun i=>Nat.blt i k0)=true)(k:Q (.ret rs) st'):VRet C f k0 rs st Q:=by
 subst ht;exact vret_take hp (hs.shl.soIn hL) k
theorem j5K(ht:st.take k0=st')(hs:ShrL st' L R)(hL:L.all (fun l=>l.all fun i=>Nat.blt i k0)=true):j1A k0 st=st':=by
 subst ht;unfold j1A;simp only[hs.shl.soIn hL]
end
end Go.Am
namespace Go.Gw
open Go Go.ChangeShapes Go.WideShapes Go.ChangeAt Go.RowKit
def memOf(W:World):Mem:=fun b=>W.heap[b]?
section
variable{H:Type}{enc:TypeId×Value→H}{P:Program}{W W':World}
theorem j8A(hl:laidOutB P=true)(hb:Below W.heap.size W W'){sp:Nat→Bool}:∀{ts:List TypeId}{vs:List Value}{ds:List (DataW H)}{ps:List MemPlace},(∀t∈ts,P.readableRec t=true∧t<P.types.size) →
  DataW.TrodAll enc P W 0 (fun _=>true) true ts vs ds ps→(∀x∈ps,x.block<W.heap.size)→(∀x∈ps,sp x.block=true)→DataW.TrodAll enc P W' 0 sp true ts vs ds ps
 |[],vs,ds,ps,_,h,_,_=>by
  obtain⟨rfl,rfl,rfl⟩:=trodAll_nil h;exact trodAll_mk0
 |t::ts,vs,ds,ps,hts,h,hlt,hsp=>by
  obtain⟨v,vs',d,ds',p,q,rfl,rfl,rfl,h1,h2⟩:=trodAll_cons h;have ht:=hts t (by simp)
  exact trodAll_cons_mk (WideElems.Trod_stays hl ht.1 ht.2 h1 (fun x hx=>hb.same (hlt x (List.mem_append_left _ hx))) (fun x hx=>hsp x (List.mem_append_left _ hx)))
   (j8A hl hb (fun t' h'=>hts t' (List.mem_cons_of_mem _ h')) h2 (fun x hx=>hlt x (List.mem_append_right _ hx)) (fun x hx=>hsp x (List.mem_append_right _ hx)))
theorem post_low{f:Func}{s:ChangeSpec}{apart fresh handsOn again:Bool}{args:Array Value}{v:Value}{ds gs:List (DataW H)}{before:List MemPlace}
  (hW:DataW.Whole enc P f.params.toList s.vars apart W args.toList ds gs before) (hb:Below W.heap.size W W') (hl:laidOutB P=true) (hts:∀t∈f.params.toList,P.readableRec t=true∧t<P.types.size)
  (hvars:s.vars=[]) (hargs:(s.fn H (ds++gs)).args=ds) (hvs:(s.fn H (ds++gs)).vars=[])
  (hres:∀(b:Nat) (sp:Nat→Bool) (hd:Bool),DataW.TrodAll enc P W' b sp hd f.resultTypes.toList (v.resultList f.resultTypes.size) (s.fn H (ds++gs)).results [])
  (hok:∀(j:Nat) (t:TypeId) (r:Value),f.resultTypes[j]?=some t→(v.resultList f.resultTypes.size)[j]?=some r→Value.okWide P W' .any 0 t r) :
  s.post enc P f apart fresh handsOn again W args v W':=by
 have hlt:=hW.lt;have hW':=hW;obtain⟨p,q,hA,hV,rfl,hz,hn⟩:=hW;rw[hvars] at hV;obtain⟨rfl,rfl⟩:=trodVars_none hV;simp only[List.append_nil] at hW' hlt hz hn hargs hvs hres⊢;have hA':∀sp:Nat→Bool,(∀x∈p,sp x.block=true)→DataW.TrodAll enc P W' 0 sp true f.params.toList args.toList (s.fn H ds).args p:=fun sp h=>by
  rw[hargs];exact j8A hl hb hts hA hlt h
 have hV':∀sp:Nat→Bool,DataW.TrodVars enc P W' sp s.vars (s.fn H ds).vars []:=fun sp=>by
  rw[hvars,hvs];rfl
 refine⟨ds,[],p,[],p,[],hW',by simpa using hres _ _ _,by simpa using hA' _ (fun x hx=>by simpa using hlt x hx),by simpa using hV' _,hb.frame _,fun _=>?_⟩
 refine⟨hok,_,_,([]++p)++[],⟨[]++p,[],trodAll_append (hA' _ (fun _ _=>rfl)) (hres _ _ _),hV' _,rfl,?_,?_⟩,?_⟩
 ·intro b off hp;have hp':MemPlace.cell b off∈p:=by simpa using hp
  rw[hb.frozen (hlt _ hp')];exact hz b off hp'
 ·intro ha;simpa using hn ha
 ·intro x hx _;simpa using hx
theorem joa{a:Addr}{i:Nat}{v:Value}(h:W.cell? (a.add i)=some v):Rd (memOf W) a.block (a.off+i) v∧(i=0→a.spot=none):=by
 unfold World.cell? at h;have hblk:(a.add i).block=a.block:=by unfold Addr.add;split<;>rfl
 have hoff:(a.add i).off=a.off+i:=by
  unfold Addr.add;split
  ·rename_i e;rw[e];rfl
  ·rfl
 rw[hblk] at h;split at h
 ·rename_i c T fr e;split at h
  ·cases h
  ·rename_i hs;rw[hoff] at h;refine⟨⟨c,T,fr,e,h⟩,fun hi=>?_⟩
   subst hi;simpa[Addr.add] using hs
 ·cases h
theorem add_block(a:Addr)(i:Nat):(a.add i).block=a.block:=by unfold Addr.add;split<;>rfl
theorem jm3(a:Addr)(i:Nat):(a.add i).off=a.off+i:=by
 unfold Addr.add;split
 ·rename_i e;rw[e];rfl
 ·rfl
theorem LvsV.of{m:Mem}:∀{ls:List Lv}{b off:Nat},(∀i l,ls[i]?=some l→∃cs,RdN m b (off+i*3) cs∧LvV m l cs)→LvsV m ls b off
 |[],_,_,_=>trivial
 |l::r,b,off,h=>by
  refine⟨by simpa using h 0 l rfl,LvsV.of fun i l' hl=>?_⟩
  have:=h (i+1) l' (by simpa using hl)
  rwa [show off+(i+1)*3=off+3+i*3 by omega] at this
theorem jhQ{α:Type}{Q:Nat→α→Prop}:∀{n:Nat},(∀i,i<n→∃x,Q i x)→∃xs:List α,xs.length=n∧∀i x,xs[i]?=some x→Q i x
 |0,_=>⟨[],rfl,fun i x h=>by simp at h⟩
 |n+1,h=>by
  obtain⟨xs,h1,h2⟩:=jhQ (n:=n) fun i hi=>h i (by omega)
  obtain⟨x,hx⟩:=h n (by omega)
  refine⟨xs++[x],by simp[h1],fun i y hy=>?_⟩
  by_cases hi:i<n
  ·rw[List.getElem?_append_left (by omega)] at hy
   exact h2 i y hy
  ·have hlt:=(List.getElem?_eq_some_iff.1 hy).1;simp at hlt;obtain rfl:i=n:=by omega
   rw[List.getElem?_append_right (by omega),h1] at hy
   simp at hy;subst hy;exact hx
theorem weightsAll_mem{e:TypeId}:∀{ds:List (DataW H)}{d:DataW H}{n:Nat},d∈ds→n∈d.weights P e→n∈DataW.weightsAll P e ds
 |d0::r,d,n,hd,hn=>by
  simp only[DataW.weightsAll,List.mem_append];rcases List.mem_cons.1 hd with rfl|hd
  ·exact .inl hn
  ·exact .inr (weightsAll_mem hd hn)
end
open Go
def tm(x y:Int):Int:=if x = -1 then -1 else x+y
def evF(f:Fm)(v:Nat→Int):Int:=max f.num (max (tm (f.off 0) (v 0)) (max (tm (f.off 1) (v 1)) (max (tm (f.off 2) (v 2)) (tm (f.off 3) (v 3)))))
def Fm.low(f:Fm):Prop:=-1≤f.num∧∀j,-1≤f.off j
theorem jmT{f:Fm}{v:Nat→Int}{x:Int}:evF f v≤x↔f.num≤x∧∀j,j<4→tm (f.off j) (v j)≤x:=by
 unfold evF;simp only[Int.max_le];constructor
 ·rintro⟨h,h0,h1,h2,h3⟩;refine⟨h,fun j hj=>?_⟩
  obtain e|e|e|e:j=0∨j=1∨j=2∨j=3:=by omega
  all_goals subst e;assumption
 ·rintro⟨h,k⟩;exact⟨h,k 0 (by omega),k 1 (by omega),k 2 (by omega),k 3 (by omega)⟩
def Agree(z:Int)(f:Int→Int):Prop:=∀n:Nat,n<4→(bit z n=0→1≤f n)∧(bit z n≠0→f n=0)
structure FmOk (z:Int) (f:Fm):Prop where
 low:f.low
 pos:∀j:Nat,j<4→f.off j≠-1→bit z j=0
def zOf(f:Int→Int):Int:=(if f 0=0 then 1 else 0)+(if f 1=0 then 2 else 0)+(if f 2=0 then 4 else 0)+(if f 3=0 then 8 else 0)
end Go.Gw
