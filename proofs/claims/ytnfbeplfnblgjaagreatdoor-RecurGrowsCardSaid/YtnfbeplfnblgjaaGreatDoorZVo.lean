/- What a function does in other settings, as a word. Plain lemmas, no statement of the seat. -/
import Derived.Test.YtnfbeplfnblgjaaGreatDoorZGc
import Derived.ProofKit
import Derived.OpenShut
import Derived.SizedLaws
import Derived.Deep.Slices
import Derived.Test.YtnfbeplfnblgjaaGreatDoorRows
import GoSem.ClaimGoes
set_option linter.all false
namespace Go.Am
open Go Go.Hb
section
variable{C:Cfg}
open Classical in
noncomputable def j3f(C:Cfg)(f:FuncId)(args:List PV)(st:Sto):Option (AEnd×Sto):=if h:∃q,∃n,(ev C n).call f args st=some q then some h.choose else none
variable{f:FuncId}{args:List PV}{F:List PV→Sto→Option (AEnd×Sto)}{st:Sto}
theorem j8i{q:AEnd×Sto}{n:Nat}(h:(ev C n).call f args st=some q):j3f C f args st=some q:=by
 have hx:∃q,∃n,(ev C n).call f args st=some q:=⟨q,n,h⟩;unfold j3f;rw[dif_pos hx];obtain⟨k,hk⟩:=hx.choose_spec;have h1:=ev_call (r:=hx.choose) hk (Nat.le_max_left k n);have h2:=ev_call (r:=q) h (Nat.le_max_right k n);exact h1.symm.trans h2
theorem j8V{r:AEnd}{st':Sto}(h:j3f C f args st=some (r,st')):∃n,(ev C n).call f args st=some (r,st'):=by
 unfold j3f at h;split at h
 ·rename_i hx;obtain⟨k,hk⟩:=hx.choose_spec;rw[Option.some.inj h] at hk;exact⟨k,hk⟩
 ·cases h
theorem j1l(hC:∀n,CallOk C.P (ev C n).call)(f:FuncId):DoesOk (CallD C.P f) (j3f C f):=does_of (C':=C) (C:=C) rfl hC fun _ _ _ _ h=>j8V h
def orN(F G:List PV→Sto→Option (AEnd×Sto))(args:List PV)(st:Sto):Option (AEnd×Sto):=match F args st with
 |some r=>some r
 |none=>G args st
theorem j2C{D}{G:List PV→Sto→Option (AEnd×Sto)}(hF:DoesOk D F)(hG:DoesOk D G):DoesOk D (orN F G):=fun args st r st' h=>by
 unfold orN at h;split at h
 ·rename_i r0 h0;exact hF args st r st' (h0.trans h)
 ·exact hG args st r st' h
theorem j2z{C C':Cfg}{Q:AEnd→Sto→Prop}(hn:C'.nat f=some F)(hF:∀r st',j3f C f args st=some (r,st')→F args st=some (r,st'))(h:Finds C f args st Q):Finds C' f args st Q:=by
 obtain⟨r,st',hq,N,hN⟩:=h;exact finds_at hn (hF _ _ (j8i (hN N (Nat.le_refl N)))) hq
end
variable{ρ:AEnv}{a b:Code}{L:List (List Nat)}{l ps:List Nat}{args cs:List PV}{s:LpS}{T:TypeId}
theorem j5D{C C':Cfg}{f:FuncId}{rs:List PV}(hn:C'.nat f=some (j3f C f))(h:Pf C f args rs):Pf C' f args rs:=by
 obtain⟨r,st',rfl,N,hN⟩:=h;exact pf_at hn (j8i (hN N (Nat.le_refl N)))
open Go
inductive FindsY (C:Cfg) (args:List PV) (st:Sto) (Q:AEnd→Sto→Prop):Prop where
 |mk (r:AEnd) (st':Sto) (hq:Q r st') (N:Nat) (h:∀n,N≤n→(ev C n).yield args st=some (r,st'))
section
variable{C:Cfg}
variable{Q:AEnd→Sto→Prop}{vs:List PV}{id:Nat}{st:Sto}
theorem j0z{args:List PV}{Q':AEnd→Sto→Prop}(h:FindsY C args st Q)(hq:∀r st',Q r st'→Q' r st'):FindsY C args st Q':=by
 obtain⟨r,st',h1,N,h2⟩:=h;exact⟨r,st',hq _ _ h1,N,h2⟩
def j5S(id k0:Nat)(Q:AEnd→Sto→Prop):AX→AEnv→Sto→Prop:=fun x _ s2=>match s2[id]? with
 |some (.lp ρ2 ps2 a2 b2 .busy)=>match x with
  | .normal=>Q (.ret [.sc (.bool true)]) (yieldEnd k0 (s2.set id (.lp ρ2 ps2 a2 b2 .ready)))
  | .ret=>Q (.ret [.sc (.bool false)]) (yieldEnd k0 (s2.set id (.lp ρ2 ps2 a2 b2 (.done none))))
  | .exit i=>Q (.ret [.sc (.bool false)]) (yieldEnd k0 (s2.set id (.lp ρ2 ps2 a2 b2 (.done (some i)))))
  | .pan _=>False
 |_=>False
theorem j0l{ρ:AEnv}{ps:List Nat}{a b:Code}(hlp:st[id]?=some (.lp ρ ps a b .ready))(hn:(Nat.beq vs.length ps.length&&(noRange a&&noRange b))=true)
  (h:VC C a (putPs ps vs ρ) st fun x ρ1 s1=>match x with
   | .normal=>match s1[id]? with
    |some (.lp ρ' ps' a' b' .ready)=>VC C b ρ1 (s1.set id (.lp ρ' ps' a' b' .busy)) (j5S id st.length Q)
    |_=>False
   |_=>False):FindsY C (.yl id::vs) st Q:=by
 obtain⟨x,s1,hk,N,hN⟩:=VC_ok h;cases x with
 |normal=>
  simp only at hk;split at hk
  ·rename_i ρ' ps' a' b' h1;obtain⟨x2,s2,hk2,N2,hN2⟩:=VC_ok hk;unfold j5S at hk2;split at hk2
   ·rename_i ρ2 ps2 a2 b2 h2;have main:∃r st',Q r st'∧(match x2 with
      | .normal=>some (AEnd.ret [.sc (.bool true)],yieldEnd st.length (s2.st.set id (.lp ρ2 ps2 a2 b2 .ready)))
      | .ret=>some (AEnd.ret [.sc (.bool false)],yieldEnd st.length (s2.st.set id (.lp ρ2 ps2 a2 b2 (.done none))))
      | .exit i=>some (AEnd.ret [.sc (.bool false)],yieldEnd st.length (s2.st.set id (.lp ρ2 ps2 a2 b2 (.done (some i)))))
      | .pan _=>none)=some (r,st'):=by
     cases x2 with
     |normal=>exact⟨_,_,hk2,rfl⟩
     |ret=>exact⟨_,_,hk2,rfl⟩
     |exit i=>exact⟨_,_,hk2,rfl⟩
     |pan v=>exact hk2.elim
    obtain⟨r,st',hq,hr⟩:=main;refine⟨r,st',hq,max N N2+1,fun n hn'=>?_⟩
    obtain⟨m,rfl⟩:∃m,n=m+1:=⟨n-1,by omega⟩
    show yieldF C (ev C m) (.yl id::vs) st=_
    simp only[yieldF,hlp,hn,hN m (by omega),h1,hN2 m (by omega),h2]
    rw[←hr];cases x2<;>rfl
   ·exact hk2.elim
  ·exact hk.elim
 |_=>exact hk.elim
theorem jci{vs' args0:List PV}{st0 st1:Sto}{π:List Nat}{K:AR→Prop}(hw:pubL C vs st=some (vs',st1))(hπ:(close st1 64 ((PV.yl id::vs').flatMap (ids 8)) []).reverse=π)
  (hi:(PV.yl id::vs').all (inIds (fun i=>π.elem i) 8)=true) (hf:fetch (fun i=>place i 0 π) (fun i=>π.elem i) st1 π=some st0) (ha:(PV.yl id::vs').map (renPV (fun i=>place i 0 π) 8)=args0)
  (h:FindsY C args0 st0 fun r st2=>VBack π st1 r st2 fun r st'=>match r with
   | .ret rs=>K (.val (retV rs) st')
   | .pan _=>False):VYield C id vs st K:=by
 obtain⟨r,st2,⟨r',st',h1,h2⟩,N,hN⟩:=h;cases r' with
 |ret rs=>
  refine⟨_,h2,N,fun n hn=>?_⟩
  simp only[sYield,hw,hπ,acallM,hi,hf,ha,hN n hn,h1]
 |pan v=>exact h2.elim
end
open Go
structure Shr (o:SO) (l:List Nat) (ρ:(Nat→Nat)→SO):Prop where
 sh:Sh o l
 ren:∀g,renSO g o=ρ g
def ShrL:Sto→List (List Nat)→List ((Nat→Nat)→SO)→Prop
 |[],L,R=>L=[]∧R=[]
 |o::r,L,R=>∃l L' ρ R',L=l::L'∧R=ρ::R'∧Shr o l ρ∧ShrL r L' R'
theorem ShrL.nil:ShrL [] [] []:=⟨rfl,rfl⟩
theorem ShrL.cons{o:SO}{ρ:(Nat→Nat)→SO}{r:Sto}{R:List ((Nat→Nat)→SO)}(h:Shr o l ρ)(k:ShrL r L R):ShrL (o::r) (l::L) (ρ::R):=⟨l,L,ρ,R,rfl,rfl,h,k⟩
theorem ShrL.shl:∀{st:Sto}{L:List (List Nat)}{R:List ((Nat→Nat)→SO)},ShrL st L R→ShL st L
 |[],_,_,h=>h.1
 |o::r,_,_,h=>by
  obtain⟨l,L',ρ,R',rfl,rfl,h1,h2⟩:=h;exact .cons h1.sh h2.shl
theorem j3q:∀{n:Nat}{x:PV}{g:Nat→Nat},pur n x=true→renPV g n x=x
 |0,x,g,h=>by simp[pur] at h
 |n+1,x,g,h=>by
  have hall:∀{l:List PV},l.all (pur n)=true→l.map (renPV g n)=l:=fun{l} hl=>by
   rw[List.all_eq_true] at hl;rw[List.map_congr_left (g:=id) (fun y hy=>by rw[j3q (hl y hy)];rfl),List.map_id]
  cases x with
  |ag cs=>simp only[pur] at h;simp only[renPV,hall h]
  |tu cs=>simp only[pur] at h;simp only[renPV,hall h]
  |fn f a b=>simp only[pur,Bool.and_eq_true] at h;simp only[renPV,hall h.1,hall h.2]
  |ifc t x=>simp only[pur] at h;simp only[renPV,j3q h]
  |_=>first|(simp[pur] at h;done)|rfl
theorem j2a(h1:ρ.flatMap (fun p=>ids 8 p.2)=l)(h2:ρ.all (fun p=>inIds (fun j=>l.elem j) 8 p.2)=true):Sh (.lp ρ ps a b s) l:=
 ⟨h1,fun f hf=>List.all_eq_true.2 fun x hx=>j1k (fun i hi=>hf i (by simpa using hi)) (List.all_eq_true.1 h2 x hx)⟩
theorem j01(h1:cs.flatMap (ids 8)=l)(h2:cs.all (inIds (fun j=>l.elem j) 8)=true):Shr (.box T cs) l (fun g=>.box T (cs.map (renPV g 8))):=⟨j00 h1 h2,fun _=>rfl⟩
theorem j0e(h1:ρ.flatMap (fun p=>ids 8 p.2)=l)(h2:ρ.all (fun p=>inIds (fun j=>l.elem j) 8 p.2)=true):Shr (.lp ρ ps a b s) l (fun g=>.lp (ρ.map fun p=>(p.1,renPV g 8 p.2)) ps a b s):=⟨j2a h1 h2,fun _=>rfl⟩
theorem j0T:Shr .dead [] (fun _=>.dead):=⟨j07,fun _=>rfl⟩
theorem j0a{b:Bool}{z:Nat}(h:cs.all (pur 8)=true):Shr (.row b T z cs) [] (fun _=>.row b T z cs):=by
 refine⟨j03 h,fun g=>?_⟩
 rw[List.all_eq_true] at h;simp only[renSO];congr 1;rw[List.map_congr_left (g:=id) (fun y hy=>by rw[j3q (h y hy)];rfl),List.map_id]
theorem ShrL.get:∀{st:Sto}{L:List (List Nat)}{R:List ((Nat→Nat)→SO)},ShrL st L R→∀{i:Nat}{l:List Nat}{ρ:(Nat→Nat)→SO},L[i]?=some l→R[i]?=some ρ→∃o,st[i]?=some o∧Shr o l ρ
 |[],_,_,h,i,l,ρ,h1,h2=>by rw[h.1] at h1;simp at h1
 |o::r,_,_,h,i,l,ρ,h1,h2=>by
  obtain⟨l0,L',ρ0,R',rfl,rfl,h3,h4⟩:=h;cases i with
  |zero=>simp at h1 h2;subst h1;subst h2;exact⟨o,rfl,h3⟩
  |succ i=>simpa using h4.get (i:=i) (by simpa using h1) (by simpa using h2)
def j3v(L:List (List Nat))(R:List ((Nat→Nat)→SO))(g:Nat→Nat)(f:Nat→Bool):List Nat→Option Sto
 |[]=>some []
 |i::π=>match L[i]?,R[i]? with
  |some l,some ρ=>match l.all f with
   |true=>match j3v L R g f π with
    |some r=>some (ρ g::r)
    |none=>none
   |false=>none
  |_,_=>none
theorem j2m{st:Sto}{L:List (List Nat)}{R:List ((Nat→Nat)→SO)}(h:ShrL st L R){g:Nat→Nat}{f:Nat→Bool}:∀{π:List Nat}{st0:Sto},j3v L R g f π=some st0→fetch g f st π=some st0
 |[],st0,hx=>by
  simp only[j3v,Option.some.injEq] at hx;subst hx;rfl
 |i::π,st0,hx=>by
  unfold j3v at hx;split at hx
  ·rename_i l ρ h1 h2;split at hx
   ·rename_i hl;split at hx
    ·rename_i r hr;cases hx;obtain⟨o,h3,h4⟩:=h.get h1 h2;have ih:=j2m h hr;have hso:soIn f o=true:=h4.sh.2 f fun i hi=>List.all_eq_true.1 hl i hi
     unfold fetch at ih⊢;simp only[mapO,h3,hso,h4.ren,ih]
    ·cases hx
   ·cases hx
  ·cases hx
def putR(g:Nat→Nat):List Nat→List ((Nat→Nat)→SO)→Sto→Sto
 |i::π,ρ::R,st=>putR g π R (st.set i (ρ g))
 |_,_,st=>st
theorem j4I{g:Nat→Nat}:∀{π:List Nat}{os st:Sto}{L:List (List Nat)}{R:List ((Nat→Nat)→SO)},ShrL os L R→putAll g π os st=putR g π R st
 |[],os,st,L,R,h=>by cases R<;>simp[putAll,putR]
 |i::π,[],st,L,R,h=>by rw[h.2];simp[putAll,putR]
 |i::π,o::os,st,L,R,h=>by
  obtain⟨l0,L',ρ0,R',rfl,rfl,h3,h4⟩:=h;simp only[putAll,putR,h3.ren,j4I h4]
theorem ShrL.map{g:Nat→Nat}:∀{st:Sto}{L:List (List Nat)}{R:List ((Nat→Nat)→SO)},ShrL st L R→st.map (renSO g)=R.map fun ρ=>ρ g
 |[],_,_,h=>by rw[h.2];rfl
 |o::r,_,_,h=>by
  obtain⟨l0,L',ρ0,R',rfl,rfl,h3,h4⟩:=h;simp only[List.map_cons,h3.ren,h4.map]
theorem ShrL.drop:∀{st:Sto}{L:List (List Nat)}{R:List ((Nat→Nat)→SO)}(k:Nat),ShrL st L R→ShrL (st.drop k) (L.drop k) (R.drop k)
 |_,_,_,0,h=>by simpa using h
 |[],_,_,k+1,h=>by rw[h.1,h.2];exact .nil
 |o::r,_,_,k+1,h=>by
  obtain⟨l0,L',ρ0,R',rfl,rfl,h3,h4⟩:=h;simpa using h4.drop k
theorem ShL.get:∀{st:Sto}{L:List (List Nat)},ShL st L→∀{i:Nat}{o:SO},st[i]?=some o→∃l,L[i]?=some l∧Sh o l
 |[],_,h,i,o,h1=>by simp at h1
 |q::r,_,h,i,o,h1=>by
  obtain⟨l,L',rfl,h2,h3⟩:=h;cases i with
  |zero=>simp at h1;subst h1;exact⟨l,rfl,h2⟩
  |succ i=>simpa using h3.get (i:=i) (by simpa using h1)
theorem j3i{st:Sto}{T:List Nat}(h:ShL st L)(hT:j2V L 64 (args.flatMap (ids 8)) []=T)(hc:T.all (fun i=>match L[i]? with
  |some l=>l.all fun j=>T.elem j
  |none=>true)=true) (ha:args.all (inIds (fun j=>T.elem j) 8)=true):touchC st args=T:=by
 have e:close st 64 (args.flatMap (ids 8)) []=T:=by rw[j1x h];exact hT
 have hb:closedB st T=true:=by
  unfold closedB;rw[List.all_eq_true] at hc ⊢
  intro i hi;have h1:=hc i hi;split
  ·rename_i o ho;obtain⟨l,h2,h3⟩:=h.get ho;rw[h2] at h1;exact h3.2 _ fun j hj=>List.all_eq_true.1 h1 j hj
  ·rfl
 unfold touchC;simp only[e,hb,ha,Bool.and_self]
section
variable{C:Cfg}
variable{r:AEnd}{K Q:AEnd→Sto→Prop}{f:FuncId}{R:List ((Nat→Nat)→SO)}{L:List (List Nat)}{π:List Nat}{args0 rs:List PV}{k0:Nat}{st st' st0 st1:Sto}
theorem j0N{args args':List PV}(hw:handed C f args st=some (args',st1))(hp:args'.all (pur 8)=false)(hs:ShrL st1 L R)(hπ:(j2V L 64 (args'.flatMap (ids 8)) []).reverse=π)
  (hi:args'.all (inIds (fun i=>π.elem i) 8)=true) (hf:j3v L R (fun i=>place i 0 π) (fun i=>π.elem i) π=some st0) (ha:args'.map (renPV (fun i=>place i 0 π) 8)=args0)
  (h:Finds C f args0 st0 fun r st2=>VBack π st1 r st2 K):VCall C f args st K:=
 vcall_st hw hp (by rw[j1x hs.shl];exact hπ) hi (j2m hs hf) ha h
theorem j0S{id:Nat}{vs vs':List PV}{K:AR→Prop}(hw:pubL C vs st=some (vs',st1))(hs:ShrL st1 L R)(hπ:(j2V L 64 ((PV.yl id::vs').flatMap (ids 8)) []).reverse=π)
  (hi:(PV.yl id::vs').all (inIds (fun i=>π.elem i) 8)=true) (hf:j3v L R (fun i=>place i 0 π) (fun i=>π.elem i) π=some st0) (ha:(PV.yl id::vs').map (renPV (fun i=>place i 0 π) 8)=args0)
  (h:FindsY C args0 st0 fun r st2=>VBack π st1 r st2 fun r st'=>match r with
   | .ret rs=>K (.val (retV rs) st')
   | .pan _=>False):VYield C id vs st K:=
 jci hw (by rw[j1x hs.shl];exact hπ) hi (j2m hs hf) ha h
theorem j0p(hs:ShrL st1 L R)(hi:(endIn (fun j=>Nat.blt j st1.length) r&&L.all (fun l=>l.all fun j=>Nat.blt j st1.length))=true)
  (k:K (renEnd (back π st.length) r) (putR (back π st.length) π R st++(R.drop π.length).map (fun ρ=>ρ (back π st.length)))):VBack π st r st1 K:=by
 rw[Bool.and_eq_true] at hi;refine vback (by rw[hi.1,hs.shl.soIn hi.2];rfl) ?_
 rw[j4I hs,(hs.drop π.length).map];exact k
def fpv(v:PV)(k:PV→Prop):Prop:=match v with
 | .sc x=>k (.sc x)
 | .sl b z xs=>k (.sl b z xs)
 | .ms i n=>k (.ms i n)
 |v=>k v
theorem jdm{v:PV}{k:PV→Prop}:fpv v k↔k v:=by cases v<;>exact Iff.rfl
def fpvs:List PV→(List PV→Prop)→Prop
 |[],k=>k []
 |v::r,k=>fpv v fun v'=>fpvs r fun r'=>k (v'::r')
theorem ja6:∀{cs:List PV}{k:List PV→Prop},fpvs cs k↔k cs
 |[],_=>Iff.rfl
 |v::r,k=>by
  unfold fpvs;rw[jdm];exact ja6 (cs:=r) (k:=fun r'=>k (v::r'))
def fso(o:SO)(k:SO→Prop):Prop:=match o with
 | .box T cs=>fpvs cs fun cs'=>k (.box T cs')
 | .lp ρ ps a b s=>k (.lp ρ ps a b s)
 | .row p e z xs=>k (.row p e z xs)
 | .frz cs=>k (.frz cs)
 | .mp ks vs=>k (.mp ks vs)
 | .ch c q=>k (.ch c q)
 | .dead=>k .dead
theorem jdn{o:SO}{k:SO→Prop}:fso o k↔k o:=by
 cases o with
 |box T cs=>exact ja6 (cs:=cs) (k:=fun cs'=>k (.box T cs'))
 |_=>exact Iff.rfl
def fsto:Sto→(Sto→Prop)→Prop
 |[],k=>k []
 |o::r,k=>fso o fun o'=>fsto r fun r'=>k (o'::r')
theorem jaa:∀{st:Sto}{k:Sto→Prop},fsto st k↔k st
 |[],_=>Iff.rfl
 |o::r,k=>by
  unfold fsto;rw[jdn];exact jaa (st:=r) (k:=fun r'=>k (o::r'))
theorem jaZ(hs:ShrL st1 L R)(hi:(endIn (fun j=>Nat.blt j st1.length) r&&L.all (fun l=>l.all fun j=>Nat.blt j st1.length))=true)
  (k:fsto (putR (back π st.length) π R st++(R.drop π.length).map (fun ρ=>ρ (back π st.length))) fun st'=>K (renEnd (back π st.length) r) st'):VBack π st r st1 K:=j0p hs hi (jaa.1 k)
theorem j0E{r':AEnd}(hs:ShrL st1 L R)(hi:(endIn (fun j=>Nat.blt j st1.length) r&&L.all (fun l=>l.all fun j=>Nat.blt j st1.length))=true)
  (hr:renEnd (back π st.length) r=r') (ht:putR (back π st.length) π R st++(R.drop π.length).map (fun ρ=>ρ (back π st.length))=st') (k:K r' st'):VBack π st r st1 K:=by
 subst hr;subst ht;exact j0p hs hi k
theorem j0R(hs:ShrL st L R)(hπ:uptoL 0 k0++livesL k0 (st.drop k0)=π)(hb:Nat.beq π.length st.length=false)(hi:rs.all (inIds (fun i=>π.elem i) 8)=true)
  (hf:j3v L R (fun i=>place i 0 π) (fun i=>π.elem i) π=some st'):squeeze k0 rs st=(rs.map (renPV (fun i=>place i 0 π) 8),st'):=by
 unfold squeeze;rw[hπ];unfold squeezeBy;simp only[hb,hi,j2m hs hf]
theorem j0B(hb:Nat.beq (uptoL 0 k0++livesL k0 (st.drop k0)).length st.length=true):squeeze k0 rs st=(rs,st):=by
 unfold squeeze squeezeBy;simp only[hb]
theorem j2Q{rs1 rs2:List PV}{st2 st3:Sto}(hp:(C.keep f=true∧rs1=rs∧st1=st)∨(C.keep f=false∧pubL C rs st=some (rs1,st1)))(hn:(rs1.all (pur 8)&&(st1.take k0).all (soIn fun i=>Nat.blt i k0))=false)(hg:gc k0 (rs1.map fun r=>(0,r)) st1=st2)(hs:squeeze k0 rs1 st2=(rs2,st3))(k:Q (.ret rs2) st3):VRet C f k0 rs st Q:=by
 refine⟨rs2,st3,?_,k⟩;unfold aret;rcases hp with⟨h1,rfl,rfl⟩|⟨h1,h2⟩
 ·simp only[h1,hn,hg,hs]
 ·simp only[h1,h2,hn,hg,hs]
theorem j1j(hp:rs.all (pur 8)=true)(ht:st.take k0=st')(hs:ShrL st' L R)(hL:L.all (fun l=>l.all fun i=>Nat.blt i k0)=true)(k:Q (.ret rs) st'):VRet C f k0 rs st Q:=by
 subst ht;exact vret_take hp (hs.shl.soIn hL) k
theorem j2c(ht:st.take k0=st')(hs:ShrL st' L R)(hL:L.all (fun l=>l.all fun i=>Nat.blt i k0)=true):yieldEnd k0 st=st':=by
 subst ht;unfold yieldEnd;simp only[hs.shl.soIn hL]
end
end Go.Am
namespace Go.Gw
open Go
mutual
def eqLv:Lv→Lv→Bool
 | .mk k n ls,.mk k' n' ls'=>decide (k=k')&&(decide (n=n')&&(decide (ls.length=ls'.length)&&j8Q ls ls'))
def j8Q:List Lv→List Lv→Bool
 |l::r,m::s=>eqLv l m&&j8Q r s
 |_,_=>true
end
mutual
theorem jcC:∀(l m:Lv),eqLv l m=true↔l=m
 | .mk k n ls,.mk k' n' ls'=>by
  simp only[eqLv,Bool.and_eq_true,decide_eq_true_eq,Lv.mk.injEq];constructor
  ·rintro⟨h1,h2,h3,h4⟩;exact⟨h1,h2,(j3a ls ls' h3).1 h4⟩
  ·rintro⟨rfl,rfl,rfl⟩;exact⟨rfl,rfl,rfl,(j3a ls ls rfl).2 rfl⟩
theorem j3a:∀(ls ms:List Lv),ls.length=ms.length→(j8Q ls ms=true↔ls=ms)
 |[],[],_=>by simp[j8Q]
 |l::r,m::s,h=>by
  simp only[j8Q,Bool.and_eq_true,List.cons.injEq];rw[jcC l m,j3a r s (by simpa using h)]
 |[],_::_,h=>by simp at h
 |_::_,[],h=>by simp at h
end
mutual
def eqTm:Tm→Tm→Bool
 | .mk k n s ls ts,.mk k' n' s' ls' ts'=>decide (k=k')&&(decide (n=n')&&((s == s')&&(decide (ls.length=ls'.length)&&(decide (ts.length=ts'.length)&&(j8Q ls ls'&&ja3 ts ts')))))
def ja3:List Tm→List Tm→Bool
 |l::r,m::s=>eqTm l m&&ja3 r s
 |_,_=>true
end
mutual
theorem jcD:∀(l m:Tm),eqTm l m=true↔l=m
 | .mk k n s ls ts,.mk k' n' s' ls' ts'=>by
  simp only[eqTm,Bool.and_eq_true,decide_eq_true_eq,beq_iff_eq,Tm.mk.injEq];constructor
  ·rintro⟨h1,h2,h3,h4,h5,h6,h7⟩;exact⟨h1,h2,h3,(j3a ls ls' h4).1 h6,(j5k ts ts' h5).1 h7⟩
  ·rintro⟨rfl,rfl,rfl,rfl,rfl⟩;exact⟨rfl,rfl,rfl,rfl,rfl,(j3a ls ls rfl).2 rfl,(j5k ts ts rfl).2 rfl⟩
theorem j5k:∀(ls ms:List Tm),ls.length=ms.length→(ja3 ls ms=true↔ls=ms)
 |[],[],_=>by simp[ja3]
 |l::r,m::s,h=>by
  simp only[ja3,Bool.and_eq_true,List.cons.injEq];rw[jcD l m,j5k r s (by simpa using h)]
 |[],_::_,h=>by simp at h
 |_::_,[],h=>by simp at h
end
mutual
def useN:Tm→Int→Int
 | .mk _ _ s ls ts,q=>min (jaW ts (lnFs ls (1+((s.length/16:Nat):Int)) q) q) (q+1)
def jaW:List Tm→Int→Int→Int
 |[],acc,_=>acc
 |t::r,acc,q=>if acc≤q then jaW r (acc+useN t q) q else acc
end
mutual
def refN:Tm→Int→Int
 | .mk _ _ _ ls ts,q=>min (j5H ts (lnFs ls 1 q) q) (q+1)
def j5H:List Tm→Int→Int→Int
 |[],acc,_=>acc
 |t::r,acc,q=>if acc≤q then j5H r (acc+refN t q) q else acc
end
open Go Go.ChangeShapes Go.WideShapes Go.ChangeAt Go.RowKit
def jf2(W:World):Mem:=fun b=>W.heap[b]?
section
variable{H:Type}{enc:TypeId×Value→H}{P:Program}{W W':World}
theorem j3j(hl:laidOutB P=true)(hb:Below W.heap.size W W'){sp:Nat→Bool}:∀{ts:List TypeId}{vs:List Value}{ds:List (DataW H)}{ps:List MemPlace},(∀t∈ts,P.readableRec t=true∧t<P.types.size) →
  DataW.TrodAll enc P W 0 (fun _=>true) true ts vs ds ps→(∀x∈ps,x.block<W.heap.size)→(∀x∈ps,sp x.block=true)→DataW.TrodAll enc P W' 0 sp true ts vs ds ps
 |[],vs,ds,ps,_,h,_,_=>by
  obtain⟨rfl,rfl,rfl⟩:=trodAll_nil h;exact trodAll_mk0
 |t::ts,vs,ds,ps,hts,h,hlt,hsp=>by
  obtain⟨v,vs',d,ds',p,q,rfl,rfl,rfl,h1,h2⟩:=trodAll_cons h;have ht:=hts t (by simp)
  exact trodAll_cons_mk (WideElems.Trod_stays hl ht.1 ht.2 h1 (fun x hx=>hb.same (hlt x (List.mem_append_left _ hx))) (fun x hx=>hsp x (List.mem_append_left _ hx)))
   (j3j hl hb (fun t' h'=>hts t' (List.mem_cons_of_mem _ h')) h2 (fun x hx=>hlt x (List.mem_append_right _ hx)) (fun x hx=>hsp x (List.mem_append_right _ hx)))
theorem post_low{f:Func}{s:ChangeSpec}{apart fresh handsOn again:Bool}{args:Array Value}{v:Value}{ds gs:List (DataW H)}{before:List MemPlace}
  (hW:DataW.Whole enc P f.params.toList s.vars apart W args.toList ds gs before) (hb:Below W.heap.size W W') (hl:laidOutB P=true) (hts:∀t∈f.params.toList,P.readableRec t=true∧t<P.types.size)
  (hvars:s.vars=[]) (hargs:(s.fn H (ds++gs)).args=ds) (hvs:(s.fn H (ds++gs)).vars=[])
  (hres:∀(b:Nat) (sp:Nat→Bool) (hd:Bool),DataW.TrodAll enc P W' b sp hd f.resultTypes.toList (v.resultList f.resultTypes.size) (s.fn H (ds++gs)).results [])
  (hok:∀(j:Nat) (t:TypeId) (r:Value),f.resultTypes[j]?=some t→(v.resultList f.resultTypes.size)[j]?=some r→Value.okWide P W' .any 0 t r) :
  s.post enc P f apart fresh handsOn again W args v W':=by
 have hlt:=hW.lt;have hW':=hW;obtain⟨p,q,hA,hV,rfl,hz,hn⟩:=hW;rw[hvars] at hV;obtain⟨rfl,rfl⟩:=trodVars_none hV;simp only[List.append_nil] at hW' hlt hz hn hargs hvs hres⊢;have hA':∀sp:Nat→Bool,(∀x∈p,sp x.block=true)→DataW.TrodAll enc P W' 0 sp true f.params.toList args.toList (s.fn H ds).args p:=fun sp h=>by
  rw[hargs];exact j3j hl hb hts hA hlt h
 have hV':∀sp:Nat→Bool,DataW.TrodVars enc P W' sp s.vars (s.fn H ds).vars []:=fun sp=>by
  rw[hvars,hvs];rfl
 refine⟨ds,[],p,[],p,[],hW',by simpa using hres _ _ _,by simpa using hA' _ (fun x hx=>by simpa using hlt x hx),by simpa using hV' _,hb.frame _,fun _=>?_⟩
 refine⟨hok,_,_,([]++p)++[],⟨[]++p,[],trodAll_append (hA' _ (fun _ _=>rfl)) (hres _ _ _),hV' _,rfl,?_,?_⟩,?_⟩
 ·intro b off hp;have hp':MemPlace.cell b off∈p:=by simpa using hp
  rw[hb.frozen (hlt _ hp')];exact hz b off hp'
 ·intro ha;simpa using hn ha
 ·intro x hx _;simpa using hx
theorem LvsV.of{m:Mem}:∀{ls:List Lv}{b off:Nat},(∀i l,ls[i]?=some l→∃cs,RdN m b (off+i*3) cs∧LvV m l cs)→LvsV m ls b off
 |[],_,_,_=>trivial
 |l::r,b,off,h=>by
  refine⟨by simpa using h 0 l rfl,LvsV.of fun i l' hl=>?_⟩
  have:=h (i+1) l' (by simpa using hl)
  rwa [show off+(i+1)*3=off+3+i*3 by omega] at this
end
end Go.Gw
namespace Go.Proofs.YtnfbeplfnblgjaaGreatDoor
open Go
variable{P:Program}
theorem jac(h:P.funcs.any Func.goes=false)(f:FuncId):P.goes f=false:=by
 have h1:∀g:FuncId,(P.funcs[g]?).any Func.goes=false:=fun g=>by
  cases hg:P.funcs[g]? with
  |none=>rfl
  |some fn=>
   obtain⟨hlt,he⟩:=Array.getElem?_eq_some_iff.1 hg;cases e:Func.goes fn with
   |false=>simp[e]
   |true=>
    have:P.funcs.any Func.goes=true:=Array.any_eq_true.2 ⟨g,hlt,by rw[he];exact e⟩
    rw[h] at this;cases this
 unfold Program.goes;simp only[h1,h,Bool.and_false,Bool.or_false]
 induction P.closure f with
 |nil=>rfl
 |cons a r ih=>simp[List.any_cons]
theorem j7h{c:OpenClaim}(h:P.funcs.any Func.goes=false)(hs:c.start=.entering):false=c.goesBy P:=by
 unfold OpenClaim.goesBy Program.goesAt Program.goesFrom;rw[hs];cases P.funcNamed c.func with
 |none=>rfl
 |some f=>simp[jac h]
theorem jbN:Tryz.prog.funcs.any Func.goes=false:=by kernel_rfl
end Go.Proofs.YtnfbeplfnblgjaaGreatDoor
