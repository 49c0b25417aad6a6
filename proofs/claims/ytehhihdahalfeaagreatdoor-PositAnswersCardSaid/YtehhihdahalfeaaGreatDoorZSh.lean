/-
  VC: what a loop over a function yields to its body. Plain lemmas, no statement of the seat.
-/
import Derived.Test.YtehhihdahalfeaaGreatDoorZVm
set_option linter.unusedVariables false
set_option linter.unusedSimpArgs false
set_option linter.unnecessarySimpa false
namespace Go.Am
open Go
/-- a yield, from some fuel on -/
inductive FindsY (C:Cfg) (args:List PV) (st:Sto) (Q:AEnd→Sto→Prop):Prop where
  |mk (r:AEnd) (st':Sto) (hq:Q r st') (N:Nat) (h:∀ n,N ≤ n→(ev C n).yield args st=some (r,st'))
section
variable {C:Cfg}
theorem findsY_mono {args:List PV} {st:Sto} {Q Q':AEnd→Sto→Prop} (h:FindsY C args st Q) (hq:∀ r st',Q r st'→Q' r st'):FindsY C args st Q':=by
  obtain ⟨r,st',h1,N,h2⟩:=h
  exact ⟨r,st',hq _ _ h1,N,h2⟩
/-- behind the body -/
def afterBody (id k0:Nat) (Q:AEnd→Sto→Prop):AX→AEnv→Sto→Prop:=fun x _ s2=>match s2[id]? with
  |some (.lp ρ2 ps2 a2 b2 .busy)=>match x with
    | .normal=>Q (.ret [.sc (.bool true)]) (yieldEnd k0 (s2.set id (.lp ρ2 ps2 a2 b2 .ready)))
    | .ret=>Q (.ret [.sc (.bool false)]) (yieldEnd k0 (s2.set id (.lp ρ2 ps2 a2 b2 (.done none))))
    | .exit i=>Q (.ret [.sc (.bool false)]) (yieldEnd k0 (s2.set id (.lp ρ2 ps2 a2 b2 (.done (some i)))))
    | .pan _=>False
  |_=>False
theorem yield_intro {id:Nat} {vs:List PV} {st:Sto} {ρ:AEnv} {ps:List Nat} {a b:Code} {Q:AEnd→Sto→Prop} (hlp:st[id]? = some (.lp ρ ps a b .ready)) (hn:(Nat.beq vs.length ps.length && (noRange a && noRange b))=true)
    (h:VC C a (putPs ps vs ρ) st fun x ρ1 s1=>match x with
      | .normal=>match s1[id]? with
        |some (.lp ρ' ps' a' b' .ready)=>VC C b ρ1 (s1.set id (.lp ρ' ps' a' b' .busy)) (afterBody id st.length Q)
        |_=>False
      |_=>False):FindsY C (.yl id :: vs) st Q:=by
  obtain ⟨x,s1,hk,N,hN⟩:=VC_ok h
  cases x with
  |normal =>
    simp only at hk
    split at hk
    · rename_i ρ' ps' a' b' h1
      obtain ⟨x2,s2,hk2,N2,hN2⟩:=VC_ok hk
      unfold afterBody at hk2
      split at hk2
      · rename_i ρ2 ps2 a2 b2 h2
        have main:∃ r st',Q r st'∧(match x2 with
            | .normal=>some (AEnd.ret [.sc (.bool true)],yieldEnd st.length (s2.st.set id (.lp ρ2 ps2 a2 b2 .ready)))
            | .ret=>some (AEnd.ret [.sc (.bool false)],yieldEnd st.length (s2.st.set id (.lp ρ2 ps2 a2 b2 (.done none))))
            | .exit i=>some (AEnd.ret [.sc (.bool false)],yieldEnd st.length (s2.st.set id (.lp ρ2 ps2 a2 b2 (.done (some i)))))
            | .pan _=>none)=some (r,st'):=by
          cases x2 with
          |normal=>exact ⟨_,_,hk2,rfl⟩
          |ret=>exact ⟨_,_,hk2,rfl⟩
          |exit i=>exact ⟨_,_,hk2,rfl⟩
          |pan v=>exact hk2.elim
        obtain ⟨r,st',hq,hr⟩:=main
        refine ⟨r,st',hq,max N N2 + 1,fun n hn'=>?_⟩
        obtain ⟨m,rfl⟩:∃ m,n=m + 1:=⟨n - 1,by omega⟩
        show yieldF C (ev C m) (.yl id :: vs) st=_
        simp only [yieldF,hlp,hn,hN m (by omega),h1,hN2 m (by omega),h2]
        rw [← hr]
        cases x2 <;> rfl
      · exact hk2.elim
    · exact hk.elim
  |_=>exact hk.elim
/-- a yield, as the iterator sees it -/
theorem vyield {id:Nat} {vs vs' args0:List PV} {st st0 st1:Sto} {π:List Nat} {K:AR→Prop} (hw:pubL C vs st=some (vs',st1)) (hπ:(close st1 64 ((PV.yl id :: vs').flatMap (ids 8)) []).reverse=π)
    (hi:(PV.yl id :: vs').all (inIds (fun i=>π.elem i) 8)=true) (hf:fetch (fun i=>place i 0 π) (fun i=>π.elem i) st1 π=some st0) (ha:(PV.yl id :: vs').map (renPV (fun i=>place i 0 π) 8)=args0)
    (h:FindsY C args0 st0 fun r st2=>VBack π st1 r st2 fun r st'=>match r with
      | .ret rs=>K (.val (retV rs) st')
      | .pan _=>False):VYield C id vs st K:=by
  obtain ⟨r,st2,⟨r',st',h1,h2⟩,N,hN⟩:=h
  cases r' with
  |ret rs =>
    refine ⟨_,h2,N,fun n hn=>?_⟩
    simp only [sYield,hw,hπ,acallM,hi,hf,ha,hN n hn,h1]
  |pan v=>exact h2.elim
end
end Go.Am
namespace Go.Am
open Go
/-- to what a thing of the store refers -/
def Sh (o:SO) (l:List Nat):Prop:=idsSO o=l∧∀ f:Nat→Bool,(∀ i ∈ l,f i=true)→soIn f o=true
def ShL:Sto→List (List Nat)→Prop
  |[],L=>L=[]
  |o :: r,L=>∃ l L',L=l :: L'∧Sh o l∧ShL r L'
theorem ShL.nil:ShL [] []:=rfl
theorem ShL.cons {o:SO} {l:List Nat} {r:Sto} {L:List (List Nat)} (h:Sh o l) (k:ShL r L):ShL (o :: r) (l :: L):=⟨l,L,rfl,h,k⟩
theorem inIds_mono {f g:Nat→Bool} (h:∀ i,f i=true→g i=true):∀ {n:Nat} {x:PV},inIds f n x=true→inIds g n x=true
  |0,x,hx=>by simp [inIds] at hx
  |n + 1,x,hx=>by
    have hall:∀ {l:List PV},l.all (inIds f n)=true→l.all (inIds g n)=true:=fun hl=>List.all_eq_true.2 fun y hy=>inIds_mono h (List.all_eq_true.1 hl y hy)
    cases x with
    |ag cs=>simp only [inIds] at hx ⊢; exact hall hx
    |tu cs=>simp only [inIds] at hx ⊢; exact hall hx
    |ci cs=>simp only [inIds] at hx ⊢; exact hall hx
    |fn q a b=>simp only [inIds,Bool.and_eq_true] at hx ⊢; exact ⟨hall hx.1,hall hx.2⟩
    |ifc t x=>simp only [inIds] at hx ⊢; exact inIds_mono h hx
    |ms id len=>simp only [inIds] at hx ⊢; exact h _ hx
    |bp id off=>simp only [inIds] at hx ⊢; exact h _ hx
    |yl id=>simp only [inIds] at hx ⊢; exact h _ hx
    |rp id len i off=>simp only [inIds] at hx ⊢; exact h _ hx
    |_=>rfl
theorem sh_box {T:TypeId} {cs:List PV} {l:List Nat} (h1:cs.flatMap (ids 8)=l) (h2:cs.all (inIds (fun j=>l.elem j) 8)=true):Sh (.box T cs) l :=
  ⟨h1,fun f hf=>List.all_eq_true.2 fun x hx=>inIds_mono (fun i hi=>hf i (by simpa using hi)) (List.all_eq_true.1 h2 x hx)⟩
theorem sh_row {b:Bool} {T:TypeId} {z:Nat} {cs:List PV} (h:cs.all (pur 8)=true):Sh (.row b T z cs) []:=by
  rw [List.all_eq_true] at h
  have key:∀ {n:Nat} {x:PV},pur n x=true→ids n x=[]∧∀ f,inIds f n x=true:=by
    intro n
    induction n with
    |zero=>intro x hx; simp [pur] at hx
    |succ n ih =>
      intro x hx
      have hall:∀ {l:List PV},l.all (pur n)=true→l.flatMap (ids n)=[]∧∀ f,l.all (inIds f n)=true:=fun {l} hl=>by
        rw [List.all_eq_true] at hl
        exact ⟨by rw [List.flatMap_eq_nil_iff]; exact fun y hy=>(ih (hl y hy)).1,fun f=>List.all_eq_true.2 fun y hy=>(ih (hl y hy)).2 f⟩
      cases x with
      |ag cs=>simp only [pur] at hx; exact hall hx
      |tu cs=>simp only [pur] at hx; exact hall hx
      |fn f a b =>
        simp only [pur,Bool.and_eq_true] at hx
        refine ⟨by simp only [ids,(hall hx.1).1,(hall hx.2).1,List.append_nil],fun f=>by simp only [inIds,(hall hx.1).2 f,(hall hx.2).2 f,Bool.and_self]⟩
      |ifc t x =>
        simp only [pur] at hx
        show ids n x=[]∧∀ f,inIds f n x=true
        exact ih hx
      |_=>first|(simp [pur] at hx; done)|exact ⟨rfl,fun _=>rfl⟩
  exact ⟨by simp only [idsSO]; rw [List.flatMap_eq_nil_iff]; exact fun y hy=>(key (h y hy)).1,fun f _=>List.all_eq_true.2 fun y hy=>(key (h y hy)).2 f⟩
theorem sh_dead:Sh .dead []:=⟨rfl,fun _ _=>rfl⟩
def closeS (L:List (List Nat)):Nat→List Nat→List Nat→List Nat
  |0,_,acc=>acc
  |n + 1,work,acc=>match work with
    |[]=>acc
    |i :: r=>match acc.elem i with
      |true=>closeS L n r acc
      |false=>closeS L n (r ++ (match L[i]? with
        |some l=>l
        |none=>[])) (i :: acc)
theorem ShL.at_:∀ {st:Sto} {L:List (List Nat)},ShL st L→∀ (i:Nat),(∃ o l,st[i]? = some o∧L[i]? = some l∧Sh o l)∨(st[i]? = none∧L[i]? = none)
  |[],L,h,i=>by
    have h:L=[]:=h
    subst h
    exact .inr ⟨by simp,by simp⟩
  |o :: r,L,h,i=>by
    obtain ⟨l,L',rfl,h1,h2⟩:=h
    cases i with
    |zero=>exact .inl ⟨o,l,rfl,rfl,h1⟩
    |succ i=>simpa using ShL.at_ h2 i
theorem close_sh {st:Sto} {L:List (List Nat)} (h:ShL st L):∀ (n:Nat) (work acc:List Nat),close st n work acc=closeS L n work acc
  |0,_,_=>rfl
  |n + 1,[],_=>rfl
  |n + 1,i :: r,acc=>by
    simp only [close,closeS]
    cases hb:acc.elem i with
    |true=>exact close_sh h n _ _
    |false =>
      rcases h.at_ i with ⟨o,l,h1,h2,h3⟩|⟨h1,h2⟩
      · rw [h1,h2]
        simp only [h3.1]
        exact close_sh h n _ _
      · rw [h1,h2]
        exact close_sh h n _ _
theorem ShL.take:∀ {st:Sto} {L:List (List Nat)} {k:Nat},ShL st L→(st.take k).flatMap idsSO=(L.take k).flatten
  |[],L,k,h=>by
    have h:L=[]:=h
    subst h
    simp
  |o :: r,L,0,h=>by simp
  |o :: r,L,k + 1,h=>by
    obtain ⟨l,L',rfl,h1,h2⟩:=h
    simp only [List.take_succ_cons,List.flatMap_cons,List.flatten_cons,h1.1,ShL.take h2]
theorem ShL.soIn {f:Nat→Bool}:∀ {st:Sto} {L:List (List Nat)},ShL st L→L.all (fun l=>l.all f)=true→st.all (soIn f)=true
  |[],_,_,_=>rfl
  |o :: r,L,h,hf=>by
    obtain ⟨l,L',rfl,h1,h2⟩:=h
    simp only [List.all_cons,Bool.and_eq_true] at hf
    simp only [List.all_cons,Bool.and_eq_true]
    exact ⟨h1.2 f fun i hi=>List.all_eq_true.1 hf.1 i hi,ShL.soIn h2 hf.2⟩
/-- what a round leaves -/
theorem gc_sh {k0:Nat} {ρ:AEnv} {st st':Sto} {L L':List (List Nat)} {acc:List Nat} (h:ShL st L) (h':ShL st' L') (hb:Nat.beq st.length k0=false) (hacc:closeS L 64 (ρ.flatMap (fun p=>ids 8 p.2) ++ (L.take k0).flatten) []=acc) (hs:trim k0 (sweep k0 acc 0 st)=st')
    (hρ:ρ.all (fun p=>inIds (fun i=>Nat.blt i st'.length) 8 p.2)=true) (hL:L'.all (fun l=>l.all fun i=>Nat.blt i st'.length)=true):gc k0 ρ st=st':=by
  unfold gc
  simp only [hb,close_sh h,h.take,hacc,hs,hρ,h'.soIn hL,Bool.and_self]
/-- what is handed back is free of the store, once its rows are known for good -/
theorem vret_pub {C:Cfg} {f:FuncId} {rs rs':List PV} {st st':Sto} {Q:AEnd→Sto→Prop} (hk:C.keep f=false) (hp:pubL C rs st=some (rs',st')) (hr:rs'.all (pur 8)=true) (k:Q (.ret rs') []):VRet C f 0 rs st Q:=by
  refine ⟨rs',[],?_,k⟩
  simp only [aret,hk,hp,hr]
  rfl
theorem mapS_cons {f:PV→Sto→Option (PV × Sto)} {x y:PV} {l l':List PV} {st st1 st2:Sto} (h:f x st=some (y,st1)) (k:mapS f l st1=some (l',st2)):mapS f (x :: l) st=some (y :: l',st2):=by
  simp only [mapS,h,k]
theorem mapS_nil {f:PV→Sto→Option (PV × Sto)} {st:Sto}:mapS f [] st=some ([],st):=rfl
theorem pubV_row {C:Cfg} {n i len:Nat} {b:Bool} {T:TypeId} {z:Nat} {xs:List PV} {st:Sto} (hst:st[i]? = some (.row b T z xs)) (hn:len=xs.length) (hp:xs.all (pur 6)=true):pubV C (n + 1) (.ms i len) st=some (.sl false z xs,st.set i (.row true T z xs)):=by
  have:(Nat.beq len xs.length && xs.all (pur 6))=true:=by rw [hp,hn,Nat.beq_refl]; rfl
  simp only [pubV,pubRow,hst,this]
theorem pubV_ag {C:Cfg} {n:Nat} {cs cs':List PV} {st st':Sto} (h:mapS (pubV C n) cs st=some (cs',st')):pubV C (n + 1) (.ag cs) st=some (.ag cs',st'):=by
  simp only [pubV,h]
end Go.Am
namespace Go.Am
open Go
/-- to what a thing of the store refers, and what it is under other numbers -/
structure Shr (o:SO) (l:List Nat) (ρ:(Nat→Nat)→SO):Prop where
  sh:Sh o l
  ren:∀ g,renSO g o=ρ g
def ShrL:Sto→List (List Nat)→List ((Nat→Nat)→SO)→Prop
  |[],L,R=>L=[]∧R=[]
  |o :: r,L,R=>∃ l L' ρ R',L=l :: L'∧R=ρ :: R'∧Shr o l ρ∧ShrL r L' R'
theorem ShrL.nil:ShrL [] [] []:=⟨rfl,rfl⟩
theorem ShrL.cons {o:SO} {l:List Nat} {ρ:(Nat→Nat)→SO} {r:Sto} {L:List (List Nat)} {R:List ((Nat→Nat)→SO)} (h:Shr o l ρ) (k:ShrL r L R):ShrL (o :: r) (l :: L) (ρ :: R):=⟨l,L,ρ,R,rfl,rfl,h,k⟩
theorem ShrL.shl:∀ {st:Sto} {L:List (List Nat)} {R:List ((Nat→Nat)→SO)},ShrL st L R→ShL st L
  |[],_,_,h=>h.1
  |o :: r,_,_,h=>by
    obtain ⟨l,L',ρ,R',rfl,rfl,h1,h2⟩:=h
    exact .cons h1.sh h2.shl
theorem renPV_pure:∀ {n:Nat} {x:PV} {g:Nat→Nat},pur n x=true→renPV g n x=x
  |0,x,g,h=>by simp [pur] at h
  |n + 1,x,g,h=>by
    have hall:∀ {l:List PV},l.all (pur n)=true→l.map (renPV g n)=l:=fun {l} hl=>by
      rw [List.all_eq_true] at hl
      rw [List.map_congr_left (g:=id) (fun y hy=>by rw [renPV_pure (hl y hy)]; rfl),List.map_id]
    cases x with
    |ag cs=>simp only [pur] at h; simp only [renPV,hall h]
    |tu cs=>simp only [pur] at h; simp only [renPV,hall h]
    |fn f a b=>simp only [pur,Bool.and_eq_true] at h; simp only [renPV,hall h.1,hall h.2]
    |ifc t x=>simp only [pur] at h; simp only [renPV,renPV_pure h]
    |_=>first|(simp [pur] at h; done)|rfl
theorem sh_lp {ρ:AEnv} {ps:List Nat} {a b:Code} {s:LpS} {l:List Nat} (h1:ρ.flatMap (fun p=>ids 8 p.2)=l) (h2:ρ.all (fun p=>inIds (fun j=>l.elem j) 8 p.2)=true):Sh (.lp ρ ps a b s) l :=
  ⟨h1,fun f hf=>List.all_eq_true.2 fun x hx=>inIds_mono (fun i hi=>hf i (by simpa using hi)) (List.all_eq_true.1 h2 x hx)⟩
theorem shr_box {T:TypeId} {cs:List PV} {l:List Nat} (h1:cs.flatMap (ids 8)=l) (h2:cs.all (inIds (fun j=>l.elem j) 8)=true):Shr (.box T cs) l (fun g=>.box T (cs.map (renPV g 8))):=⟨sh_box h1 h2,fun _=>rfl⟩
theorem shr_lp {ρ:AEnv} {ps:List Nat} {a b:Code} {s:LpS} {l:List Nat} (h1:ρ.flatMap (fun p=>ids 8 p.2)=l) (h2:ρ.all (fun p=>inIds (fun j=>l.elem j) 8 p.2)=true):Shr (.lp ρ ps a b s) l (fun g=>.lp (ρ.map fun p=>(p.1,renPV g 8 p.2)) ps a b s):=⟨sh_lp h1 h2,fun _=>rfl⟩
theorem shr_dead:Shr .dead [] (fun _=>.dead):=⟨sh_dead,fun _=>rfl⟩
theorem shr_row {b:Bool} {T:TypeId} {z:Nat} {cs:List PV} (h:cs.all (pur 8)=true):Shr (.row b T z cs) [] (fun _=>.row b T z cs):=by
  refine ⟨sh_row h,fun g=>?_⟩
  rw [List.all_eq_true] at h
  simp only [renSO]
  congr 1
  rw [List.map_congr_left (g:=id) (fun y hy=>by rw [renPV_pure (h y hy)]; rfl),List.map_id]
/-- a box whose cells are free of the store -/
theorem shr_boxp {T:TypeId} {cs:List PV} (h:cs.all (pur 8)=true):Shr (.box T cs) [] (fun _=>.box T cs):=by
  have hr:=sh_row (b:=true) (T:=T) (z:=0) h
  refine ⟨⟨hr.1,fun f hf=>hr.2 f hf⟩,fun g=>?_⟩
  rw [List.all_eq_true] at h
  simp only [renSO]
  congr 1
  rw [List.map_congr_left (g:=id) (fun y hy=>by rw [renPV_pure (h y hy)]; rfl),List.map_id]
theorem ShrL.get:∀ {st:Sto} {L:List (List Nat)} {R:List ((Nat→Nat)→SO)},ShrL st L R→∀ {i:Nat} {l:List Nat} {ρ:(Nat→Nat)→SO},L[i]? = some l→R[i]? = some ρ→∃ o,st[i]? = some o∧Shr o l ρ
  |[],_,_,h,i,l,ρ,h1,h2=>by rw [h.1] at h1; simp at h1
  |o :: r,_,_,h,i,l,ρ,h1,h2=>by
    obtain ⟨l0,L',ρ0,R',rfl,rfl,h3,h4⟩:=h
    cases i with
    |zero=>simp at h1 h2; subst h1; subst h2; exact ⟨o,rfl,h3⟩
    |succ i=>simpa using h4.get (i:=i) (by simpa using h1) (by simpa using h2)
def fetchS (L:List (List Nat)) (R:List ((Nat→Nat)→SO)) (g:Nat→Nat) (f:Nat→Bool):List Nat→Option Sto
  |[]=>some []
  |i :: π=>match L[i]?,R[i]? with
    |some l,some ρ=>match l.all f with
      |true=>match fetchS L R g f π with
        |some r=>some (ρ g :: r)
        |none=>none
      |false=>none
    |_,_=>none
theorem fetch_shr {st:Sto} {L:List (List Nat)} {R:List ((Nat→Nat)→SO)} (h:ShrL st L R) {g:Nat→Nat} {f:Nat→Bool}:∀ {π:List Nat} {st0:Sto},fetchS L R g f π=some st0→fetch g f st π=some st0
  |[],st0,hx=>by
    simp only [fetchS,Option.some.injEq] at hx
    subst hx
    rfl
  |i :: π,st0,hx=>by
    unfold fetchS at hx
    split at hx
    · rename_i l ρ h1 h2
      split at hx
      · rename_i hl
        split at hx
        · rename_i r hr
          cases hx
          obtain ⟨o,h3,h4⟩:=h.get h1 h2
          have ih:=fetch_shr h hr
          have hso:soIn f o=true:=h4.sh.2 f fun i hi=>List.all_eq_true.1 hl i hi
          unfold fetch at ih ⊢
          simp only [mapO,h3,hso,h4.ren,ih]
        · cases hx
      · cases hx
    · cases hx
def putR (g:Nat→Nat):List Nat→List ((Nat→Nat)→SO)→Sto→Sto
  |i :: π,ρ :: R,st=>putR g π R (st.set i (ρ g))
  |_,_,st=>st
theorem putAll_shr {g:Nat→Nat}:∀ {π:List Nat} {os st:Sto} {L:List (List Nat)} {R:List ((Nat→Nat)→SO)},ShrL os L R→putAll g π os st=putR g π R st
  |[],os,st,L,R,h=>by cases R <;> simp [putAll,putR]
  |i :: π,[],st,L,R,h=>by rw [h.2]; simp [putAll,putR]
  |i :: π,o :: os,st,L,R,h=>by
    obtain ⟨l0,L',ρ0,R',rfl,rfl,h3,h4⟩:=h
    simp only [putAll,putR,h3.ren,putAll_shr h4]
theorem ShrL.map {g:Nat→Nat}:∀ {st:Sto} {L:List (List Nat)} {R:List ((Nat→Nat)→SO)},ShrL st L R→st.map (renSO g)=R.map fun ρ=>ρ g
  |[],_,_,h=>by rw [h.2]; rfl
  |o :: r,_,_,h=>by
    obtain ⟨l0,L',ρ0,R',rfl,rfl,h3,h4⟩:=h
    simp only [List.map_cons,h3.ren,h4.map]
theorem ShrL.drop:∀ {st:Sto} {L:List (List Nat)} {R:List ((Nat→Nat)→SO)} (k:Nat),ShrL st L R→ShrL (st.drop k) (L.drop k) (R.drop k)
  |_,_,_,0,h=>by simpa using h
  |[],_,_,k + 1,h=>by rw [h.1,h.2]; exact .nil
  |o :: r,_,_,k + 1,h=>by
    obtain ⟨l0,L',ρ0,R',rfl,rfl,h3,h4⟩:=h
    simpa using h4.drop k
theorem ShL.get:∀ {st:Sto} {L:List (List Nat)},ShL st L→∀ {i:Nat} {o:SO},st[i]? = some o→∃ l,L[i]? = some l∧Sh o l
  |[],_,h,i,o,h1=>by simp at h1
  |q :: r,_,h,i,o,h1=>by
    obtain ⟨l,L',rfl,h2,h3⟩:=h
    cases i with
    |zero=>simp at h1; subst h1; exact ⟨l,rfl,h2⟩
    |succ i=>simpa using h3.get (i:=i) (by simpa using h1)
section
variable {C:Cfg}
theorem vcall_shr {f:FuncId} {args args' args0:List PV} {st st0 st1:Sto} {L:List (List Nat)} {R:List ((Nat→Nat)→SO)} {π:List Nat} {K:AEnd→Sto→Prop} (hw:handed C f args st=some (args',st1)) (hp:args'.all (pur 8)=false) (hs:ShrL st1 L R) (hπ:(closeS L 64 (args'.flatMap (ids 8)) []).reverse=π)
    (hi:args'.all (inIds (fun i=>π.elem i) 8)=true) (hf:fetchS L R (fun i=>place i 0 π) (fun i=>π.elem i) π=some st0) (ha:args'.map (renPV (fun i=>place i 0 π) 8)=args0)
    (h:Finds C f args0 st0 fun r st2=>VBack π st1 r st2 K):VCall C f args st K :=
  vcall_st hw hp (by rw [close_sh hs.shl]; exact hπ) hi (fetch_shr hs hf) ha h
theorem vyield_shr {id:Nat} {vs vs' args0:List PV} {st st0 st1:Sto} {L:List (List Nat)} {R:List ((Nat→Nat)→SO)} {π:List Nat} {K:AR→Prop} (hw:pubL C vs st=some (vs',st1)) (hs:ShrL st1 L R) (hπ:(closeS L 64 ((PV.yl id :: vs').flatMap (ids 8)) []).reverse=π)
    (hi:(PV.yl id :: vs').all (inIds (fun i=>π.elem i) 8)=true) (hf:fetchS L R (fun i=>place i 0 π) (fun i=>π.elem i) π=some st0) (ha:(PV.yl id :: vs').map (renPV (fun i=>place i 0 π) 8)=args0)
    (h:FindsY C args0 st0 fun r st2=>VBack π st1 r st2 fun r st'=>match r with
      | .ret rs=>K (.val (retV rs) st')
      | .pan _=>False):VYield C id vs st K :=
  vyield hw (by rw [close_sh hs.shl]; exact hπ) hi (fetch_shr hs hf) ha h
theorem vback_shr {π:List Nat} {st st1:Sto} {L:List (List Nat)} {R:List ((Nat→Nat)→SO)} {r:AEnd} {K:AEnd→Sto→Prop} (hs:ShrL st1 L R) (hi:(endIn (fun j=>Nat.blt j st1.length) r && L.all (fun l=>l.all fun j=>Nat.blt j st1.length))=true)
    (k:K (renEnd (back π st.length) r) (putR (back π st.length) π R st ++ (R.drop π.length).map (fun ρ=>ρ (back π st.length)))):VBack π st r st1 K:=by
  rw [Bool.and_eq_true] at hi
  refine vback (by rw [hi.1,hs.shl.soIn hi.2]; rfl) ?_
  rw [putAll_shr hs,(hs.drop π.length).map]
  exact k
/-- a store written out -/
def fpv (v:PV) (k:PV→Prop):Prop:=match v with
  | .sc x=>k (.sc x)
  | .sl b z xs=>k (.sl b z xs)
  | .ms i n=>k (.ms i n)
  |v=>k v
theorem fpv_eq {v:PV} {k:PV→Prop}:fpv v k↔k v:=by cases v <;> exact Iff.rfl
def fpvs:List PV→(List PV→Prop)→Prop
  |[],k=>k []
  |v :: r,k=>fpv v fun v'=>fpvs r fun r'=>k (v' :: r')
theorem fpvs_eq:∀ {cs:List PV} {k:List PV→Prop},fpvs cs k↔k cs
  |[],_=>Iff.rfl
  |v :: r,k=>by
    unfold fpvs
    rw [fpv_eq]
    exact fpvs_eq (cs:=r) (k:=fun r'=>k (v :: r'))
def fso (o:SO) (k:SO→Prop):Prop:=match o with
  | .box T cs=>fpvs cs fun cs'=>k (.box T cs')
  | .lp ρ ps a b s=>k (.lp ρ ps a b s)
  | .row p e z xs=>k (.row p e z xs)
  | .frz cs=>k (.frz cs)
  | .dead=>k .dead
theorem fso_eq {o:SO} {k:SO→Prop}:fso o k↔k o:=by
  cases o with
  |box T cs=>exact fpvs_eq (cs:=cs) (k:=fun cs'=>k (.box T cs'))
  |_=>exact Iff.rfl
def fsto:Sto→(Sto→Prop)→Prop
  |[],k=>k []
  |o :: r,k=>fso o fun o'=>fsto r fun r'=>k (o' :: r')
theorem fsto_eq:∀ {st:Sto} {k:Sto→Prop},fsto st k↔k st
  |[],_=>Iff.rfl
  |o :: r,k=>by
    unfold fsto
    rw [fso_eq]
    exact fsto_eq (st:=r) (k:=fun r'=>k (o :: r'))
theorem vback_f {π:List Nat} {st st1:Sto} {L:List (List Nat)} {R:List ((Nat→Nat)→SO)} {r:AEnd} {K:AEnd→Sto→Prop} (hs:ShrL st1 L R) (hi:(endIn (fun j=>Nat.blt j st1.length) r && L.all (fun l=>l.all fun j=>Nat.blt j st1.length))=true)
    (k:fsto (putR (back π st.length) π R st ++ (R.drop π.length).map (fun ρ=>ρ (back π st.length))) fun st'=>K (renEnd (back π st.length) r) st'):VBack π st r st1 K:=vback_shr hs hi (fsto_eq.1 k)
/-- what lies there behind it, written out -/
theorem vback_to {π:List Nat} {st st1 st':Sto} {L:List (List Nat)} {R:List ((Nat→Nat)→SO)} {r r':AEnd} {K:AEnd→Sto→Prop} (hs:ShrL st1 L R) (hi:(endIn (fun j=>Nat.blt j st1.length) r && L.all (fun l=>l.all fun j=>Nat.blt j st1.length))=true)
    (hr:renEnd (back π st.length) r=r') (ht:putR (back π st.length) π R st ++ (R.drop π.length).map (fun ρ=>ρ (back π st.length))=st') (k:K r' st'):VBack π st r st1 K:=by
  subst hr
  subst ht
  exact vback_shr hs hi k
theorem squeeze_shr {k0:Nat} {rs:List PV} {st st':Sto} {L:List (List Nat)} {R:List ((Nat→Nat)→SO)} {π:List Nat} (hs:ShrL st L R) (hπ:uptoL 0 k0 ++ livesL k0 (st.drop k0)=π) (hb:Nat.beq π.length st.length=false) (hi:rs.all (inIds (fun i=>π.elem i) 8)=true)
    (hf:fetchS L R (fun i=>place i 0 π) (fun i=>π.elem i) π=some st'):squeeze k0 rs st=(rs.map (renPV (fun i=>place i 0 π) 8),st'):=by
  unfold squeeze
  rw [hπ]
  unfold squeezeBy
  simp only [hb,hi,fetch_shr hs hf]
theorem squeeze_same {k0:Nat} {rs:List PV} {st:Sto} (hb:Nat.beq (uptoL 0 k0 ++ livesL k0 (st.drop k0)).length st.length=true):squeeze k0 rs st=(rs,st):=by
  unfold squeeze squeezeBy
  simp only [hb]
theorem vret_sq {f:FuncId} {k0:Nat} {rs rs1 rs2:List PV} {st st1 st2 st3:Sto} {Q:AEnd→Sto→Prop} (hp:(C.keep f=true∧rs1=rs∧st1=st)∨(C.keep f=false∧pubL C rs st=some (rs1,st1))) (hn:(rs1.all (pur 8) && (st1.take k0).all (soIn fun i=>Nat.blt i k0))=false) (hg:gc k0 (rs1.map fun r=>(0,r)) st1=st2) (hs:squeeze k0 rs1 st2=(rs2,st3)) (k:Q (.ret rs2) st3):VRet C f k0 rs st Q:=by
  refine ⟨rs2,st3,?_,k⟩
  unfold aret
  rcases hp with ⟨h1,rfl,rfl⟩|⟨h1,h2⟩
  · simp only [h1,hn,hg,hs]
  · simp only [h1,h2,hn,hg,hs]
theorem vret_take_shr {f:FuncId} {k0:Nat} {rs:List PV} {st st':Sto} {L:List (List Nat)} {R:List ((Nat→Nat)→SO)} {Q:AEnd→Sto→Prop} (hp:rs.all (pur 8)=true) (ht:st.take k0=st') (hs:ShrL st' L R) (hL:L.all (fun l=>l.all fun i=>Nat.blt i k0)=true) (k:Q (.ret rs) st'):VRet C f k0 rs st Q:=by
  subst ht
  exact vret_take hp (hs.shl.soIn hL) k
theorem yieldEnd_take {k0:Nat} {st st':Sto} {L:List (List Nat)} {R:List ((Nat→Nat)→SO)} (ht:st.take k0=st') (hs:ShrL st' L R) (hL:L.all (fun l=>l.all fun i=>Nat.blt i k0)=true):yieldEnd k0 st=st':=by
  subst ht
  unfold yieldEnd
  simp only [hs.shl.soIn hL]
end
end Go.Am
