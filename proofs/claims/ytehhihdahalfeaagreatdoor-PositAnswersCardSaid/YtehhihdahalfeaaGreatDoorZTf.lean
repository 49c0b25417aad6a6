/-
  Terms that are looked at; what is loose. No statement of the seat.
-/
import Derived.Test.YtehhihdahalfeaaGreatDoorZTc
set_option linter.unusedVariables false
set_option linter.unusedSimpArgs false
set_option linter.unnecessarySimpa false
namespace Go.Proofs.YtehhihdahalfeaaGreatDoor
open Go Go.Am Go.Gw
mutual
theorem TmP.names:∀ {t:Tm} {v:PV},TmP t v→NmT AnyName t
  | .mk k n s ls ts,v,h=>by
    simp only [TmP] at h
    obtain ⟨b,z,xs,c,y,ys,rfl,hz,hxs,hbd,hy,hys,hbd2,hsl,hi⟩:=h
    simp only [NmT]
    exact ⟨hsl,TmsP.names hys⟩
theorem TmsP.names:∀ {ts:List Tm} {xs:List PV},TmsP ts xs→NmTs AnyName ts
  |[],xs,h=>by simp only [NmTs]
  |t :: r,xs,h=>by
    simp only [TmsP] at h
    obtain ⟨v,xs',rfl,h1,h2⟩:=h
    simp only [NmTs]
    exact ⟨TmP.names h1,TmsP.names h2⟩
end
theorem termRight_can (t:Tm) (v:PV) (h:TmP t v) (n kk:Int):Pf C1 62 [v,iv n,iv kk] [bv (rightT t n kk)]:=rightT_can names_ok t v h h.names n kk
set_option maxRecDepth 100000 in
theorem teleRight_can (t:Tm) (v:PV) (h:TmP t v):Pf C1 47 [v] [bv (anyT t)]:=by
  have hr:=termRight_can t v h 4 1125899906842624
  obtain ⟨k,nn,s,ls,ts,b,z,xs,c,y,ys,rfl,rfl,hz,hxs,hlen,hbd,hy,hys,hlen2,hbd2,hsl⟩:=h.open
  refine run_intro Tryz.func47 rfl rfl rfl ?_
  repeat' ((conv=>whnf);first|refine gT ?_|refine gF ?_|refine VIf.not ?_|refine gA ?_|refine gB ?_|refine VIf.dec (fun h=>?_) (fun h=>?_)|refine gC ?_|refine gD ?_|refine VIf.mk (fun h=>?_) (fun h=>?_)|refine gO ?_|refine gP ?_|refine VNat.mk _ rfl ?_|refine gV ?_|refine vret_pf rfl ?_|refine vret_take rfl rfl ?_|refine vcall_pf hr rfl rfl ?_|refine gK ?_)
  all_goals (try (conv=>whnf))
  all_goals rfl
def binderB (k:Int):Bool:=decide (k=6∨k=5)
set_option maxRecDepth 100000 in
theorem teleBinder_can (k:Int):Pf C1 46 [iv k] [bv (binderB k)]:=by
  refine run_intro Tryz.func46 rfl rfl rfl ?_
  repeat' ((conv=>whnf);first|refine gT ?_|refine gF ?_|refine VIf.not ?_|refine gA ?_|refine gB ?_|refine VIf.dec (fun h=>?_) (fun h=>?_)|refine gC ?_|refine gD ?_|refine VIf.mk (fun h=>?_) (fun h=>?_)|refine gO ?_|refine gP ?_|refine VNat.mk _ rfl ?_|refine gV ?_|refine vret_pf rfl ?_|refine vret_take rfl rfl ?_|refine gK ?_)
  all_goals (try (conv=>whnf))
  all_goals simp_all [binderB]
/- what is loose -/
mutual
def looseT:Tm→Int→Int
  | .mk k n _ _ ts,d=>if k=1 then max (n - d + 1) 0 else looseTs ts k 0 d 0
def looseTs:List Tm→Int→Int→Int→Int→Int
  |[],_,_,_,acc=>acc
  |t :: r,k,i,d,acc=>looseTs r k (i + 1) d (max acc (looseT t (innerF (shBinds k) i d)))
end
theorem allTs_at:∀ {ts:List Tm} {k p kk:Int} {i:Int} {j:Nat} {tc:Tm},allTs ts k i p kk=true→ts[j]? = some tc→allT tc p (innerF (shBinds k) (i + j) kk)=true
  |[],k,p,kk,i,j,tc,h,hj=>by simp at hj
  |t :: r,k,p,kk,i,j,tc,h,hj=>by
    simp only [allTs,Bool.and_eq_true] at h
    cases j with
    |zero =>
      simp at hj
      subst hj
      simpa using h.1
    |succ j =>
      have:=allTs_at h.2 (by simpa using hj:r[j]? = some tc)
      rwa [show i + 1 + (j:Int)=i + ((j + 1:Nat):Int) by omega] at this
theorem allT_parts {k n:Int} {s:List UInt8} {ls:List Lv} {ts:List Tm} {p kk:Int} (h:allT (.mk k n s ls ts) p kk=true):(1 ≤ k∧k ≤ 7)∧(ts.length:Int)=shArgs k∧nodeT (.mk k n s ls ts) kk=true∧rightLs ls p=true∧allTs ts k 0 p kk=true:=by
  simpa [allT,and_assoc] using h
theorem innerF_bd (b i d:Int):d ≤ innerF b i d∧innerF b i d ≤ d + 1:=by
  unfold innerF
  split <;> omega
def LooseF (t:Tm):Int:=if anyT t=true then looseT t 0 else 0
theorem any_parts {t:Tm} (h:anyT t=true):nodesT t ≤ 2000∧allT t 4 1125899906842624=true:=by
  simpa [anyT,rightT] using h
theorem any_dep {t:Tm} (h:anyT t=true):depT t ≤ 2000:=nodes_dep (any_parts h).1
/- how many binders a term begins with; what they are -/
theorem any_arg1 {k n:Int} {s:List UInt8} {ls:List Lv} {ts:List Tm} (h:anyT (.mk k n s ls ts)=true) (hk:k=5∨k=6):∃ a b,ts=[a,b]:=by
  have:=(allT_parts (any_parts h).2).2.1
  rw [shArgs,if_pos (by omega)] at this
  match ts,this with
  |[a,b],_=>exact ⟨a,b,rfl⟩
  |[],h=>simp at h
  |[_],h=>simp at h
  |_ :: _ :: _ :: _,h=>simp at h; omega
def countR (kind:Int):Tm→Nat
  | .mk k n s ls ts=>match ts with
    |[a,b]=>if (binderB kind && (anyT (.mk k n s ls [a,b]) && decide (k=kind)))=true then countR kind b + 1 else 0
    |_=>0
theorem countR_dep (kind:Int):∀ t:Tm,countR kind t ≤ depT t
  | .mk k n s ls []=>by simp [countR]
  | .mk k n s ls [a]=>by simp [countR]
  | .mk k n s ls [a,b]=>by
    rw [countR,depT,depTs,depTs]
    have:=countR_dep kind b
    split
    · omega
    · omega
  | .mk k n s ls (a :: b :: c :: r)=>by simp [countR]
theorem countR_le (kind:Int) (t:Tm):countR kind t ≤ 2000:=by
  by_cases h:anyT t=true
  · have:=any_dep h
    have:=countR_dep kind t
    omega
  · obtain ⟨k,n,s,ls,ts⟩:=t
    unfold countR
    split
    · rw [Bool.eq_false_iff.2 h]
      simp
    · omega
theorem countR_off {kind:Int} {t:Tm} (h:¬ (binderB kind && (anyT t && decide (t.kind=kind)))=true):countR kind t=0:=by
  obtain ⟨k,n,s,ls,ts⟩:=t
  unfold countR
  split
  · exact if_neg h
  · rfl
set_option maxRecDepth 100000 in
theorem Count_can (t:Tm) (v:PV) (h:TmP t v) (kind:Int):Pf C1 15 [v,iv kind] [iv (countR kind t)]:=by
  have hle:=countR_le kind t
  have hbd:=teleBinder_can kind
  obtain ⟨k0,nn0,s0,ls0,ts0,b0,z0,xs0,c0,y0,ys0,rfl,rfl,-⟩:=h.open
  refine run_intro Tryz.func15 rfl rfl rfl ?_
  repeat' ((conv=>whnf);first|refine gT ?_|refine gF ?_|refine VIf.not ?_|refine gA ?_|refine gB ?_|refine VIf.dec (fun h=>?_) (fun h=>?_)|refine gC ?_|refine gD ?_|refine VIf.mk (fun h=>?_) (fun h=>?_)|refine gO ?_|refine gP ?_|refine VNat.mk _ rfl ?_|refine gV ?_|refine vret_pf rfl ?_|refine vret_take rfl rfl ?_|refine gK ?_)
  all_goals (try (conv=>whnf))
  refine loop_over (G:=Tm × PV × Nat) (fun g=>[(5,iv g.2.2)]) (fun g=>[.box 25 g.2.1.cells]) (fun g=>TmP g.1 g.2.1∧g.2.2 + countR kind g.1=countR kind (.mk k0 nn0 s0 ls0 ts0)) (fun g=>sizT g.1) (.mk k0 nn0 s0 ls0 ts0,.ag [iv k0,iv nn0,sv s0,.sl b0 z0 xs0,.sl c0 y0 ys0],0) ⟨h,by simp⟩ rfl rfl ?_
  rintro ⟨u,w,q⟩ ⟨hu,hall⟩
  dsimp only at hu hall ⊢
  have hq:q ≤ 2000:=by omega
  have hr:=teleRight_can u w hu
  obtain ⟨k,nn,s,ls,ts,b,z,xs,c,y,ys,rfl,rfl,hz,hxs,hlen,hbd1,hy,hys,hlen2,hbd2,hsl⟩:=hu.open
  simp only [PV.cells]
  repeat' ((conv=>whnf);first|refine gT ?_|refine gF ?_|refine VIf.not ?_|refine gA ?_|refine gB ?_|refine VIf.dec (fun h=>?_) (fun h=>?_)|refine gC ?_|refine gD ?_|refine VIf.mk (fun h=>?_) (fun h=>?_)|refine gO ?_|refine gP ?_|refine VNat.mk _ rfl ?_|refine gV ?_|refine vret_pf rfl ?_|refine vret_take rfl rfl ?_|refine vcall_pf hbd rfl rfl ?_|refine vcall_pf hr rfl rfl ?_|refine gK ?_)
  all_goals (try (conv=>whnf))
  · have hb2:binderB kind=true:=decide_eq_true (by assumption)
    obtain ⟨a1,b1,rfl⟩:=any_arg1 (by assumption:anyT (.mk k nn s ls ts)=true) (by omega)
    obtain ⟨v,hv,hl⟩:=hys.at (by rfl:[a1,b1][1]? = some b1)
    have hcr:countR kind (.mk k nn s ls [a1,b1])=countR kind b1 + 1:=by
      rw [countR,if_pos]
      rw [hb2,(by assumption:anyT (.mk k nn s ls [a1,b1])=true),decide_eq_true (by assumption:k=kind)]
      rfl
    rw [hcr] at hall
    obtain ⟨k1,n1,s1,l1,t1,b2,z1,x1,c1,y1,ys1,rfl,rfl,-⟩:=hl.open
    repeat' ((conv=>whnf);first|refine gT ?_|refine gF ?_|refine VIf.not ?_|refine gA ?_|refine gB ?_|refine VIf.dec (fun h=>?_) (fun h=>?_)|refine gC ?_|refine gD ?_|refine VIf.mk (fun h=>?_) (fun h=>?_)|refine gO ?_|refine gP ?_|refine VNat.mk _ rfl ?_|refine gV ?_|refine vret_pf rfl ?_|refine vret_take rfl rfl ?_|refine VIdx.mk _ hv ?_|refine VOk.mk (szOk_of rfl hy) ?_|refine gK ?_)
    all_goals (try (conv=>whnf))
    exact VAgain.mk _ rfl _ (gc_take rfl rfl rfl) ⟨(.mk k1 n1 s1 l1 t1,.ag [iv k1,iv n1,sv s1,.sl b2 z1 x1,.sl c1 y1 ys1],q + 1),⟨hl,by dsimp only; omega⟩,by simp only [sizT,sizTs]; omega,rfl⟩
  all_goals
    have hcr:countR kind (.mk k nn s ls ts)=0:=countR_off (by simp_all [binderB,Tm.kind])
    rw [← hall,hcr]
    rfl
end Go.Proofs.YtehhihdahalfeaaGreatDoor
namespace Go.Proofs.YtehhihdahalfeaaGreatDoor
open Go Go.Am Go.Gw
def splitF (kind:Int):Nat→Tm→Option (List Tm × Tm)
  |0,t=>some ([],t)
  |n + 1,.mk k _ _ _ ts=>match ts with
    |[a,b]=>if k=kind then (splitF kind n b).map fun r=>(a :: r.1,r.2) else none
    |_=>none
def SplitF (t:Tm) (kind n:Int):Option (List Tm × Tm):=if (anyT t && (binderB kind && decide (0 ≤ n)))=true then splitF kind n.toNat t else none
def tz:Tm:=.mk 0 0 [] [] []
def splitV (o:Option (List Tm × Tm)):List PV:=match o with
  |some (l,b)=>[encTv l,encT b,bv true]
  |none=>[.sl true 0 [],encT tz,bv false]
theorem splitF_off {kind k n:Int} {s:List UInt8} {ls:List Lv} {ts:List Tm} {q:Nat} (h:¬ k=kind):splitF kind (q + 1) (.mk k n s ls ts)=none:=by
  unfold splitF
  split
  · rw [if_neg h]
  · rfl
set_option maxHeartbeats 2000000 in
set_option maxRecDepth 100000 in
theorem Split_can (t:Tm) (v:PV) (hT:TmP t v) (kind n:Int):Pf C1 36 [v,iv kind,iv n] (splitV (SplitF t kind n)):=by
  have hbd:=teleBinder_can kind
  have hr:=teleRight_can t v hT
  obtain ⟨k0,nn0,s0,ls0,ts0,b0,z0,xs0,c0,y0,ys0,rfl,rfl,-⟩:=hT.open
  refine run_intro Tryz.func36 rfl rfl rfl ?_
  repeat' ((conv=>whnf);first|refine gT ?_|refine gF ?_|refine VIf.not ?_|refine gA ?_|refine gB ?_|refine VIf.dec (fun h=>?_) (fun h=>?_)|refine gC ?_|refine gD ?_|refine VIf.mk (fun h=>?_) (fun h=>?_)|refine gO ?_|refine gP ?_|refine VNat.mk _ rfl ?_|refine gV ?_|refine vret_pf rfl ?_|refine vret_take rfl rfl ?_|refine vcall_pf hr rfl rfl ?_|refine vcall_pf hbd rfl rfl ?_|refine gK ?_)
  all_goals (try (conv=>whnf))
  · have e:SplitF (.mk k0 nn0 s0 ls0 ts0) kind n=none:=by
      unfold SplitF
      rw [if_neg]
      rw [decide_eq_false (by omega:¬ 0 ≤ n),Bool.and_false,Bool.and_false]
      exact Bool.false_ne_true
    rw [e]
    rfl
  · have hany:anyT (.mk k0 nn0 s0 ls0 ts0)=true:=by assumption
    have hb2:binderB kind=true:=decide_eq_true (by assumption)
    have e:SplitF (.mk k0 nn0 s0 ls0 ts0) kind n=splitF kind n.toNat (.mk k0 nn0 s0 ls0 ts0):=by
      unfold SplitF
      rw [if_pos]
      rw [hany,hb2,decide_eq_true (by omega:0 ≤ n)]
      rfl
    rw [e]
    have hdep:=any_dep hany
    refine loop_over (G:=List Tm × Tm × PV) (fun g=>[(9,match g.1 with
        |[]=>.sl true 0 []
        |a :: r=>.ms 2 (r.length + 1))]) (fun g=>match g.1 with
        |[]=>[.box 25 g.2.2.cells,.box 25 zTm]
        |a :: r=>[.box 25 g.2.2.cells,.box 25 zTm,.row false 25 5 ((a :: r).map encT)]) (fun g=>TmP g.2.1 g.2.2∧(∃ kk,allT g.2.1 4 kk=true)∧(g.1.length:Int) ≤ n∧g.1.length + depT g.2.1 ≤ 2000∧(splitF kind (n.toNat - g.1.length) g.2.1).map (fun r=>(g.1 ++ r.1,r.2))=splitF kind n.toNat (.mk k0 nn0 s0 ls0 ts0)) (fun g=>sizT g.2.1) ([],.mk k0 nn0 s0 ls0 ts0,.ag [iv k0,iv nn0,sv s0,.sl b0 z0 xs0,.sl c0 y0 ys0]) ⟨hT,⟨_,(any_parts hany).2⟩,by simp; omega,by simpa using hdep,by simp⟩ rfl rfl ?_
    rintro ⟨don,u,w⟩ ⟨hu,⟨kk,hall⟩,hln,hdp,hsp⟩
    dsimp only at hu hall hln hdp hsp
    have hround:∀ {k nn:Int} {s:List UInt8} {ls:List Lv} {ts:List Tm},u = .mk k nn s ls ts→k=kind→∃ a b,ts=[a,b]∧(∃ kk,allT b 4 kk=true)∧don.length + 1 + depT b ≤ 2000∧((don.length:Int) < n→(splitF kind (n.toNat - (don.length + 1)) b).map (fun r=>((don ++ [a]) ++ r.1,r.2))=splitF kind n.toNat (.mk k0 nn0 s0 ls0 ts0)):=by
      rintro k nn s ls ts rfl rfl
      obtain ⟨hk17,hlenk,hnode,-,hats⟩:=allT_parts hall
      rw [shArgs,if_pos (by omega)] at hlenk
      obtain ⟨a,b,rfl⟩:∃ a b,ts=[a,b]:=by
        match ts,hlenk with
        |[a,b],_=>exact ⟨a,b,rfl⟩
        |[],h=>simp at h
        |[_],h=>simp at h
        |_ :: _ :: _ :: _,h=>simp at h; omega
      refine ⟨a,b,rfl,⟨_,allTs_at hats (by rfl:[a,b][1]? = some b)⟩,?_,fun hlt=>?_⟩
      · simp only [depT,depTs] at hdp
        omega
      · rw [← hsp,show n.toNat - don.length=(n.toNat - (don.length + 1)) + 1 by omega,splitF]
        simp only [if_true,Option.map_map]
        congr 1
        funext r
        simp
    have hApp:=App_can u w hu true 0
    obtain ⟨k9,n9,s9,b9,z9,x9,c9,y9,ys9,he9⟩:=encT_open u
    obtain ⟨k,nn,s,ls,ts,b,z,xs,c,y,ys,rfl,rfl,hz,hxs,hlen,hbd1,hy,hys,hlen2,hbd2,hsl⟩:=hu.open
    have hoff:¬ k=kind→(don.length:Int) < n→splitF kind n.toNat (.mk k0 nn0 s0 ls0 ts0)=none:=fun hk hlt=>by
      rw [← hsp,show n.toNat - don.length=(n.toNat - (don.length + 1)) + 1 by omega,splitF_off hk]
      rfl
    have hend:¬ (don.length:Int) < n→splitF kind n.toNat (.mk k0 nn0 s0 ls0 ts0)=some (don,.mk k nn s ls ts):=fun hlt=>by
      rw [← hsp,show n.toNat - don.length=0 by omega,splitF]
      simp
    rw [he9] at hApp
    cases don with
    |nil =>
      simp only [PV.cells]
      repeat' ((conv=>whnf);first|refine gT ?_|refine gF ?_|refine VIf.not ?_|refine gA ?_|refine gB ?_|refine VIf.dec (fun h=>?_) (fun h=>?_)|refine gC ?_|refine gD ?_|refine VIf.mk (fun h=>?_) (fun h=>?_)|refine gO ?_|refine gP ?_|refine VNat.mk _ rfl ?_|refine gV ?_|refine vret_pf rfl ?_|refine vret_take rfl rfl ?_|refine vcall_pf hApp rfl rfl ?_|refine gK ?_)
      all_goals (try (conv=>whnf))
      · obtain ⟨a1,b1,rfl,hall1,hdp1,hsp1⟩:=hround rfl (by assumption)
        obtain ⟨va,hva,hla⟩:=hys.at (by rfl:[a1,b1][0]? = some a1)
        obtain ⟨vb,hvb,hlb⟩:=hys.at (by rfl:[a1,b1][1]? = some b1)
        have hAa:=App_can a1 va hla true 0
        obtain ⟨k3,n3,s3,b3,z3,x3,c3,y3,ys3,he3⟩:=encT_open a1
        rw [he3] at hAa
        obtain ⟨k1,n1,s1,l1,t1,b4,z1,x1,c1,y1,ys1,rfl,rfl,-⟩:=hla.open
        obtain ⟨k2,n2,s2,l2,t2,b5,z2,x2,c2,y2,ys2,rfl,rfl,-⟩:=hlb.open
        repeat' ((conv=>whnf);first|refine gT ?_|refine gF ?_|refine VIf.not ?_|refine gA ?_|refine gB ?_|refine VIf.dec (fun h=>?_) (fun h=>?_)|refine gC ?_|refine gD ?_|refine VIf.mk (fun h=>?_) (fun h=>?_)|refine gO ?_|refine gP ?_|refine VNat.mk _ rfl ?_|refine gV ?_|refine vret_pf rfl ?_|refine vret_take rfl rfl ?_|refine VIdx.mk _ hva ?_|refine VIdx.mk _ hvb ?_|refine VOk.mk (szOk_of rfl hy) ?_|refine vcall_pf hAa rfl rfl ?_|refine gK ?_)
        all_goals (try (conv=>whnf))
        have e:[Tm.mk k1 n1 s1 l1 t1].map encT=[.ag [iv k3,iv n3,sv s3,.sl b3 z3 x3,.sl c3 y3 ys3]]:=by rw [List.map_cons,he3]; rfl
        exact VAgain.mk _ rfl _ (gc_sh (.cons (sh_box rfl rfl) (.cons (sh_box rfl rfl) (.cons (sh_row rfl) .nil))) (.cons (sh_box rfl rfl) (.cons (sh_box rfl rfl) (.cons (sh_row rfl) .nil))) rfl rfl rfl rfl rfl) ⟨([Tm.mk k1 n1 s1 l1 t1],Tm.mk k2 n2 s2 l2 t2,.ag [iv k2,iv n2,sv s2,.sl b5 z2 x2,.sl c2 y2 ys2]),⟨hlb,hall1,by dsimp only [List.length]; simp only [List.length_nil] at *; omega,by dsimp only [List.length]; simp only [List.length_nil] at *; omega,hsp1 (by assumption)⟩,by simp only [sizT,sizTs]; omega,congrArg (fun t=>(⟨_,[.box _ _,.box _ zTm,.row false _ 5 t]⟩:AS)) e.symm⟩
      · rw [hoff (by assumption) (by assumption)]
        rfl
      · rw [hend (by assumption)]
        simp only [splitV]
        rw [he9]
        rfl
    |cons d dr =>
      simp only [PV.cells]
      have hbl:Nat.beq (dr.length + 1) ((d :: dr).map encT).length=true:=by simp
      repeat' ((conv=>whnf);first|refine gT ?_|refine gF ?_|refine VIf.not ?_|refine gA ?_|refine gB ?_|refine VIf.dec (fun h=>?_) (fun h=>?_)|refine gC ?_|refine gD ?_|refine VIf.mk (fun h=>?_) (fun h=>?_)|refine gO ?_|refine gP ?_|refine VNat.mk _ rfl ?_|refine gV ?_|refine vret_pf rfl ?_|refine vret_take rfl rfl ?_|refine VOk.mk hbl ?_|refine vcall_pf hApp rfl rfl ?_|refine gK ?_)
      all_goals (try (conv=>whnf))
      · obtain ⟨a1,b1,rfl,hall1,hdp1,hsp1⟩:=hround rfl (by assumption)
        obtain ⟨va,hva,hla⟩:=hys.at (by rfl:[a1,b1][0]? = some a1)
        obtain ⟨vb,hvb,hlb⟩:=hys.at (by rfl:[a1,b1][1]? = some b1)
        have hAa:=App_can a1 va hla true 0
        obtain ⟨k3,n3,s3,b3,z3,x3,c3,y3,ys3,he3⟩:=encT_open a1
        rw [he3] at hAa
        obtain ⟨k1,n1,s1,l1,t1,b4,z1,x1,c1,y1,ys1,rfl,rfl,-⟩:=hla.open
        obtain ⟨k2,n2,s2,l2,t2,b5,z2,x2,c2,y2,ys2,rfl,rfl,-⟩:=hlb.open
        have hdl:dr.length + 2 ≤ 2000:=by simp only [List.length_cons] at hdp1; omega
        have hp8:((d :: dr).map encT ++ [PV.ag [iv k3,iv n3,sv s3,.sl b3 z3 x3,.sl c3 y3 ys3]]).all (pur 8)=true:=by
          rw [← he3,show (d :: dr).map encT ++ [encT (Tm.mk k1 n1 s1 l1 t1)]=(d :: dr ++ [Tm.mk k1 n1 s1 l1 t1]).map encT by simp]
          exact encTs_pure _ 6
        repeat' ((conv=>whnf);first|refine gT ?_|refine gF ?_|refine VIf.not ?_|refine gA ?_|refine gB ?_|refine VIf.dec (fun h=>?_) (fun h=>?_)|refine gC ?_|refine gD ?_|refine VIf.mk (fun h=>?_) (fun h=>?_)|refine gO ?_|refine gP ?_|refine VNat.mk _ rfl ?_|refine gV ?_|refine vret_pf rfl ?_|refine vret_take rfl rfl ?_|refine VIdx.mk _ hva ?_|refine VIdx.mk _ hvb ?_|refine VOk.mk (szOk_of rfl hy) ?_|refine vcall_pf hAa rfl rfl ?_|refine VOk.mk (grow_ok (w:=80) (r:=140737488355328) (by simp:((d :: dr).map encT).length=dr.length + 1) rfl rfl rfl rfl (by simp only [List.length_cons,List.length_nil]; omega) (by simp only [List.length_cons,List.length_nil]; omega)) ?_|refine gK ?_)
        all_goals (try (conv=>whnf))
        have e:(d :: (dr ++ [Tm.mk k1 n1 s1 l1 t1])).map encT=(d :: dr).map encT ++ [.ag [iv k3,iv n3,sv s3,.sl b3 z3 x3,.sl c3 y3 ys3]]:=by rw [← he3]; simp
        have el:(dr ++ [Tm.mk k1 n1 s1 l1 t1]).length + 1=dr.length + 1 + 1:=by simp
        refine VAgain.mk _ rfl _ (gc_sh (.cons (sh_box rfl rfl) (.cons (sh_box rfl rfl) (.cons (sh_row hp8) .nil))) (.cons (sh_box rfl rfl) (.cons (sh_box rfl rfl) (.cons (sh_row hp8) .nil))) rfl rfl rfl rfl rfl) ⟨(d :: (dr ++ [Tm.mk k1 n1 s1 l1 t1]),Tm.mk k2 n2 s2 l2 t2,.ag [iv k2,iv n2,sv s2,.sl b5 z2 x2,.sl c2 y2 ys2]),⟨hlb,hall1,?_,?_,?_⟩,by simp only [sizT,sizTs]; omega,?_⟩
        · simp only [List.length_cons,List.length_append,List.length_nil] at *; omega
        · simp only [List.length_cons,List.length_append,List.length_nil] at *; omega
        · have:=hsp1 (by assumption)
          simp only [List.length_cons,List.length_append,List.length_nil,List.cons_append] at this ⊢
          exact this
        · dsimp only
          rw [e,el]
          rfl
      · rw [hoff (by assumption) (by assumption)]
        rfl
      · rw [hend (by assumption)]
        refine vret_pub rfl (mapS_cons (pubV_row rfl (by simp) (encTs_pure _ 4)) (mapS_cons rfl (mapS_cons rfl mapS_nil))) rfl ?_
        simp only [splitV]
        rw [he9,encTv_pos (by simp)]
  all_goals
    have e:SplitF (.mk k0 nn0 s0 ls0 ts0) kind n=none:=by
      unfold SplitF
      rw [if_neg]
      simp_all [binderB]
    rw [e]
    rfl
end Go.Proofs.YtehhihdahalfeaaGreatDoor
namespace Go.Proofs.YtehhihdahalfeaaGreatDoor
open Go Go.Am Go.Gw
def movedP (by_ from_:Int):PV:=.fn 117 [] [.cp [iv from_],.cp [iv by_]]
/-- a variable by so much more, if it stands out of so many binders -/
def movF (by_ from_:Int) (t:Tm) (d:Int):Option Tm:=if t.kind=1∧¬ t.num < from_ + d then some (.mk 1 (t.num + by_) [] [] []) else none
def putV (o:Option Tm):List PV:=match o with
  |some x=>[encT x,bv true]
  |none=>[encT tz,bv false]
end Go.Proofs.YtehhihdahalfeaaGreatDoor
