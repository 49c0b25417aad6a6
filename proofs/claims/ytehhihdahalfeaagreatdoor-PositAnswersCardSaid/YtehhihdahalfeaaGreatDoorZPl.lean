/-
  Levels and terms as values of the plain machine; strings in it; what a round of a loop leaves. No statement of the seat.
-/
import Derived.Test.YtehhihdahalfeaaGreatDoorZVm
import Derived.Test.YtehhihdahalfeaaGreatDoorZCf
import Derived.Test.YtehhihdahalfeaaGreatDoorZLv
import Derived.Test.YtehhihdahalfeaaGreatDoorZTy
set_option linter.unusedVariables false
set_option linter.unusedSimpArgs false
set_option linter.unnecessarySimpa false
namespace Go.Proofs.YtehhihdahalfeaaGreatDoor
open Go Go.Am Go.Gw
abbrev iv (n:Int):PV:=.sc (.int .i64 n)
abbrev bv (b:Bool):PV:=.sc (.bool b)
mutual
def LvP:Lv→PV→Prop
  | .mk k n ls,v=>∃ b z xs,v = .ag [iv k,iv n,.sl b z xs]∧(z=3∨xs=[])∧LvsP ls xs∧ls.length ≤ 3518437208780
def LvsP:List Lv→List PV→Prop
  |[],xs=>xs=[]
  |l :: r,xs=>∃ v xs',xs=v :: xs'∧LvP l v∧LvsP r xs'
end
theorem LvsP.len:∀ {ls:List Lv} {xs:List PV},LvsP ls xs→xs.length=ls.length
  |[],xs,h=>by simp only [LvsP] at h; simp [h]
  |l :: r,xs,h=>by
    simp only [LvsP] at h
    obtain ⟨v,xs',rfl,_,h⟩:=h
    simp [LvsP.len h]
theorem LvsP.at:∀ {ls:List Lv} {xs:List PV} {i:Nat} {l:Lv},LvsP ls xs→ls[i]? = some l→∃ v,xs[i]? = some v∧LvP l v
  |[],xs,i,l,_,h=>by simp at h
  |x :: r,xs,i,l,h,e=>by
    simp only [LvsP] at h
    obtain ⟨v,xs',rfl,h1,h2⟩:=h
    cases i with
    |zero=>simp at e; subst e; exact ⟨v,rfl,h1⟩
    |succ i=>simpa using LvsP.at h2 (by simpa using e)
theorem LvP.open {l:Lv} {v:PV} (h:LvP l v):∃ k n ls b z xs,l = .mk k n ls∧v = .ag [iv k,iv n,.sl b z xs]∧(z=3∨xs=[])∧LvsP ls xs∧xs.length=ls.length∧ls.length ≤ 3518437208780:=by
  obtain ⟨k,n,ls⟩:=l
  simp only [LvP] at h
  obtain ⟨b,z,xs,rfl,hz,hxs,hb⟩:=h
  exact ⟨k,n,ls,b,z,xs,rfl,rfl,hz,hxs,hxs.len,hb⟩
abbrev sv (l:List UInt8):PV:=.sc (str l)
abbrev svs (l:List (List UInt8)):List PV:=l.map sv
mutual
def TmP:Tm→PV→Prop
  | .mk k n s ls ts,v=>∃ b z xs c y ys,v = .ag [iv k,iv n,sv s,.sl b z xs,.sl c y ys]∧(z=3∨xs=[])∧LvsP ls xs∧ls.length ≤ 3518437208780∧(y=5∨ys=[])∧TmsP ts ys∧ts.length ≤ 1759218604441∧s.length ≤ 140737488355328∧i64 n
def TmsP:List Tm→List PV→Prop
  |[],xs=>xs=[]
  |l :: r,xs=>∃ v xs',xs=v :: xs'∧TmP l v∧TmsP r xs'
end
theorem TmsP.len:∀ {ls:List Tm} {xs:List PV},TmsP ls xs→xs.length=ls.length
  |[],xs,h=>by simp only [TmsP] at h; simp [h]
  |l :: r,xs,h=>by
    simp only [TmsP] at h
    obtain ⟨v,xs',rfl,_,h⟩:=h
    simp [TmsP.len h]
theorem TmsP.at:∀ {ls:List Tm} {xs:List PV} {i:Nat} {l:Tm},TmsP ls xs→ls[i]? = some l→∃ v,xs[i]? = some v∧TmP l v
  |[],xs,i,l,_,h=>by simp at h
  |x :: r,xs,i,l,h,e=>by
    simp only [TmsP] at h
    obtain ⟨v,xs',rfl,h1,h2⟩:=h
    cases i with
    |zero=>simp at e; subst e; exact ⟨v,rfl,h1⟩
    |succ i=>simpa using TmsP.at h2 (by simpa using e)
theorem TmP.open {t:Tm} {v:PV} (h:TmP t v):∃ k n s ls ts b z xs c y ys,t = .mk k n s ls ts∧v = .ag [iv k,iv n,sv s,.sl b z xs,.sl c y ys]∧(z=3∨xs=[])∧LvsP ls xs∧xs.length=ls.length∧ls.length ≤ 3518437208780∧(y=5∨ys=[])∧TmsP ts ys∧ys.length=ts.length∧ts.length ≤ 1759218604441∧s.length ≤ 140737488355328:=by
  obtain ⟨k,n,s,ls,ts⟩:=t
  simp only [TmP] at h
  obtain ⟨b,z,xs,c,y,ys,rfl,hz,hxs,hb,hy,hys,hc,hs,_⟩:=h
  exact ⟨k,n,s,ls,ts,b,z,xs,c,y,ys,rfl,rfl,hz,hxs,hxs.len,hb,hy,hys,hys.len,hc,hs⟩
theorem TmP.num {k n:Int} {s:List UInt8} {ls:List Lv} {ts:List Tm} {v:PV} (h:TmP (.mk k n s ls ts) v):i64 n:=by
  simp only [TmP] at h
  obtain ⟨b,z,xs,c,y,ys,rfl,hz,hxs,hb,hy,hys,hc,hs,hn⟩:=h
  exact hn
/-! operations on strings -/
theorem sadd {P:Program} {T:TypeId} {x y:Operand} {a b:List UInt8} (h:a.length + b.length ≤ 9223372036854775807):slowBin P .add T x y (sv a) (sv b)=some (sv (a ++ b)):=by
  have:¬ (((⟨a.toArray⟩:ByteArray).size + (⟨b.toArray⟩:ByteArray).size:Nat):Int) > IntKind.i64.max:=by
    rw [ba_size,ba_size]
    simp [IntKind.max,IntKind.signed,IntKind.bits]
    omega
  simp only [slowBin,toVal,eqGuard,binOp,Op.stringOp,if_neg this,ba_append]
  rfl
theorem seql {P:Program} {T:TypeId} {x y:Operand} {a b:List UInt8}:slowBin P .eql T x y (sv a) (sv b)=some (bv (a == b)):=by
  simp only [slowBin,toVal,eqGuard,binOp,Op.stringOp,ba_toList]
  rfl
theorem sneq {P:Program} {T:TypeId} {x y:Operand} {a b:List UInt8}:slowBin P .neq T x y (sv a) (sv b)=some (bv (!(a == b))):=by
  simp only [slowBin,toVal,eqGuard,binOp,Op.stringOp,ba_toList]
  rfl
/-- an operation on two strings -/
def strOp (op:BinOp) (a b:List UInt8) (K:PV→Prop):Prop:=match op with
  | .add=>VOk (decide (a.length + b.length ≤ 9223372036854775807)) (K (sv (a ++ b)))
  | .eql=>K (bv (a == b))
  | .neq=>K (bv (!(a == b)))
  |_=>False
theorem vres_str {P:Program} {op:BinOp} {T:TypeId} {x y:Operand} {a b:List UInt8} {K:PV→Prop} (h:strOp op a b K):VRes (slowBin P op T x y (sv a) (sv b)) K:=by
  cases op with
  |add=>exact ⟨_,sadd (of_decide_eq_true h.h),h.k⟩
  |eql=>exact ⟨_,seql,h⟩
  |neq=>exact ⟨_,sneq,h⟩
  |_=>exact h.elim
/-! what a round leaves, where nothing of the store refers to anything of it -/
def plainSO (o:SO):Prop:=idsSO o=[]∧∀ f,soIn f o=true
def PlainL:Sto→Prop
  |[]=>True
  |o :: r=>plainSO o∧PlainL r
theorem PlainL.mem:∀ {st:Sto},PlainL st→∀ o ∈ st,plainSO o
  |[],_,o,h=>by cases h
  |a :: r,h,o,ho=>by
    rcases List.mem_cons.1 ho with rfl|ho
    · exact h.1
    · exact PlainL.mem h.2 o ho
theorem svs_pure (l:List (List UInt8)):(svs l).all (pur 8)=true:=by
  rw [List.all_eq_true]
  intro x hx
  obtain ⟨s,_,rfl⟩:=List.mem_map.1 hx
  rfl
theorem svs_pure6 (l:List (List UInt8)):(svs l).all (pur 6)=true:=by
  rw [List.all_eq_true]
  intro x hx
  obtain ⟨s,_,rfl⟩:=List.mem_map.1 hx
  rfl
/-- there is room for one more -/
theorem grow_ok {n m t t' a b by_ w r:Nat} {xs:List PV} (h:xs.length=n) (ht:Nat.beq t t'=true) (ha:Nat.beq a b=true) (hw:by_=w) (hr:room=r) (h1:m * w ≤ r) (h2:m ≤ r):(Nat.beq n xs.length && Nat.beq t t' && Nat.beq a b && fits m by_)=true:=by
  subst h hw hr
  rw [ht,ha,Nat.beq_refl,fits,Nat.ble_eq_true_of_le h1,Nat.ble_eq_true_of_le h2]
  rfl
/-! the library's functions -/
theorem mapO_svs:∀ (l:List (List UInt8)),mapO Am.strOf (svs l)=some (l.map fun s=>⟨s.toArray⟩)
  |[]=>rfl
  |s :: r=>by
    have:=mapO_svs r
    simp only [svs] at this ⊢
    simp only [List.map_cons,mapO,Am.strOf,this]
theorem map_bl:∀ (l:List (List UInt8)),(l.map fun s=>(⟨s.toArray⟩:ByteArray)).map bl=l
  |[]=>rfl
  |s :: r=>by simp only [List.map_cons,map_bl r,bl]
theorem join_can {b:Bool} {z:Nat} {xs:List (List UInt8)} {sep:List UInt8} (h1:xs.length ≤ 1000000000) (h2:(Lib.join xs sep).length ≤ 1000000000):Pf C1 164 [.sl b z (svs xs),sv sep] [sv (Lib.join xs sep)]:=by
  refine pf_nat rfl ?_
  have e:bl ⟨sep.toArray⟩=sep:=rfl
  simp only [Am.joinF,mapO_svs,map_bl,e]
  rw [show (Nat.ble (xs.map fun s=>(⟨s.toArray⟩:ByteArray)).length 1000000000 && Nat.ble (Lib.join xs sep).length 1000000000)=true by rw [List.length_map,Nat.ble_eq_true_of_le h1,Nat.ble_eq_true_of_le h2]; rfl]
  rfl
end Go.Proofs.YtehhihdahalfeaaGreatDoor
namespace Go.Proofs.YtehhihdahalfeaaGreatDoor
open Go Go.Am Go.Gw
theorem wide_can (k:Int):Pf C1 214 [iv k] [iv (wideF k)]:=by
  refine run_intro Tryz.func214 rfl rfl rfl ?_
  repeat' ((conv=>whnf);first|refine gT ?_|refine gF ?_|refine VIf.not ?_|refine gA ?_|refine gB ?_|refine VIf.dec (fun h=>?_) (fun h=>?_)|refine gC ?_|refine gD ?_|refine VIf.mk (fun h=>?_) (fun h=>?_)|refine gO ?_|refine gP ?_|refine VNat.mk _ rfl ?_|refine gV ?_|refine vret_pf rfl ?_|refine vret_take rfl rfl ?_|refine gK ?_)
  all_goals (try (conv=>whnf))
  all_goals simp_all [wideF]
set_option maxRecDepth 100000 in
theorem node_can (l:Lv) (v:PV) (h:LvP l v) (n:Int):Pf C1 179 [v,iv n] [bv (nodeF l n)]:=by
  obtain ⟨k,nn,ls,b,z,xs,rfl,rfl,hz,hxs,hlen,hbd⟩:=h.open
  refine run_intro Tryz.func179 rfl rfl rfl ?_
  repeat' ((conv=>whnf);first|refine gT ?_|refine gF ?_|refine VIf.not ?_|refine gA ?_|refine gB ?_|refine VIf.dec (fun h=>?_) (fun h=>?_)|refine gC ?_|refine gD ?_|refine VIf.mk (fun h=>?_) (fun h=>?_)|refine gO ?_|refine gP ?_|refine VNat.mk _ rfl ?_|refine gV ?_|refine vret_pf rfl ?_|refine vret_take rfl rfl ?_|refine finds_pf (wide_can _) (fun _=>?_)|refine gK ?_)
  all_goals (try (conv=>whnf))
  all_goals simp_all [wideF,nodeF]
  all_goals omega
set_option maxRecDepth 100000 in
theorem all_can (l:Lv):∀ v,LvP l v→∀ n,Pf C1 136 [v,iv n] [bv (allF l n)]:=by
  induction l using Lv.ind with
  |_ k nn ls ih =>
  intro v h n
  have hnode:=node_can _ _ h n
  obtain ⟨_,_,_,b,z,xs,⟨rfl,rfl,rfl⟩,rfl,hz,hxs,hlen,hbd⟩:=h.open
  refine run_intro Tryz.func136 rfl rfl rfl ?_
  repeat' ((conv=>whnf);first|refine gT ?_|refine gF ?_|refine VIf.not ?_|refine gA ?_|refine gB ?_|refine VIf.dec (fun h=>?_) (fun h=>?_)|refine gC ?_|refine gD ?_|refine VIf.mk (fun h=>?_) (fun h=>?_)|refine gO ?_|refine gP ?_|refine VNat.mk _ rfl ?_|refine gV ?_|refine vret_pf rfl ?_|refine vret_take rfl rfl ?_|refine vcall_pf hnode rfl rfl ?_|refine gK ?_)
  all_goals (try (conv=>whnf))
  · refine loop_over (G:=Nat) (fun i=>[(14,iv i)]) (fun _=>_) (fun i=>i ≤ ls.length∧allFs (ls.drop i) n=allFs ls n) (fun i=>ls.length - i) 0 ⟨by omega,rfl⟩ rfl rfl ?_
    rintro i ⟨hi,hall⟩
    repeat' ((conv=>whnf);first|refine gT ?_|refine gF ?_|refine VIf.not ?_|refine gA ?_|refine gB ?_|refine VIf.dec (fun h=>?_) (fun h=>?_)|refine gC ?_|refine gD ?_|refine VIf.mk (fun h=>?_) (fun h=>?_)|refine gO ?_|refine gP ?_|refine VNat.mk _ rfl ?_|refine gV ?_|refine vret_pf rfl ?_|refine vret_take rfl rfl ?_|refine gK ?_)
    all_goals (try (conv=>whnf))
    · have hi':i < ls.length:=by omega
      obtain ⟨lc,hlc⟩:∃ lc,ls[i]? = some lc:=⟨_,List.getElem?_eq_getElem hi'⟩
      obtain ⟨v,hv,hl⟩:=hxs.at hlc
      have hrec:=ih _ (List.mem_of_getElem? hlc) _ hl n
      obtain ⟨k1,n1,l1,b1,z1,x1,rfl,rfl,hz1,hxs1,hlen1,hbd1⟩:=hl.open
      refine VIdx.mk _ hv (VOk.mk (szOk_of rfl hz) ?_)
      repeat' ((conv=>whnf);first|refine gT ?_|refine gF ?_|refine VIf.not ?_|refine gA ?_|refine gB ?_|refine VIf.dec (fun h=>?_) (fun h=>?_)|refine gC ?_|refine gD ?_|refine VIf.mk (fun h=>?_) (fun h=>?_)|refine gO ?_|refine gP ?_|refine VNat.mk _ rfl ?_|refine gV ?_|refine vret_pf rfl ?_|refine vret_take rfl rfl ?_|refine vcall_pf hrec rfl rfl ?_|refine gK ?_)
      all_goals (try (conv=>whnf))
      · refine VAgain.mk _ rfl _ (gc_take rfl rfl rfl) ⟨i + 1,⟨hi',?_⟩,by omega,rfl⟩
        rw [← hall,drop_at hlc]
        simp [allFs,h]
      · rw [drop_at hlc] at hall
        simp only [allFs] at hall
        have:allFs ls n=false:=by rw [← hall]; simp [h]
        simp [allF,this]
    · have:i=ls.length:=by omega
      subst this
      rw [List.drop_length] at hall
      simp_all [allF,allFs]
  · simp_all [allF]
set_option maxRecDepth 100000 in
theorem count_can (l:Lv):∀ v,LvP l v→∀ (left:Int),0 ≤ left→left ≤ 1000000→Finds C1 178 [v,.bp 0 0] [.box 3 [iv left]] fun r st=>r = .ret []∧st=[.box 3 [iv (countF l left)]]:=by
  induction l using Lv.ind with
  |_ k nn ls ih =>
  intro v h left h0 h1
  obtain ⟨_,_,_,b,z,xs,⟨rfl,rfl,rfl⟩,rfl,hz,hxs,hlen,hbd⟩:=h.open
  refine run_intro Tryz.func178 rfl rfl rfl ?_
  repeat' ((conv=>whnf);first|refine gT ?_|refine gF ?_|refine VIf.not ?_|refine gA ?_|refine gB ?_|refine VIf.dec (fun h=>?_) (fun h=>?_)|refine gC ?_|refine gD ?_|refine VIf.mk (fun h=>?_) (fun h=>?_)|refine gO ?_|refine gP ?_|refine VNat.mk _ rfl ?_|refine gV ?_|refine vret_pf rfl ?_|refine vret_take rfl rfl ?_|refine gK ?_)
  all_goals (try (conv=>whnf))
  refine loop_over (G:=Nat × Int) (fun g=>[(14,iv g.1)]) (fun g=>[.box 3 [iv g.2],_]) (fun g=>g.1 ≤ ls.length∧-1 ≤ g.2∧g.2 ≤ 1000000∧countFs (ls.drop g.1) g.2=countFs ls (left - 1)) (fun g=>ls.length - g.1) (0,left - 1) ⟨by omega,by dsimp only; omega,by dsimp only; omega,rfl⟩ rfl rfl ?_
  rintro ⟨i,lf⟩ ⟨hi,hlf0,hlf1,hall⟩
  dsimp only at hi hlf0 hlf1 hall ⊢
  repeat' ((conv=>whnf);first|refine gT ?_|refine gF ?_|refine VIf.not ?_|refine gA ?_|refine gB ?_|refine VIf.dec (fun h=>?_) (fun h=>?_)|refine gC ?_|refine gD ?_|refine VIf.mk (fun h=>?_) (fun h=>?_)|refine gO ?_|refine gP ?_|refine VNat.mk _ rfl ?_|refine gV ?_|refine vret_pf rfl ?_|refine vret_take rfl rfl ?_|refine gK ?_)
  all_goals (try (conv=>whnf))
  · have hi':i < ls.length:=by omega
    obtain ⟨lc,hlc⟩:∃ lc,ls[i]? = some lc:=⟨_,List.getElem?_eq_getElem hi'⟩
    obtain ⟨v,hv,hl⟩:=hxs.at hlc
    obtain ⟨k1,n1,l1,b1,z1,x1,rfl,rfl,hz1,hxs1,hlen1,hbd1⟩:=hl.open
    refine VIdx.mk _ hv (VOk.mk (szOk_of rfl hz) ?_)
    repeat' ((conv=>whnf);first|refine gT ?_|refine gF ?_|refine VIf.not ?_|refine gA ?_|refine gB ?_|refine VIf.dec (fun h=>?_) (fun h=>?_)|refine gC ?_|refine gD ?_|refine VIf.mk (fun h=>?_) (fun h=>?_)|refine gO ?_|refine gP ?_|refine VNat.mk _ rfl ?_|refine gV ?_|refine vret_pf rfl ?_|refine vret_take rfl rfl ?_|refine gK ?_)
    all_goals (try (conv=>whnf))
    · have:countF (.mk k nn ls) left=lf:=by rw [countF,← hall,countFs_neg _ _ (by omega)]
      exact ⟨rfl,by rw [this]; rfl⟩
    · refine vcall_st rfl rfl rfl rfl rfl rfl (Finds.mono (ih _ (List.mem_of_getElem? hlc) _ hl lf (by omega) (by omega)) ?_)
      rintro _ _ ⟨rfl,rfl⟩
      refine vback rfl ?_
      repeat' ((conv=>whnf);first|refine gT ?_|refine gF ?_|refine VIf.not ?_|refine gA ?_|refine gB ?_|refine VIf.dec (fun h=>?_) (fun h=>?_)|refine gC ?_|refine gD ?_|refine VIf.mk (fun h=>?_) (fun h=>?_)|refine gO ?_|refine gP ?_|refine VNat.mk _ rfl ?_|refine gV ?_|refine vret_pf rfl ?_|refine vret_take rfl rfl ?_|refine gK ?_)
      all_goals (try (conv=>whnf))
      have hcg:=countF_ge (.mk k1 n1 l1) lf (by omega)
      refine VAgain.mk _ rfl _ (gc_take rfl rfl rfl) ⟨(i + 1,countF (.mk k1 n1 l1) lf),⟨hi',by dsimp only; omega,by dsimp only; omega,?_⟩,by dsimp only; omega,rfl⟩
      rw [← hall,drop_at hlc,countFs,if_neg (by omega)]
  · have:countF (.mk k nn ls) left=lf:=by
      obtain rfl:i=ls.length:=by omega
      rw [List.drop_length,countFs] at hall
      rw [countF,← hall]
    exact ⟨rfl,by rw [this]; rfl⟩
set_option maxRecDepth 100000 in
theorem nodes_can (l:Lv) (v:PV) (h:LvP l v):Pf C1 135 [v] [iv (nodesF l)]:=by
  have h0:=h
  obtain ⟨k,nn,ls,b,z,xs,rfl,rfl,hz,hxs,hlen,hbd⟩:=h.open
  have hcg:=countF_ge (.mk k nn ls) 64 (by omega)
  refine run_intro Tryz.func135 rfl rfl rfl ?_
  repeat' ((conv=>whnf);first|refine gT ?_|refine gF ?_|refine VIf.not ?_|refine gA ?_|refine gB ?_|refine VIf.dec (fun h=>?_) (fun h=>?_)|refine gC ?_|refine gD ?_|refine VIf.mk (fun h=>?_) (fun h=>?_)|refine gO ?_|refine gP ?_|refine VNat.mk _ rfl ?_|refine gV ?_|refine vret_pf rfl ?_|refine vret_take rfl rfl ?_|refine gK ?_)
  all_goals (try (conv=>whnf))
  refine vcall_st rfl rfl rfl rfl rfl rfl (Finds.mono (count_can _ _ h0 64 (by omega) (by omega)) ?_)
  rintro _ _ ⟨rfl,rfl⟩
  refine vback rfl ?_
  repeat' ((conv=>whnf);first|refine gT ?_|refine gF ?_|refine VIf.not ?_|refine gA ?_|refine gB ?_|refine VIf.dec (fun h=>?_) (fun h=>?_)|refine gC ?_|refine gD ?_|refine VIf.mk (fun h=>?_) (fun h=>?_)|refine gO ?_|refine gP ?_|refine VNat.mk _ rfl ?_|refine gV ?_|refine vret_pf rfl ?_|refine vret_take rfl rfl ?_|refine gK ?_)
  all_goals (try (conv=>whnf))
  all_goals simp only [nodesF,max_def']
  all_goals simp_all
  all_goals omega
set_option maxRecDepth 100000 in
theorem right_can (l:Lv) (v:PV) (h:LvP l v) (n:Int):Pf C1 94 [v,iv n] [bv (rightF l n)]:=by
  have hn:=nodes_can l v h
  have ha:=all_can l v h n
  obtain ⟨k,nn,ls,b,z,xs,rfl,rfl,hz,hxs,hlen,hbd⟩:=h.open
  refine run_intro Tryz.func94 rfl rfl rfl ?_
  repeat' ((conv=>whnf);first|refine gT ?_|refine gF ?_|refine VIf.not ?_|refine gA ?_|refine gB ?_|refine VIf.dec (fun h=>?_) (fun h=>?_)|refine gC ?_|refine gD ?_|refine VIf.mk (fun h=>?_) (fun h=>?_)|refine gO ?_|refine gP ?_|refine VNat.mk _ rfl ?_|refine gV ?_|refine vret_pf rfl ?_|refine vret_take rfl rfl ?_|refine vcall_pf hn rfl rfl ?_|refine vcall_pf ha rfl rfl ?_|refine gK ?_)
  all_goals (try (conv=>whnf))
  all_goals simp_all [rightF,retV]
  all_goals omega
theorem min_def'' (a b:Int):(if b < a then b else a)=min a b:=by
  by_cases h:b < a
  · rw [if_pos h]; omega
  · rw [if_neg h]; omega
theorem nodes_sizeL (l:Lv):1 ≤ sizeL l:=by cases l; simp [sizeL]
set_option maxRecDepth 100000 in
theorem levelNodes_can (l:Lv):∀ v,LvP l v→∀ (q:Int),0 ≤ q→q ≤ 1000000→Pf C1 56 [v,iv q] [iv (lnF l q)]:=by
  induction l using Lv.ind with
  |_ k nn ls ih =>
  intro v h q h0 h1
  obtain ⟨_,_,_,b,z,xs,⟨rfl,rfl,rfl⟩,rfl,hz,hxs,hlen,hbd⟩:=h.open
  refine run_intro Tryz.func56 rfl rfl rfl ?_
  repeat' ((conv=>whnf);first|refine gT ?_|refine gF ?_|refine VIf.not ?_|refine gA ?_|refine gB ?_|refine VIf.dec (fun h=>?_) (fun h=>?_)|refine gC ?_|refine gD ?_|refine VIf.mk (fun h=>?_) (fun h=>?_)|refine gO ?_|refine gP ?_|refine VNat.mk _ rfl ?_|refine gV ?_|refine vret_pf rfl ?_|refine vret_take rfl rfl ?_|refine gK ?_)
  all_goals (try (conv=>whnf))
  refine loop_over (G:=Nat × Int) (fun g=>[(6,iv g.1),(5,iv g.2)]) (fun g=>_) (fun g=>g.1 ≤ ls.length∧1 ≤ g.2∧g.2 ≤ 2 * q + 2∧lnFs (ls.drop g.1) g.2 q=lnFs ls 1 q) (fun g=>ls.length - g.1) (0,1) ⟨by omega,by dsimp only; omega,by dsimp only; omega,rfl⟩ rfl rfl ?_
  rintro ⟨i,acc⟩ ⟨hi,ha1,ha2,hacc⟩
  dsimp only at hi ha1 ha2 hacc ⊢
  repeat' ((conv=>whnf);first|refine gT ?_|refine gF ?_|refine VIf.not ?_|refine gA ?_|refine gB ?_|refine VIf.dec (fun h=>?_) (fun h=>?_)|refine gC ?_|refine gD ?_|refine VIf.mk (fun h=>?_) (fun h=>?_)|refine gO ?_|refine gP ?_|refine VNat.mk _ rfl ?_|refine gV ?_|refine vret_pf rfl ?_|refine vret_take rfl rfl ?_|refine gK ?_)
  all_goals (try (conv=>whnf))
  · have hi':i < ls.length:=by omega
    obtain ⟨lc,hlc⟩:∃ lc,ls[i]? = some lc:=⟨_,List.getElem?_eq_getElem hi'⟩
    obtain ⟨v,hv,hl⟩:=hxs.at hlc
    have hrec:=ih _ (List.mem_of_getElem? hlc) _ hl q h0 h1
    have hx:=lnF_eq lc q h0
    have hxp:=nodes_sizeL lc
    obtain ⟨k1,n1,l1,b1,z1,x1,rfl,rfl,hz1,hxs1,hlen1,hbd1⟩:=hl.open
    refine VIdx.mk _ hv (VOk.mk (szOk_of rfl hz) ?_)
    repeat' ((conv=>whnf);first|refine gT ?_|refine gF ?_|refine VIf.not ?_|refine gA ?_|refine gB ?_|refine VIf.dec (fun h=>?_) (fun h=>?_)|refine gC ?_|refine gD ?_|refine VIf.mk (fun h=>?_) (fun h=>?_)|refine gO ?_|refine gP ?_|refine VNat.mk _ rfl ?_|refine gV ?_|refine vret_pf rfl ?_|refine vret_take rfl rfl ?_|refine vcall_pf hrec rfl rfl ?_|refine gK ?_)
    all_goals (try (conv=>whnf))
    refine VAgain.mk _ rfl _ (gc_take rfl rfl rfl) ⟨(i + 1,acc + lnF (.mk k1 n1 l1) q),⟨hi',by dsimp only; omega,by dsimp only; omega,?_⟩,by dsimp only; omega,rfl⟩
    rw [← hacc,drop_at hlc,lnFs,if_pos (by omega)]
  all_goals
    have e:lnFs ls 1 q=acc:=by
      rw [← hacc]
      by_cases hil:i < ls.length
      · obtain ⟨lc,hlc⟩:∃ lc,ls[i]? = some lc:=⟨_,List.getElem?_eq_getElem hil⟩
        rw [drop_at hlc,lnFs,if_neg (by omega)]
      · rw [List.drop_of_length_le (by omega),lnFs]
    rw [lnF,e,← min_def'']
end Go.Proofs.YtehhihdahalfeaaGreatDoor
