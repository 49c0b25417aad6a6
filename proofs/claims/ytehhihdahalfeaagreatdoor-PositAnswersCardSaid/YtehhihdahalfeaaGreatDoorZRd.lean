/-
  From walks to rows: a call that leaves all that was there as it was; slices of numbers and levels out of readings.
-/
import Derived.Test.YtehhihdahalfeaaGreatDoorZLv
import Derived.ProofKit
import Derived.OpenShut
import Derived.Carry
import Derived.SizedLaws
import Derived.Deep.Slices
import Derived.Test.YtehhihdahalfeaaGreatDoorZPl
import Derived.Lib.LaidTab
import Derived.Test.YtehhihdahalfeaaGreatDoorRows
import Derived.JoinedOf
import Derived.LaidMore
import Derived.Lay
import Derived.Stop.LaidErr
import Derived.SevenTiedAt
import Derived.Stop.Joined
import Derived.Test.YtehhihdahalfeaaGreatDoorZDi
set_option linter.unusedVariables false
set_option linter.unusedSimpArgs false
set_option linter.unnecessarySimpa false
namespace Go.Gw
open Go Go.ChangeShapes Go.WideShapes Go.ChangeAt Go.RowKit
def memOf (W:World):Mem:=fun b=>W.heap[b]?
section
variable {H:Type} {enc:TypeId × Value→H} {P:Program} {W W':World}
theorem trodAll_below (hl:laidOutB P=true) (hb:Below W.heap.size W W') {sp:Nat→Bool}:∀ {ts:List TypeId} {vs:List Value} {ds:List (DataW H)} {ps:List MemPlace},(∀ t ∈ ts,P.readableRec t=true∧t < P.types.size) →
    DataW.TrodAll enc P W 0 (fun _=>true) true ts vs ds ps→(∀ x ∈ ps,x.block < W.heap.size)→(∀ x ∈ ps,sp x.block=true)→DataW.TrodAll enc P W' 0 sp true ts vs ds ps
  |[],vs,ds,ps,_,h,_,_=>by
    obtain ⟨rfl,rfl,rfl⟩:=trodAll_nil h
    exact trodAll_mk0
  |t :: ts,vs,ds,ps,hts,h,hlt,hsp=>by
    obtain ⟨v,vs',d,ds',p,q,rfl,rfl,rfl,h1,h2⟩:=trodAll_cons h
    have ht:=hts t (by simp)
    exact trodAll_cons_mk (WideElems.Trod_stays hl ht.1 ht.2 h1 (fun x hx=>hb.same (hlt x (List.mem_append_left _ hx))) (fun x hx=>hsp x (List.mem_append_left _ hx)))
      (trodAll_below hl hb (fun t' h'=>hts t' (List.mem_cons_of_mem _ h')) h2 (fun x hx=>hlt x (List.mem_append_right _ hx)) (fun x hx=>hsp x (List.mem_append_right _ hx)))
theorem post_low {f:Func} {s:ChangeSpec} {apart fresh handsOn again:Bool} {args:Array Value} {v:Value} {ds gs:List (DataW H)} {before:List MemPlace}
    (hW:DataW.Whole enc P f.params.toList s.vars apart W args.toList ds gs before) (hb:Below W.heap.size W W') (hl:laidOutB P=true) (hts:∀ t ∈ f.params.toList,P.readableRec t=true∧t < P.types.size)
    (hvars:s.vars=[]) (hargs:(s.fn H (ds ++ gs)).args=ds) (hvs:(s.fn H (ds ++ gs)).vars=[])
    (hres:∀ (b:Nat) (sp:Nat→Bool) (hd:Bool),DataW.TrodAll enc P W' b sp hd f.resultTypes.toList (v.resultList f.resultTypes.size) (s.fn H (ds ++ gs)).results [])
    (hok:∀ (j:Nat) (t:TypeId) (r:Value),f.resultTypes[j]? = some t→(v.resultList f.resultTypes.size)[j]? = some r→Value.okWide P W' .any 0 t r) :
    s.post enc P f apart fresh handsOn again W args v W':=by
  have hlt:=hW.lt
  have hW':=hW
  obtain ⟨p,q,hA,hV,rfl,hz,hn⟩:=hW
  rw [hvars] at hV
  obtain ⟨rfl,rfl⟩:=trodVars_none hV
  simp only [List.append_nil] at hW' hlt hz hn hargs hvs hres ⊢
  have hA':∀ sp:Nat→Bool,(∀ x ∈ p,sp x.block=true)→DataW.TrodAll enc P W' 0 sp true f.params.toList args.toList (s.fn H ds).args p:=fun sp h=>by
    rw [hargs]
    exact trodAll_below hl hb hts hA hlt h
  have hV':∀ sp:Nat→Bool,DataW.TrodVars enc P W' sp s.vars (s.fn H ds).vars []:=fun sp=>by
    rw [hvars,hvs]
    rfl
  refine ⟨ds,[],p,[],p,[],hW',by simpa using hres _ _ _,by simpa using hA' _ (fun x hx=>by simpa using hlt x hx),by simpa using hV' _,hb.frame _,fun _=>?_⟩
  refine ⟨hok,_,_,([] ++ p) ++ [],⟨[] ++ p,[],trodAll_append (hA' _ (fun _ _=>rfl)) (hres _ _ _),hV' _,rfl,?_,?_⟩,?_⟩
  · intro b off hp
    have hp':MemPlace.cell b off ∈ p:=by simpa using hp
    rw [hb.frozen (hlt _ hp')]
    exact hz b off hp'
  · intro ha
    simpa using hn ha
  · intro x hx _
    simpa using hx
theorem rd_cell {a:Addr} {i:Nat} {v:Value} (h:W.cell? (a.add i)=some v):Rd (memOf W) a.block (a.off + i) v∧(i=0→a.spot=none):=by
  unfold World.cell? at h
  have hblk:(a.add i).block=a.block:=by unfold Addr.add; split <;> rfl
  have hoff:(a.add i).off=a.off + i:=by
    unfold Addr.add
    split
    · rename_i e; rw [e]; rfl
    · rfl
  rw [hblk] at h
  split at h
  · rename_i c T fr e
    split at h
    · cases h
    · rename_i hs
      rw [hoff] at h
      refine ⟨⟨c,T,fr,e,h⟩,fun hi=>?_⟩
      subst hi
      simpa [Addr.add] using hs
  · cases h
theorem add_block (a:Addr) (i:Nat):(a.add i).block=a.block:=by unfold Addr.add; split <;> rfl
theorem add_off (a:Addr) (i:Nat):(a.add i).off=a.off + i:=by
  unfold Addr.add
  split
  · rename_i e; rw [e]; rfl
  · rfl
theorem LvsV.of {m:Mem}:∀ {ls:List Lv} {b off:Nat},(∀ i l,ls[i]? = some l→∃ cs,RdN m b (off + i * 3) cs∧LvV m l cs)→LvsV m ls b off
  |[],_,_,_=>trivial
  |l :: r,b,off,h=>by
    refine ⟨by simpa using h 0 l rfl,LvsV.of fun i l' hl=>?_⟩
    have:=h (i + 1) l' (by simpa using hl)
    rwa [show off + (i + 1) * 3=off + 3 + i * 3 by omega] at this
theorem list_of {α:Type} {Q:Nat→α→Prop}:∀ {n:Nat},(∀ i,i < n→∃ x,Q i x)→∃ xs:List α,xs.length=n∧∀ i x,xs[i]? = some x→Q i x
  |0,_=>⟨[],rfl,fun i x h=>by simp at h⟩
  |n + 1,h=>by
    obtain ⟨xs,h1,h2⟩:=list_of (n:=n) fun i hi=>h i (by omega)
    obtain ⟨x,hx⟩:=h n (by omega)
    refine ⟨xs ++ [x],by simp [h1],fun i y hy=>?_⟩
    by_cases hi:i < n
    · rw [List.getElem?_append_left (by omega)] at hy
      exact h2 i y hy
    · have hlt:=(List.getElem?_eq_some_iff.1 hy).1
      simp at hlt
      obtain rfl:i=n:=by omega
      rw [List.getElem?_append_right (by omega),h1] at hy
      simp at hy
      subst hy
      exact hx
theorem weightsAll_mem {e:TypeId}:∀ {ds:List (DataW H)} {d:DataW H} {n:Nat},d ∈ ds→n ∈ d.weights P e→n ∈ DataW.weightsAll P e ds
  |d0 :: r,d,n,hd,hn=>by
    simp only [DataW.weightsAll,List.mem_append]
    rcases List.mem_cons.1 hd with rfl|hd
    · exact .inl hn
    · exact .inr (weightsAll_mem hd hn)
end
end Go.Gw
namespace Go.Proofs.YtehhihdahalfeaaGreatDoor
open Go Go.Am
def memB (W:World):Hb.Mem:=fun b o=>match W.heap[b]? with
  |some (.cells c _ _)=>c[o]?
  |_=>none
theorem memB_rd {W:World} {b o:Nat} {v:Value} (h:Gw.Rd (Gw.memOf W) b o v):memB W b o=some v:=by
  obtain ⟨c,T,fr,h1,h2⟩:=h
  unfold Gw.memOf at h1
  unfold memB
  rw [h1]
  exact h2
theorem memB_sub {W:World} {b o:Nat} {v:Value} (h:memB W b o=some v):∃ c T fr,W.heap[b]? = some (.cells c T fr)∧c[o]? = some v:=by
  unfold memB at h
  split at h
  · rename_i c T fr e
    exact ⟨c,T,fr,e,h⟩
  · cases h
theorem goodB {W:World} (hb:∀ b cs,Hb.base b=some cs→∃ T fr,W.heap[b]? = some (.cells cs T fr)):Hb.Good ⟨W,memB W,Hb.feetOf []⟩ W (memB W) [] :=
  ⟨rfl,rfl,rfl,Nat.le_refl _,fun _ _ _=>rfl,fun b o v h=>memB_sub h,Hb.Mem.le.refl _,fun _ _ _ h=>.inl h,by simp,by simp,.nil,fun b cs h=>⟨hb b cs h,by simp⟩⟩
/-- a call, by what the plain machine finds -/
theorem calls_of_pf {C:Cfg} (hC:∀ n,EvOk C (ev C n)) {f:FuncId} {args rs:List PV} {W:World} {vs:List Value} (h:Pf C f args rs) (hb:∀ b cs,Hb.base b=some cs→∃ T fr,W.heap[b]? = some (.cells cs T fr)) (hr:Rl (memB W) noPh args vs) :
    Calls C.P f vs.toArray W fun e W'=>∃ m' φ' us,e = .returned (Gw.tup us)∧Rl m' φ' rs us∧RowKit.Below W.heap.size W W':=by
  obtain ⟨r,st',rfl,N,hN⟩:=h
  have hs:Sit ⟨W,memB W,Hb.feetOf []⟩ (memB W) noPh [] [] W:=⟨goodB hb,rfl,fun _ _=>rfl⟩
  refine ((hC N).call f args [] _ st' (hN N (Nat.le_refl N)) W (memB W) noPh [] vs hs hr).mono ?_
  rintro e W' ⟨m',φ',μ',_,hs',us,rfl,hus⟩
  refine ⟨m',φ',us,rfl,hus,Good.below hs'.good (fun b ⟨r,hr,_⟩=>by cases hr)⟩
theorem LvsP.of:∀ {zs:List (Gw.Lv × List PV)},(∀ (i:Nat) (z:Gw.Lv × List PV),zs[i]? = some z→LvP z.1 (.ag z.2))→LvsP (zs.map (·.1)) (zs.map fun z=>.ag z.2)
  |[],_=>by simp only [List.map_nil,LvsP]
  |z :: r,h=>by
    simp only [List.map_cons,LvsP]
    exact ⟨_,_,rfl,h 0 z rfl,LvsP.of fun i z' hz=>h (i + 1) z' (by simpa using hz)⟩
section
open Go.Gw Go.ChangeShapes Go.WideShapes Go.ChangeAt Go.RowKit
variable {H:Type} {enc:TypeId × Value→H} {P:Program} {W:World}
/-- a level out of its reading -/
theorem lvp_of {T S I:TypeId} {f0 f1 f2:Field} (hT:P.underlying T=some (.struct #[f0,f1,f2])) (hS:P.underlying S=some (.slice T)) (hI:P.underlying I=some (.int .i64)) (hc:P.cellsOf T=3) (hcS:P.cellsOf S=1) (hcI:P.cellsOf I=1) (hby:P.bytesOf T=40)
    (e0:f0.type=I) (o0:f0.offset=0) (e1:f1.type=I) (o1:f1.offset=1) (e2:f2.type=S) (o2:f2.offset=2) :
    ∀ (fuel:Nat) (cs:List Value) (x:DataW H × List MemPlace),DataW.trod enc P W 0 (fun _=>true) true fuel T cs=some x→(∀ n ∈ x.1.weights P T,n ≤ reachBytes)→∃ l ps,LvP l (.ag ps)∧Rl (memB W) noPh ps cs∧ps.all cell=true∧cs.length=3:=by
  intro fuel
  induction fuel using Nat.strongRecOn with
  |_ fuel ih =>
    intro cs x h hw
    obtain ⟨xs,n,rfl,rfl,hlen,hxs,hf⟩:=DataW.trod_struct hT h
    rw [hc] at hlen
    obtain ⟨c0,c1,c2,rfl⟩:∃ c0 c1 c2,cs=[c0,c1,c2]:=by
      match cs,hlen with
      |[c0,c1,c2],_=>exact ⟨c0,c1,c2,rfl⟩
    obtain ⟨y0,y1,y2,rfl⟩:∃ y0 y1 y2,xs=[y0,y1,y2]:=by
      match xs,hxs with
      |[y0,y1,y2],_=>exact ⟨y0,y1,y2,rfl⟩
    have g0:=hf 0 f0 rfl
    have g1:=hf 1 f1 rfl
    have g2:=hf 2 f2 rfl
    rw [e0,o0,hcI] at g0
    rw [e1,o1,hcI] at g1
    rw [e2,o2,hcS] at g2
    replace g0:DataW.trod enc P W 0 (fun _=>true) true n I [c0]=some y0:=g0
    replace g1:DataW.trod enc P W 0 (fun _=>true) true n I [c1]=some y1:=g1
    replace g2:DataW.trod enc P W 0 (fun _=>true) true n S [c2]=some y2:=g2
    obtain ⟨k,hk,_,wk⟩:=DataW.trod_int hI g0
    obtain ⟨q,hq,_,wq⟩:=DataW.trod_int hI g1
    cases hk
    cases hq
    have hw2:∀ n ∈ y2.1.weights P S,n ≤ reachBytes:=fun u hu=>hw u (by
      simp only [DataW.weights,hT,List.map_cons,List.map_nil]
      refine DataW.weights_mem_each (j:=2) (t:=S) (d:=y2.1) ?_ rfl u hu
      simp [e2])
    rcases DataW.trod_slice hS g2 with ⟨hn,_⟩|⟨a,len,cap,elems,rest,n',rfl,hcs,rfl,_,hl,hmax,hel,hget,hsp,_⟩
    · cases hn
      refine ⟨.mk k q [],[iv k,iv q,.sl false 3 []],?_,.cons (.sc rfl) (.cons (.sc rfl) (.cons ?_ .nil)),rfl,rfl⟩
      · simp only [LvP,LvsP]
        exact ⟨_,_,_,rfl,.inl rfl,rfl,by simp⟩
      · exact R.sl (xs:=[]) (b:=0) (off:=0) (g:=fun _=>[]) (by simp) (by simp) (by unfold maxLen; omega) (by simp) (by simp) (by simp) (by simp)
    · cases hcs
      have hb:=hw2 ((elems.length + rest.length) * 40) (by simp [DataW.weights,hS,hby])
      unfold reachBytes at hb
      have hone:∀ i,i < len→∃ z:(Lv × List PV) × List Value,(LvP z.1.1 (.ag z.1.2)∧Rl (memB W) noPh z.1.2 z.2∧z.1.2.all cell=true∧z.2.length=3∧(∀ j v,z.2[j]? = some v→memB W a.block (a.off + i * 3 + j)=some v))∧(i=0→a.spot=none):=fun i hi=>by
        have h1:=hget i hi
        rw [hc,List.getElem?_eq_getElem (by omega)] at h1
        obtain ⟨cs',h2,h3⟩:=Option.bind_eq_some_iff.1 h1
        obtain ⟨l,ps,hlv,hps,hcell',hl3'⟩:=ih n' (by omega) cs' _ h3 (fun u hu=>hw2 u (by
          simp only [DataW.weights,hS,List.mem_cons,List.mem_append]
          exact .inr (.inl (weightsAll_mem (List.mem_map.2 ⟨_,List.getElem_mem (by omega),rfl⟩) hu))))
        obtain ⟨_,hl3,hcell⟩:=World.cells?_some h2
        have hrd:∀ j,(hj:j < 3)→Gw.Rd (memOf W) a.block (a.off + i * 3 + j) (cs'[j]'(by omega))∧(j=0→(a.add (i * 3)).spot=none):=fun j hj=>by
          have h5:=hcell j hj
          rw [List.getElem?_eq_getElem (by omega)] at h5
          have h4:=rd_cell (a:=a.add (i * 3)) (i:=j) h5
          rw [add_block,add_off] at h4
          exact h4
        refine ⟨((l,ps),cs'),⟨hlv,hps,hcell',hl3',fun j v hj=>?_⟩,fun hi0=>?_⟩
        · obtain ⟨hjl,hv⟩:=List.getElem?_eq_some_iff.1 hj
          have:=(hrd j (by simp only at hjl; omega)).1
          simp only at hv
          rw [hv] at this
          exact memB_rd this
        · have:=(hrd 0 (by omega)).2 rfl
          subst hi0
          simpa [Addr.add] using this
      obtain ⟨zs,hls,hat⟩:=list_of hone
      have hzl:(zs.map fun z=>PV.ag z.1.2).length=len:=by simp [hls]
      refine ⟨.mk k q (zs.map (·.1.1)),[iv k,iv q,.sl false 3 (zs.map fun z=>.ag z.1.2)],?_,.cons (.sc rfl) (.cons (.sc rfl) (.cons ?_ .nil)),rfl,rfl⟩
      · simp only [LvP]
        refine ⟨_,_,_,rfl,.inl rfl,?_,by simp [hls]; omega⟩
        have:=LvsP.of (zs:=zs.map (·.1)) (fun i z hz=>by
          rw [List.getElem?_map] at hz
          obtain ⟨z',hz',rfl⟩:=Option.map_eq_some_iff.1 hz
          exact (hat i z' hz').1.1)
        simpa [Function.comp_def] using this
      · have hsl:=R.sl (m:=memB W) (φ:=noPh) (full:=false) (sz:=3) (xs:=zs.map fun z=>PV.ag z.1.2) (a:=some a) (cap:=cap) a.block a.off (fun i=>((zs[i]?).map (·.2)).getD []) (fun hne=>?_) (by omega) hmax (by simp) (fun i x hx=>?_) (fun i x j c v hx hc' hv=>?_) (fun e=>by cases e)
        · rwa [hzl] at hsl
        · have hpos:0 < len:=by
            rw [← hzl]
            exact List.length_pos_iff.2 hne
          have hspot:=(hat 0 _ (List.getElem?_eq_getElem (by omega))).2 rfl
          obtain ⟨b,off,spot⟩:=a
          obtain rfl:spot=none:=hspot
          rfl
        · rw [List.getElem?_map] at hx
          obtain ⟨z,hz,rfl⟩:=Option.map_eq_some_iff.1 hx
          obtain ⟨⟨_,h2,h3,h4,h5⟩,_⟩:=hat i z hz
          simp only [hz,Option.map_some,Option.getD_some]
          exact ⟨by simp only [PV.cells]; rw [h2.1,h4],h4,h5,h3⟩
        · rw [List.getElem?_map] at hx
          obtain ⟨z,hz,rfl⟩:=Option.map_eq_some_iff.1 hx
          obtain ⟨⟨_,h2,h3,h4,h5⟩,_⟩:=hat i z hz
          simp only [hz,Option.map_some,Option.getD_some] at hv
          exact h2.2 j c v hc' hv
end
end Go.Proofs.YtehhihdahalfeaaGreatDoor
namespace Go.Proofs.YtehhihdahalfeaaGreatDoor
open Go Go.Am
section
open Go.Gw Go.ChangeShapes Go.WideShapes Go.ChangeAt Go.RowKit
variable {H:Type} {enc:TypeId × Value→H} {P:Program} {W:World}
/-- a slice out of its reading -/
theorem slice_of {α:Type} {V:α→PV→Prop} {T S:TypeId} {k by_:Nat} (hS:P.underlying S=some (.slice T)) (hc:P.cellsOf T=k) (hk:0 < k) (hby:P.bytesOf T=by_)
    (n:Nat) (c:Value) (y:DataW H × List MemPlace) (h:DataW.trod enc P W 0 (fun _=>true) true n S [c]=some y) (hw:∀ u ∈ y.1.weights P S,u ≤ reachBytes)
    (ih:∀ n' < n,∀ (cs:List Value) (x:DataW H × List MemPlace),DataW.trod enc P W 0 (fun _=>true) true n' T cs=some x→(∀ u ∈ x.1.weights P T,u ≤ reachBytes)→∃ a ps,V a (.ag ps)∧Rl (memB W) noPh ps cs∧ps.all cell=true∧cs.length=k) :
    ∃ zs:List (α × List PV),(∀ (i:Nat) (z:α × List PV),zs[i]? = some z→V z.1 (.ag z.2))∧R (memB W) noPh (.sl false k (zs.map fun z=>.ag z.2)) c∧zs.length * by_ ≤ reachBytes:=by
  rcases DataW.trod_slice hS h with ⟨hn,_⟩|⟨a,len,cap,elems,rest,n',rfl,hcs,rfl,_,hl,hmax,hel,hget,hsp,_⟩
  · cases hn
    refine ⟨[],by simp,?_,by simp⟩
    exact R.sl (xs:=[]) (b:=0) (off:=0) (g:=fun _=>[]) (by simp) (by simp) (by unfold maxLen; omega) (by simp) (by simp) (by simp) (by simp)
  · cases hcs
    have hb:=hw ((elems.length + rest.length) * by_) (by simp [DataW.weights,hS,hby])
    have hone:∀ i,i < len→∃ z:(α × List PV) × List Value,(V z.1.1 (.ag z.1.2)∧Rl (memB W) noPh z.1.2 z.2∧z.1.2.all cell=true∧z.2.length=k∧(∀ j v,z.2[j]? = some v→memB W a.block (a.off + i * k + j)=some v))∧(i=0→a.spot=none):=fun i hi=>by
      have h1:=hget i hi
      rw [hc,List.getElem?_eq_getElem (by omega)] at h1
      obtain ⟨cs',h2,h3⟩:=Option.bind_eq_some_iff.1 h1
      obtain ⟨l,ps,hlv,hps,hcell',hl3'⟩:=ih n' (by omega) cs' _ h3 (fun u hu=>hw u (by
        simp only [DataW.weights,hS,List.mem_cons,List.mem_append]
        exact .inr (.inl (weightsAll_mem (List.mem_map.2 ⟨_,List.getElem_mem (by omega),rfl⟩) hu))))
      obtain ⟨_,hl3,hcell⟩:=World.cells?_some h2
      have hrd:∀ j,(hj:j < k)→Gw.Rd (memOf W) a.block (a.off + i * k + j) (cs'[j]'(by omega))∧(j=0→(a.add (i * k)).spot=none):=fun j hj=>by
        have h5:=hcell j hj
        rw [List.getElem?_eq_getElem (by omega)] at h5
        have h4:=rd_cell (a:=a.add (i * k)) (i:=j) h5
        rw [add_block,add_off] at h4
        exact h4
      refine ⟨((l,ps),cs'),⟨hlv,hps,hcell',hl3',fun j v hj=>?_⟩,fun hi0=>?_⟩
      · obtain ⟨hjl,hv⟩:=List.getElem?_eq_some_iff.1 hj
        have:=(hrd j (by simp only at hjl; omega)).1
        simp only at hv
        rw [hv] at this
        exact memB_rd this
      · have:=(hrd 0 (by omega)).2 rfl
        subst hi0
        simpa [Addr.add] using this
    obtain ⟨zs,hls,hat⟩:=list_of hone
    have hzl:(zs.map fun z=>PV.ag z.1.2).length=len:=by simp [hls]
    refine ⟨zs.map (·.1),fun i z hz=>?_,?_,?_⟩
    · rw [List.getElem?_map] at hz
      obtain ⟨z',hz',rfl⟩:=Option.map_eq_some_iff.1 hz
      exact (hat i z' hz').1.1
    · rw [List.map_map]
      have hsl:=R.sl (m:=memB W) (φ:=noPh) (full:=false) (sz:=k) (xs:=zs.map fun z=>PV.ag z.1.2) (a:=some a) (cap:=cap) a.block a.off (fun i=>((zs[i]?).map (·.2)).getD []) (fun hne=>?_) (by omega) hmax (by simp) (fun i x hx=>?_) (fun i x j c v hx hc' hv=>?_) (fun e=>by cases e)
      · rw [hzl] at hsl
        exact hsl
      · have hpos:0 < len:=by
          rw [← hzl]
          exact List.length_pos_iff.2 hne
        have hspot:=(hat 0 _ (List.getElem?_eq_getElem (by omega))).2 rfl
        obtain ⟨b,off,spot⟩:=a
        obtain rfl:spot=none:=hspot
        rfl
      · rw [List.getElem?_map] at hx
        obtain ⟨z,hz,rfl⟩:=Option.map_eq_some_iff.1 hx
        obtain ⟨⟨_,h2,h3,h4,h5⟩,_⟩:=hat i z hz
        simp only [hz,Option.map_some,Option.getD_some]
        exact ⟨by simp only [PV.cells]; rw [h2.1,h4],h4,h5,h3⟩
      · rw [List.getElem?_map] at hx
        obtain ⟨z,hz,rfl⟩:=Option.map_eq_some_iff.1 hx
        obtain ⟨⟨_,h2,h3,h4,h5⟩,_⟩:=hat i z hz
        simp only [hz,Option.map_some,Option.getD_some] at hv
        exact h2.2 j c v hc' hv
    · rw [List.length_map,hls,← hel]
      exact Nat.le_trans (Nat.mul_le_mul_right _ (Nat.le_add_right _ _)) hb
theorem TmsP.of:∀ {zs:List (Tm × List PV)},(∀ (i:Nat) (z:Tm × List PV),zs[i]? = some z→TmP z.1 (.ag z.2))→TmsP (zs.map (·.1)) (zs.map fun z=>.ag z.2)
  |[],_=>by simp only [List.map_nil,TmsP]
  |z :: r,h=>by
    simp only [List.map_cons,TmsP]
    exact ⟨_,_,rfl,h 0 z rfl,TmsP.of fun i z' hz=>h (i + 1) z' (by simpa using hz)⟩
/-- a term out of its reading -/
theorem tmp_of {T S L SL I B:TypeId} {f0 f1 f2 f3 f4 g0 g1 g2:Field} (hT:P.underlying T=some (.struct #[f0,f1,f2,f3,f4])) (hS:P.underlying S=some (.slice T)) (hL:P.underlying L=some (.struct #[g0,g1,g2])) (hSL:P.underlying SL=some (.slice L)) (hI:P.underlying I=some (.int .i64)) (hB:P.underlying B=some .string)
    (hc:P.cellsOf T=5) (hcS:P.cellsOf S=1) (hcL:P.cellsOf L=3) (hcSL:P.cellsOf SL=1) (hcI:P.cellsOf I=1) (hcB:P.cellsOf B=1) (hby:P.bytesOf T=80) (hbyL:P.bytesOf L=40)
    (e0:f0.type=I) (o0:f0.offset=0) (e1:f1.type=I) (o1:f1.offset=1) (e2:f2.type=B) (o2:f2.offset=2) (e3:f3.type=SL) (o3:f3.offset=3) (e4:f4.type=S) (o4:f4.offset=4)
    (a0:g0.type=I) (b0:g0.offset=0) (a1:g1.type=I) (b1:g1.offset=1) (a2:g2.type=SL) (b2:g2.offset=2) :
    ∀ (fuel:Nat) (cs:List Value) (x:DataW H × List MemPlace),DataW.trod enc P W 0 (fun _=>true) true fuel T cs=some x→(∀ n ∈ x.1.weights P T,n ≤ reachBytes)→∃ t ps,TmP t (.ag ps)∧Rl (memB W) noPh ps cs∧ps.all cell=true∧cs.length=5:=by
  intro fuel
  induction fuel using Nat.strongRecOn with
  |_ fuel ih =>
    intro cs x h hw
    obtain ⟨xs,n,rfl,rfl,hlen,hxs,hf⟩:=DataW.trod_struct hT h
    rw [hc] at hlen
    obtain ⟨c0,c1,c2,c3,c4,rfl⟩:∃ c0 c1 c2 c3 c4,cs=[c0,c1,c2,c3,c4]:=by
      match cs,hlen with
      |[c0,c1,c2,c3,c4],_=>exact ⟨c0,c1,c2,c3,c4,rfl⟩
    obtain ⟨y0,y1,y2,y3,y4,rfl⟩:∃ y0 y1 y2 y3 y4,xs=[y0,y1,y2,y3,y4]:=by
      match xs,hxs with
      |[y0,y1,y2,y3,y4],_=>exact ⟨y0,y1,y2,y3,y4,rfl⟩
    have g0:=hf 0 f0 rfl
    have g1:=hf 1 f1 rfl
    have g2:=hf 2 f2 rfl
    have g3:=hf 3 f3 rfl
    have g4:=hf 4 f4 rfl
    rw [e0,o0,hcI] at g0
    rw [e1,o1,hcI] at g1
    rw [e2,o2,hcB] at g2
    rw [e3,o3,hcSL] at g3
    rw [e4,o4,hcS] at g4
    replace g0:DataW.trod enc P W 0 (fun _=>true) true n I [c0]=some y0:=g0
    replace g1:DataW.trod enc P W 0 (fun _=>true) true n I [c1]=some y1:=g1
    replace g2:DataW.trod enc P W 0 (fun _=>true) true n B [c2]=some y2:=g2
    replace g3:DataW.trod enc P W 0 (fun _=>true) true n SL [c3]=some y3:=g3
    replace g4:DataW.trod enc P W 0 (fun _=>true) true n S [c4]=some y4:=g4
    obtain ⟨k,hk,_,wk⟩:=DataW.trod_int hI g0
    obtain ⟨q,hq,_,wq⟩:=DataW.trod_int hI g1
    obtain ⟨s,hs,rfl,_⟩:=DataW.trod_string hB g2
    cases hk
    cases hq
    cases hs
    have hwj:∀ (j:Nat) (t:TypeId) (d:DataW H),([f0.type,f1.type,f2.type,f3.type,f4.type]:List TypeId)[j]? = some t→([y0.1,y1.1,.lit (.string s.data.toList),y3.1,y4.1]:List (DataW H))[j]? = some d→∀ n ∈ d.weights P t,n ≤ reachBytes:=fun j t d hj hd u hu=>hw u (by
      simp only [DataW.weights,hT,List.map_cons,List.map_nil]
      exact DataW.weights_mem_each (j:=j) hj hd u hu)
    have hsl:s.data.toList.length ≤ reachBytes:=hwj 2 B _ (by simp [e2]) rfl _ (by simp [DataW.weights])
    have hw3:=hwj 3 SL y3.1 (by simp [e3]) rfl
    have hw4:=hwj 4 S y4.1 (by simp [e4]) rfl
    obtain ⟨ls,hls1,hls2,hls3⟩:=slice_of (V:=LvP) hSL hcL (by omega) hbyL n c3 y3 g3 hw3 (fun n' _ cs' x' hx' hw'=>lvp_of hL hSL hI hcL hcSL hcI hbyL a0 b0 a1 b1 a2 b2 n' cs' x' hx' hw')
    obtain ⟨ts,hts1,hts2,hts3⟩:=slice_of (V:=TmP) hS hc (by omega) hby n c4 y4 g4 hw4 (fun n' hn' cs' x' hx' hw'=>ih n' (by omega) cs' x' hx' hw')
    unfold reachBytes at hsl hls3 hts3
    have hqi:i64 q:=by
      have:(Lit.int .i64 q).wf=true:=wq
      simp [Lit.wf,IntKind.min,IntKind.max,IntKind.signed,IntKind.bits] at this
      unfold i64
      omega
    refine ⟨.mk k q s.data.toList (ls.map (·.1)) (ts.map (·.1)),[iv k,iv q,sv s.data.toList,.sl false 3 (ls.map fun z=>.ag z.2),.sl false 5 (ts.map fun z=>.ag z.2)],?_,.cons (.sc rfl) (.cons (.sc rfl) (.cons ?_ (.cons hls2 (.cons hts2 .nil)))),rfl,rfl⟩
    · simp only [TmP]
      exact ⟨_,_,_,_,_,_,rfl,.inl rfl,LvsP.of hls1,by rw [List.length_map]; omega,.inl rfl,TmsP.of hts1,by rw [List.length_map]; omega,by omega,hqi⟩
    · rw [str_of s]
      exact .sc rfl
end
end Go.Proofs.YtehhihdahalfeaaGreatDoor
namespace Go.Proofs.YtehhihdahalfeaaGreatDoor
open Go Go.ChangeShapes Go.WideShapes Go.ChangeAt Go.RowKit
set_option linter.unusedVariables false
theorem rowOwn:ownKnob Tryz.prog.godebug=none:=by kernel_rfl
theorem rowLaid:laidOutB Tryz.prog=true:=by kernel_rfl
theorem readInt:Tryz.prog.readableRec 3=true∧3 < Tryz.prog.types.size:=⟨by kernel_rfl,of_decide_eq_true (by kernel_rfl)⟩
theorem readTerm:Tryz.prog.readableRec 25=true∧25 < Tryz.prog.types.size:=⟨by kernel_rfl,of_decide_eq_true (by kernel_rfl)⟩
set_option maxRecDepth 100000 in
theorem base_of {W:World} (h:laidMetH Tryz.prog Rows.teleBackRow.laid W):∀ b cs,Hb.base b=some cs→∃ T fr,W.heap[b]? = some (.cells cs T fr):=by
  rw [MakeChecks.laidMetH_plain _ _ _ (by kernel_rfl)] at h
  have h2:laidMet Tryz.prog (("internal/strconv.uint64pow10",Lib.tabData .u64 Lib.pow10Tab) :: Rows.teleBackRow.laid.drop 3) W:=laidMet.tail (laidMet.tail h)
  have ht:=Lib.tabIs_of_head (g:=0) (by kernel_rfl) (by kernel_rfl) Tryz.underlying230 Tryz.underlying197 (by kernel_rfl) (by kernel_rfl) h2
  intro b cs hb
  unfold Hb.base at hb
  split at hb
  · rename_i e
    subst e
    cases hb
    unfold Lib.TabIs World.var? at ht
    rw [show Tryz.prog.globalNamed "internal/strconv.uint64pow10" = some 0 by kernel_rfl,Option.bind_some] at ht
    split at ht
    · rename_i c T fr e
      cases ht
      exact ⟨T,fr,e⟩
    · cases ht
  · cases hb
section
variable {H:Type} {enc:TypeId × Value→H} {W:World} {r:Reach} {b0:Nat} {v:Value} {d:DataW H} {ps:List MemPlace}
set_option maxRecDepth 100000 in
theorem term_arg (hv:Value.okWide Tryz.prog W r b0 25 v) (h:DataW.Trod enc Tryz.prog W 0 (fun _=>true) true 25 v d ps) (hw:∀ n ∈ d.weights Tryz.prog 25,n ≤ reachBytes) :
    ∃ t pv,TmP t pv∧Am.R (memB W) Am.noPh pv v:=by
  obtain ⟨cs,rfl,hsz⟩:=okWide_struct Tryz.underlying25 hv
  obtain ⟨fuel,hf⟩:=h
  obtain ⟨l,ps,h1,h2,h3,h4⟩:=tmp_of Tryz.underlying25 Tryz.underlying23 Tryz.underlying50 Tryz.underlying22 Tryz.underlying3 Tryz.underlying9 (by kernel_rfl) (by kernel_rfl) (by kernel_rfl) (by kernel_rfl) (by kernel_rfl) (by kernel_rfl) (by kernel_rfl) (by kernel_rfl) rfl rfl rfl rfl rfl rfl rfl rfl rfl rfl rfl rfl rfl rfl rfl rfl fuel _ _ hf hw
  refine ⟨l,.ag ps,h1,?_⟩
  have h2':Am.Rl (memB W) Am.noPh ps cs.toList:=by simpa [Value.cells] using h2
  have:=Am.R.ag h2'.1 h3 h2'.2
  simpa using this
set_option maxRecDepth 100000 in
theorem int_arg (hv:Value.okWide Tryz.prog W r b0 3 v) (h:DataW.Trod enc Tryz.prog W 0 (fun _=>true) true 3 v d ps):∃ n,Am.R (memB W) Am.noPh (iv n) v∧Gw.i64 n:=by
  obtain ⟨a0,rfl,rfl,rfl,w0⟩:=open_int Tryz.underlying3 hv h
  refine ⟨a0,.sc rfl,?_⟩
  simp [Lit.wf,IntKind.min,IntKind.max,IntKind.signed,IntKind.bits] at w0
  unfold Gw.i64
  omega
end
end Go.Proofs.YtehhihdahalfeaaGreatDoor
namespace Go.Proofs.YtehhihdahalfeaaGreatDoor
open Go Go.ChangeShapes Go.WideShapes Go.ChangeAt Go.RowKit Go.Am Go.Gw
set_option linter.unusedVariables false
section
variable {H:Type} {enc:TypeId × Value→H} {W:World} {r:Reach} {b0:Nat} {v:Value} {d:DataW H} {ps:List MemPlace}
theorem readDecl:Tryz.prog.readableRec 46=true∧46 < Tryz.prog.types.size:=⟨by kernel_rfl,of_decide_eq_true (by kernel_rfl)⟩
set_option maxRecDepth 100000 in
theorem term_of (fuel:Nat) (cs:List Value) (x:DataW H × List MemPlace) (h:DataW.trod enc Tryz.prog W 0 (fun _=>true) true fuel 25 cs=some x) (hw:∀ n ∈ x.1.weights Tryz.prog 25,n ≤ reachBytes):∃ t ps,TmP t (.ag ps)∧Rl (memB W) noPh ps cs∧ps.all cell=true∧cs.length=5 :=
  tmp_of Tryz.underlying25 Tryz.underlying23 Tryz.underlying50 Tryz.underlying22 Tryz.underlying3 Tryz.underlying9 (by kernel_rfl) (by kernel_rfl) (by kernel_rfl) (by kernel_rfl) (by kernel_rfl) (by kernel_rfl) (by kernel_rfl) (by kernel_rfl) rfl rfl rfl rfl rfl rfl rfl rfl rfl rfl rfl rfl rfl rfl rfl rfl fuel cs x h hw
set_option maxRecDepth 100000 in
theorem ctor_of (fuel:Nat) (cs:List Value) (x:DataW H × List MemPlace) (h:DataW.trod enc Tryz.prog W 0 (fun _=>true) true fuel 72 cs=some x) (hw:∀ n ∈ x.1.weights Tryz.prog 72,n ≤ reachBytes):∃ c ps,LoP c (.ag ps)∧Rl (memB W) noPh ps cs∧ps.all cell=true∧cs.length=6:=by
  have hT:=Tryz.underlying72
  obtain ⟨xs,n,rfl,rfl,hlen,hxs,hf⟩:=DataW.trod_struct hT h
  rw [show Tryz.prog.cellsOf 72=6 by kernel_rfl] at hlen
  obtain ⟨c0,c1,c2,c3,c4,c5,rfl⟩:∃ c0 c1 c2 c3 c4 c5,cs=[c0,c1,c2,c3,c4,c5]:=by
    match cs,hlen with
    |[c0,c1,c2,c3,c4,c5],_=>exact ⟨c0,c1,c2,c3,c4,c5,rfl⟩
  obtain ⟨y0,y1,rfl⟩:∃ y0 y1,xs=[y0,y1]:=by
    match xs,hxs with
    |[y0,y1],_=>exact ⟨y0,y1,rfl⟩
  have g0:DataW.trod enc Tryz.prog W 0 (fun _=>true) true n 9 (([c0,c1,c2,c3,c4,c5].drop 0).take (Tryz.prog.cellsOf 9))=some y0:=hf 0 _ rfl
  have g1:DataW.trod enc Tryz.prog W 0 (fun _=>true) true n 25 (([c0,c1,c2,c3,c4,c5].drop 1).take (Tryz.prog.cellsOf 25))=some y1:=hf 1 _ rfl
  rw [show Tryz.prog.cellsOf 9=1 by kernel_rfl] at g0
  rw [show Tryz.prog.cellsOf 25=5 by kernel_rfl] at g1
  replace g0:DataW.trod enc Tryz.prog W 0 (fun _=>true) true n 9 [c0]=some y0:=g0
  replace g1:DataW.trod enc Tryz.prog W 0 (fun _=>true) true n 25 [c1,c2,c3,c4,c5]=some y1:=g1
  obtain ⟨s,hs,rfl,_⟩:=DataW.trod_string Tryz.underlying9 g0
  cases hs
  have hwj:∀ (j:Nat) (t:TypeId) (d:DataW H),([9,25]:List TypeId)[j]? = some t→([.lit (.string s.data.toList),y1.1]:List (DataW H))[j]? = some d→∀ n ∈ d.weights Tryz.prog t,n ≤ reachBytes:=fun j t d hj hd u hu=>hw u (by
    simp only [DataW.weights,hT,List.map_cons,List.map_nil]
    exact DataW.weights_mem_each (j:=j) hj hd u hu)
  have hsl:s.data.toList.length ≤ reachBytes:=hwj 0 9 _ rfl rfl _ (by simp [DataW.weights])
  have hw1:=hwj 1 25 y1.1 rfl rfl
  obtain ⟨t,ps,h1,h2,h3,h4⟩:=term_of n _ y1 g1 hw1
  unfold reachBytes at hsl
  refine ⟨(s.data.toList,t),sv s.data.toList :: ps,⟨ps,rfl,h1,by dsimp only; omega⟩,.cons ?_ h2,?_,rfl⟩
  · rw [str_of s]
    exact .sc rfl
  · rw [List.all_cons,h3]
    rfl
theorem LosP.of:∀ {zs:List ((List UInt8 × Tm) × List PV)},(∀ (i:Nat) (z:(List UInt8 × Tm) × List PV),zs[i]? = some z→LoP z.1 (.ag z.2))→LosP (zs.map (·.1)) (zs.map fun z=>.ag z.2)
  |[],_=>by simp only [List.map_nil,LosP]
  |z :: r,h=>by
    simp only [List.map_cons,LosP]
    exact ⟨_,_,rfl,h 0 z rfl,LosP.of fun i z' hz=>h (i + 1) z' (by simpa using hz)⟩
set_option maxRecDepth 100000 in
theorem decl_of (fuel:Nat) (cs:List Value) (x:DataW H × List MemPlace) (h:DataW.trod enc Tryz.prog W 0 (fun _=>true) true fuel 46 cs=some x) (hw:∀ n ∈ x.1.weights Tryz.prog 46,n ≤ reachBytes):∃ c ps,DcP c (.ag ps)∧Rl (memB W) noPh ps cs∧ps.all cell=true∧cs.length=15:=by
  have hT:=Tryz.underlying46
  obtain ⟨xs,n,rfl,rfl,hlen,hxs,hf⟩:=DataW.trod_struct hT h
  rw [show Tryz.prog.cellsOf 46=15 by kernel_rfl] at hlen
  obtain ⟨c0,c1,c2,c3,c4,c5,c6,c7,c8,c9,c10,c11,c12,c13,c14,rfl⟩:∃ c0 c1 c2 c3 c4 c5 c6 c7 c8 c9 c10 c11 c12 c13 c14,cs=[c0,c1,c2,c3,c4,c5,c6,c7,c8,c9,c10,c11,c12,c13,c14]:=by
    match cs,hlen with
    |[c0,c1,c2,c3,c4,c5,c6,c7,c8,c9,c10,c11,c12,c13,c14],_=>exact ⟨c0,c1,c2,c3,c4,c5,c6,c7,c8,c9,c10,c11,c12,c13,c14,rfl⟩
  obtain ⟨y0,y1,y2,y3,y4,y5,y6,rfl⟩:∃ y0 y1 y2 y3 y4 y5 y6,xs=[y0,y1,y2,y3,y4,y5,y6]:=by
    match xs,hxs with
    |[y0,y1,y2,y3,y4,y5,y6],_=>exact ⟨y0,y1,y2,y3,y4,y5,y6,rfl⟩
  have g0:DataW.trod enc Tryz.prog W 0 (fun _=>true) true n 3 (([c0,c1,c2,c3,c4,c5,c6,c7,c8,c9,c10,c11,c12,c13,c14].drop 0).take (Tryz.prog.cellsOf 3))=some y0:=hf 0 _ rfl
  have g1:DataW.trod enc Tryz.prog W 0 (fun _=>true) true n 3 (([c0,c1,c2,c3,c4,c5,c6,c7,c8,c9,c10,c11,c12,c13,c14].drop 1).take (Tryz.prog.cellsOf 3))=some y1:=hf 1 _ rfl
  have g2:DataW.trod enc Tryz.prog W 0 (fun _=>true) true n 9 (([c0,c1,c2,c3,c4,c5,c6,c7,c8,c9,c10,c11,c12,c13,c14].drop 2).take (Tryz.prog.cellsOf 9))=some y2:=hf 2 _ rfl
  have g3:DataW.trod enc Tryz.prog W 0 (fun _=>true) true n 25 (([c0,c1,c2,c3,c4,c5,c6,c7,c8,c9,c10,c11,c12,c13,c14].drop 3).take (Tryz.prog.cellsOf 25))=some y3:=hf 3 _ rfl
  have g4:DataW.trod enc Tryz.prog W 0 (fun _=>true) true n 25 (([c0,c1,c2,c3,c4,c5,c6,c7,c8,c9,c10,c11,c12,c13,c14].drop 8).take (Tryz.prog.cellsOf 25))=some y4:=hf 4 _ rfl
  have g5:DataW.trod enc Tryz.prog W 0 (fun _=>true) true n 3 (([c0,c1,c2,c3,c4,c5,c6,c7,c8,c9,c10,c11,c12,c13,c14].drop 13).take (Tryz.prog.cellsOf 3))=some y5:=hf 5 _ rfl
  have g6:DataW.trod enc Tryz.prog W 0 (fun _=>true) true n 44 (([c0,c1,c2,c3,c4,c5,c6,c7,c8,c9,c10,c11,c12,c13,c14].drop 14).take (Tryz.prog.cellsOf 44))=some y6:=hf 6 _ rfl
  rw [show Tryz.prog.cellsOf 3=1 by kernel_rfl] at g0 g1 g5
  rw [show Tryz.prog.cellsOf 9=1 by kernel_rfl] at g2
  rw [show Tryz.prog.cellsOf 25=5 by kernel_rfl] at g3 g4
  rw [show Tryz.prog.cellsOf 44=1 by kernel_rfl] at g6
  replace g0:DataW.trod enc Tryz.prog W 0 (fun _=>true) true n 3 [c0]=some y0:=g0
  replace g1:DataW.trod enc Tryz.prog W 0 (fun _=>true) true n 3 [c1]=some y1:=g1
  replace g2:DataW.trod enc Tryz.prog W 0 (fun _=>true) true n 9 [c2]=some y2:=g2
  replace g3:DataW.trod enc Tryz.prog W 0 (fun _=>true) true n 25 [c3,c4,c5,c6,c7]=some y3:=g3
  replace g4:DataW.trod enc Tryz.prog W 0 (fun _=>true) true n 25 [c8,c9,c10,c11,c12]=some y4:=g4
  replace g5:DataW.trod enc Tryz.prog W 0 (fun _=>true) true n 3 [c13]=some y5:=g5
  replace g6:DataW.trod enc Tryz.prog W 0 (fun _=>true) true n 44 [c14]=some y6:=g6
  obtain ⟨k,hk,_,wk⟩:=DataW.trod_int Tryz.underlying3 g0
  obtain ⟨p,hp,_,wp⟩:=DataW.trod_int Tryz.underlying3 g1
  obtain ⟨fx,hx,_,wx⟩:=DataW.trod_int Tryz.underlying3 g5
  obtain ⟨s,hs,rfl,_⟩:=DataW.trod_string Tryz.underlying9 g2
  cases hk
  cases hp
  cases hx
  cases hs
  have hwj:∀ (j:Nat) (t:TypeId) (d:DataW H),([3,3,9,25,25,3,44]:List TypeId)[j]? = some t→([y0.1,y1.1,.lit (.string s.data.toList),y3.1,y4.1,y5.1,y6.1]:List (DataW H))[j]? = some d→∀ n ∈ d.weights Tryz.prog t,n ≤ reachBytes:=fun j t d hj hd u hu=>hw u (by
    simp only [DataW.weights,hT,List.map_cons,List.map_nil]
    exact DataW.weights_mem_each (j:=j) hj hd u hu)
  have hsl:s.data.toList.length ≤ reachBytes:=hwj 2 9 _ rfl rfl _ (by simp [DataW.weights])
  have hw3:=hwj 3 25 y3.1 rfl rfl
  have hw4:=hwj 4 25 y4.1 rfl rfl
  have hw6:=hwj 6 44 y6.1 rfl rfl
  obtain ⟨ty,p3,t1,t2,t3,-⟩:=term_of n _ y3 g3 hw3
  obtain ⟨vl,p4,v1,v2,v3,-⟩:=term_of n _ y4 g4 hw4
  obtain ⟨zs,z1,z2,z3⟩:=slice_of (V:=LoP) Tryz.underlying44 (show Tryz.prog.cellsOf 72=6 by kernel_rfl) (by omega) (show Tryz.prog.bytesOf 72=96 by kernel_rfl) n c14 y6 g6 hw6 (fun n' _ cs' x' hx' hw'=>ctor_of n' cs' x' hx' hw')
  unfold reachBytes at hsl z3
  have hi:∀ {q:Int},(Lit.int .i64 q).wf=true→Gw.i64 q:=fun {q} this=>by
    simp [Lit.wf,IntKind.min,IntKind.max,IntKind.signed,IntKind.bits] at this
    unfold Gw.i64
    omega
  obtain ⟨u1,u2,u3,u4,u5,u6,u7,u8,u9,u10,u11,heq1,hpv1,-⟩:=t1.open
  obtain ⟨x1,x2,x3,x4,x5,x6,x7,x8,x9,x10,x11,heq2,hpv2,-⟩:=v1.open
  injection hpv1 with hpv1
  injection hpv2 with hpv2
  subst hpv1 hpv2
  refine ⟨⟨k,p,s.data.toList,ty,vl,fx,zs.map (·.1)⟩,_,.mk k p s.data.toList ty vl fx (zs.map (·.1)) _ _ _ _ _ _ _ _ _ _ _ _ _ _ _ _ _ _ false 6 (zs.map fun z=>.ag z.2) t1 v1 (.inl rfl) (LosP.of z1) (by rw [List.length_map]; omega) (by omega) (hi wk) (hi wp) (hi wx),.cons (.sc rfl) (.cons (.sc rfl) (.cons ?_ (t2.append (v2.append (.cons (.sc rfl) (.cons z2 .nil)))))),rfl,rfl⟩
  rw [str_of s]
  exact .sc rfl
set_option maxRecDepth 100000 in
theorem decl_arg (hv:Value.okWide Tryz.prog W r b0 46 v) (h:DataW.Trod enc Tryz.prog W 0 (fun _=>true) true 46 v d ps) (hw:∀ n ∈ d.weights Tryz.prog 46,n ≤ reachBytes) :
    ∃ t pv,DcP t pv∧Am.R (memB W) Am.noPh pv v:=by
  obtain ⟨cs,rfl,hsz⟩:=okWide_struct Tryz.underlying46 hv
  obtain ⟨fuel,hf⟩:=h
  obtain ⟨l,ps,h1,h2,h3,h4⟩:=decl_of fuel _ _ hf hw
  refine ⟨l,.ag ps,h1,?_⟩
  have h2':Am.Rl (memB W) Am.noPh ps cs.toList:=by simpa [Value.cells] using h2
  have:=Am.R.ag h2'.1 h3 h2'.2
  simpa using this
end
end Go.Proofs.YtehhihdahalfeaaGreatDoor
