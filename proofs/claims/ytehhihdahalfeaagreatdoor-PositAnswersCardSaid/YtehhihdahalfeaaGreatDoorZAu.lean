/-
  Operations of the plain machine that act: the model's do the same. Plain lemmas, no statement of the seat.
-/
import Derived.Test.YtehhihdahalfeaaGreatDoorZAq
set_option linter.unusedVariables false
set_option linter.unusedSimpArgs false
set_option linter.unnecessarySimpa false
namespace Go.Am
open Go Go.Hb
open Go.Gw (tk tf tz tsl tar tpl isAggD)
/-- a place for one thing more -/
def more (φ:Ph) (id:Nat) (p:Phi):Ph:=fun j=>if j=id then some p else φ j
theorem more_self (φ:Ph) (id:Nat) (p:Phi):more φ id p id=some p:=by simp [more]
theorem more_other {φ:Ph} {id j:Nat} {p:Phi} (h:j ≠ id):more φ id p j=φ j:=by simp [more,h]
theorem le_more {φ:Ph} {id:Nat} {p:Phi} (h:φ id=none):Le φ (more φ id p):=fun j=>by
  by_cases e:j=id
  · subst e; exact ⟨fun b hb=>(by rw [h] at hb; cases hb),fun sv n sz hb=>(by rw [h] at hb; cases hb)⟩
  · rw [more_other e]; exact Le.refl φ j
section
variable {P:Program} {E:Entry} {m:Mem} {φ:Ph} {μ:Own} {st:Sto} {ρ:AEnv} {a:Act} {w:World} {dst:Option Nat} {ty:TypeId} {pos:String} {after:Array Edge} {gd:Option (Nat × Bool)}
/-- what is known behind an operation that acts -/
def Acts (P:Program) (E:Entry) (m:Mem) (φ:Ph) (st:Sto) (w:World) (a:Act) (o:Oper):AR→Prop
  | .val x st'=>∃ v w' m' φ' μ',(execOp a.eval o).run P w = .ok (.value v) w'∧Mem.le m m'∧Ext st st' φ φ'∧Sit E m' φ' μ' st' w'∧R m' φ' x v
  | .unit st'=>∃ w' m' φ' μ',(execOp a.eval o).run P w = .ok .skip w'∧Mem.le m m'∧Ext st st' φ φ'∧Sit E m' φ' μ' st' w'
  | .pan x st'=>∃ v w' m' φ' μ',(execOp a.eval o).run P w = .halt (.panic v) w'∧Mem.le m m'∧Ext st st' φ φ'∧Sit E m' φ' μ' st' w'∧R m' φ' x v
/-- a new thing of the store -/
theorem Sit.push {w':World} {p:Phi} {o:SO} {r:Res} (hs:Sit E m φ μ st w) (hg:Hb.Good E w' m (r :: μ)) (ho:SRo m (more φ st.length p) st.length o [r]):Sit E m (more φ st.length p) (μ ++ [r]) (st ++ [o]) w'∧Ext st (st ++ [o]) φ (more φ st.length p):=by
  have hle:Le φ (more φ st.length p):=le_more (hs.dom _ (Nat.le_refl _))
  refine ⟨⟨hg.perm (List.perm_append_singleton r μ).symm,SR.snoc (hs.sto.mono (Mem.le.refl m) hle fun id _ h=>more_other (by omega)) (by rw [Nat.zero_add]; exact ho),fun id h=>?_⟩,⟨hle,by simp,fun id h=>?_⟩⟩
  · simp only [List.length_append,List.length_cons,List.length_nil] at h
    rw [more_other (by omega)]
    exact hs.dom id (by omega)
  · have hlt:=(List.getElem?_eq_some_iff.1 h).1
    rw [List.getElem?_append_left hlt,more_other (by omega)]
    exact ⟨h,rfl⟩
theorem run_newVar {T:TypeId} {v:Value}:(newVar T v).run P w = .ok ⟨w.heap.size,0,none⟩ { w with heap:=w.heap.push (.cells v.cells T (0,0)) }:=by
  simp [newVar,newRow,newObj,Sem.run]
theorem box_sit {T:TypeId} {cs:List PV} {v:Value} (hs:Sit E m φ μ st w) (hr:Rl m φ cs v.cells.toList) (hc:cs.all cell=true) :
    ∃ φ' μ',Ext st (st ++ [.box T cs]) φ φ'∧Sit E m φ' μ' (st ++ [.box T cs]) { w with heap:=w.heap.push (.cells v.cells T (0,0)) }∧φ' st.length=some (.blk w.heap.size):=by
  have hg:=hs.good.new (.cells v.cells T (0,0))
  obtain ⟨h1,h2⟩:=hs.push (p:=.blk w.heap.size) (o:=.box T cs) (r:=bx w.heap.size T v.cells.toList) (w':={ w with heap:=w.heap.push (.cells v.cells T (0,0)) }) (by simpa using hg)
    ⟨w.heap.size,v.cells.toList,more_self _ _ _,rfl,hr.mono (Mem.le.refl m) (le_more (hs.dom _ (Nat.le_refl _))),hc⟩
  exact ⟨_,_,h2,h1,more_self _ _ _⟩
theorem acts_box {T:TypeId} {x:Operand} {r:AR} (hs:Sit E m φ μ st w) (h:EnvR m φ ρ a) (hx:sBox ρ st T x=some r):Acts P E m φ st w a ⟨dst,.box T x,ty,pos,after,gd⟩ r:=by
  unfold sBox at hx
  split at hx
  · rename_i v hv
    split at hx
    · rename_i hc
      cases hx
      obtain ⟨φ',μ',h1,h2,h3⟩:=box_sit (T:=T) hs (cells_R (aval_R h hv)) hc
      refine ⟨.pointer (some ⟨w.heap.size,0,none⟩),_,m,φ',μ',?_,Mem.le.refl m,h1,h2,.bp h3⟩
      simp [execOp,Instr.box,run_newVar]
    · cases hx
  · cases hx
theorem acts_alloc {T:TypeId} {r:AR} (hs:Sit E m φ μ st w) (hx:sAlloc P st T=some r):Acts P E m φ st w a ⟨dst,.alloc T,ty,pos,after,gd⟩ r:=by
  unfold sAlloc at hx
  split at hx
  · rename_i cs hz
    cases hx
    unfold zeroP at hz
    split at hz
    · rename_i z hzz
      obtain ⟨hr,hc⟩:=ofCells_R (m:=m) (φ:=φ) hz
      obtain ⟨φ',μ',h1,h2,h3⟩:=box_sit (T:=T) hs hr hc
      refine ⟨.pointer (some ⟨w.heap.size,0,none⟩),_,m,φ',μ',?_,Mem.le.refl m,h1,h2,.bp h3⟩
      cases hi:P.info? T with
      |none=>simp [tz,hi] at hzz
      |some i =>
        simp [tz,hi] at hzz
        simp [execOp,Instr.alloc,zeroValue,typeInfo,hi,hzz,run_newVar]
    · cases hz
  · cases hx
/-- one of the store's things turns -/
theorem Sit.turn {w':World} {i:Nat} {o o':SO} {r r':Res} (hs:Sit E m φ μ st w) (ho:st[i]? = some o) (hne:o ≠ .dead) {μ1 μ2:Own} (hμ:μ=μ1 ++ ([r] ++ μ2))
    (hset:SR m φ 0 (st.set i o') (μ1 ++ ([r'] ++ μ2))) (hos:w'.os=w.os) (htape:w'.tape=w.tape) (hout:w'.output=w.output) (hsize:w.heap.size ≤ w'.heap.size)
    (hk:∀ b,b < w.heap.size→r.foot ≠ some b→w'.heap[b]? = w.heap[b]?) (hc:∀ b k v,r.foot=some b→m b k=some v→∃ c T fr,w'.heap[b]? = some (.cells c T fr)∧c[k]? = some v) (hr:r'.holds w')
    (hf:∀ b,r'.foot=some b→(r.foot=some b∧r.lim ≤ r'.lim)∨w.heap.size ≤ b):∃ μ',Sit E m φ μ' (st.set i o') w'∧Ext st (st.set i o') φ φ:=by
  subst hμ
  have h1:Hb.Good E w m (r :: (μ1 ++ μ2)):=hs.good.perm (by simp)
  have h2:=h1.turn hos htape hout hsize hk hc hr hf
  refine ⟨_,⟨h2.perm (by simpa using List.perm_middle.symm),hset,fun id h=>hs.dom id (by simpa using h)⟩,⟨Le.refl φ,by simp,fun id h=>?_⟩⟩
  rw [List.getElem?_set]
  split
  · rename_i e
    subst e
    rw [ho] at h
    exact absurd (Option.some.inj h) hne
  · exact ⟨h,rfl⟩
theorem flatten_get {sz:Nat}:∀ {vss:List (List Value)},(∀ us ∈ vss,us.length=sz)→∀ (i j:Nat),j < sz→vss.flatten[i * sz + j]? = (vss[i]?).bind fun us=>us[j]?
  |[],_,i,j,_=>by simp
  |us :: vss,h,i,j,hj=>by
    have h0:=h us List.mem_cons_self
    cases i with
    |zero=>simp only [Nat.zero_mul,Nat.zero_add,List.flatten_cons]; rw [List.getElem?_append_left (by omega)]; simp
    |succ i =>
      rw [List.flatten_cons,List.getElem?_append_right (by rw [Nat.succ_mul]; omega),h0]
      have:=flatten_get (vss:=vss) (fun us hu=>h us (List.mem_cons_of_mem _ hu)) i j hj
      rw [show (i + 1) * sz + j - sz=i * sz + j by rw [Nat.succ_mul]; omega,this]
      simp
theorem flatten_set_length:∀ {vss:List (List Value)} {i:Nat} {vs us:List Value},vss[i]? = some vs→us.length=vs.length→(vss.set i us).flatten.length=vss.flatten.length
  |[],i,vs,us,h,_=>by simp at h
  |x :: vss,i,vs,us,h,hl=>by
    cases i with
    |zero=>simp at h; subst h; simp [hl]
    |succ i=>simp only [List.set_cons_succ,List.flatten_cons,List.length_append]; rw [flatten_set_length (by simpa using h) hl]
theorem acts_store {T:TypeId} {x y:Operand} {r:AR} (hs:Sit E m φ μ st w) (h:EnvR m φ ρ a) (hx:sStore P ρ st T x y=some r):Acts P E m φ st w a ⟨dst,.store T x y,ty,pos,after,gd⟩ r:=by
  unfold sStore at hx
  split at hx
  · rename_i ag k p v ht hp hv
    split at hx
    · rename_i hb
      rw [Bool.and_eq_true] at hb
      have hk:=Nat.eq_of_beq_eq_true hb.1
      cases hst:storeS st k v p with
      |none=>simp [hst] at hx
      |some st' =>
        simp only [hst,Option.map_some,Option.some.injEq] at hx
        subst hx
        unfold storeS at hst
        split at hst
        · rename_i id off
          split at hst
          · rename_i T' cs ho
            split at hst
            · rename_i hle
              cases hst
              have hle':=Nat.le_of_ble_eq_true hle
              have hr:=aval_R h hp
              have hrv:=aval_R h hv
              have hcl:=cells_R hrv
              generalize he:a.eval x=ev at hr
              cases hr with
              | @bp _ _ _ b hφ =>
                obtain ⟨μ1,rs,μ2,h1,h2,h3⟩:=hs.sto.get ho
                obtain ⟨b',vs,h4,h5,h6,h7⟩:=h2
                rw [Nat.zero_add,hφ] at h4
                cases h4
                subst h5
                have hb2:w.heap[b]? = some (.cells vs.toArray T' (0,0)):=hs.good.own (r:=bx b T' vs) (by rw [h1]; simp)
                have h1c:∀ u ∈ (a.eval y).cells.toList,u.oneCell'=true:=fun u hu=>by
                  obtain ⟨i,hi⟩:=List.getElem?_of_mem hu
                  obtain ⟨c,hc⟩:∃ c,v.cells[i]? = some c:=⟨_,List.getElem?_eq_getElem (by have:=hcl.1; have:=(List.getElem?_eq_some_iff.1 hi).1; omega)⟩
                  exact (hcl.2 i c u hc hi).one (List.all_eq_true.1 hb.2 c (List.mem_of_getElem? hc))
                have hlen:off + (a.eval y).cells.toList.length ≤ vs.length:=by rw [← hcl.1,← h6.1]; omega
                have hstc:=run_storeCells_at P b off T' (a.eval y).cells.toList 0 vs.toArray w hb2 (by simpa using hlen) h1c
                obtain ⟨μ',hsit,hext⟩:=hs.turn (w':=w.setRow b (Gw.upd vs off (a.eval y).cells.toList).toArray) (r':=bx b T' (Gw.upd vs off (a.eval y).cells.toList)) (o':=.box T' (updP cs off v.cells)) ho (by simp) h1
                  (h3 (Mem.le.refl m) (Le.refl φ) (fun _ _=>rfl) ⟨b,_,by rw [Nat.zero_add]; exact hφ,rfl,updP_R h6 hcl,updP_all h7 hb.2⟩) rfl rfl rfl (by simp [World.setRow])
                  (fun b' _ hne=>setRow_other w b b' _ (fun e=>hne (by simp [Res.foot,e])))
                  (fun b' o u hf hm=>by
                    have:=(hs.good.feet (bx b T' vs) (by rw [h1]; simp) b' hf).2 o (Nat.zero_le _)
                    rw [this] at hm; cases hm)
                  (setRow_heap w b _ _ T' (0,0) hb2) (fun b' e=>.inl ⟨e,Nat.le_refl _⟩)
                refine ⟨_,m,φ,μ',?_,Mem.le.refl m,hext,hsit⟩
                unfold tk at ht
                split at ht
                · rename_i dd ii hdd hii
                  simp only [Option.some.injEq,Prod.mk.injEq] at ht
                  have hs2:(a.eval y).cells.size=ii.size:=by rw [ht.2,← hk,hcl.1]; simp
                  simp only [Nat.add_zero] at hstc
                  simp [execOp,Instr.storeAt,he,Instr.sureAddr,storeVar,sizeOf,typeInfo,hii,hs2,hstc,Gw.upd]
                · cases ht
            · cases hst
          · cases hst
        · rename_i id len i off
          split at hst
          · rename_i t sz xs ho
            split at hst
            · rename_i x0 hlen hx0
              split at hst
              · rename_i hbb
                cases hst
                rw [Bool.and_eq_true] at hbb
                have hle':=Nat.le_of_ble_eq_true hbb.1
                have hel:=Nat.eq_of_beq_eq_true hbb.2
                have hr:=aval_R h hp
                have hrv:=aval_R h hv
                have hcl:=cells_R hrv
                generalize he:a.eval x=ev at hr
                cases hr with
                | @rp _ _ _ _ _ n' sz' sv v' hφ hle hvv hpp =>
                  obtain ⟨μ1,rs,μ2,h1,h2,h3⟩:=hs.sto.get ho
                  obtain ⟨ad,cap,vss,h4,h5,hsz,h6⟩:=h2
                  rw [Nat.zero_add,hφ] at h4
                  cases h4
                  subst h5
                  obtain ⟨b,cap',e1,rfl⟩:=hvv (Nat.eq_of_beq_eq_true hlen)
                  cases e1
                  have hown:w.ownsRow 0 t sz (.slice (some ⟨b,0,none⟩) xs.length cap) xs.length vss.flatten:=hs.good.own (r:=.row false (.slice (some ⟨b,0,none⟩) xs.length cap) t sz xs.length vss.flatten) (by rw [h1]; simp)
                  obtain ⟨cur,hheap,hnc,hcm,hcs,htake⟩:∃ cur,w.heap[b]? = some (.cells cur t (0,0))∧xs.length ≤ cap∧cap ≤ maxLen∧cur.size=cap * sz∧cur.toList.take (xs.length * sz)=vss.flatten:=by
                    rcases hown.2 with ⟨e2,_⟩|⟨g,cap2,cur,e2,_,q1,q2,q3,q4,q5⟩
                    · cases e2
                    · cases e2; exact ⟨cur,q1,q2,q3,q4,q5⟩
                  have hilt:=(List.getElem?_eq_some_iff.1 hx0).1
                  obtain ⟨vs,hvs⟩:∃ vs,vss[i]? = some vs:=⟨_,List.getElem?_eq_getElem (by have:=h6.1; omega)⟩
                  obtain ⟨q1,q2,q3,q4⟩:=h6.2 i x0 vs hx0 hvs
                  have hvl:(a.eval y).cells.toList.length=k:=by rw [← hcl.1]; exact hk
                  have hvl':(a.eval y).cells.size=k:=by simpa using hvl
                  have h1c:∀ u ∈ (a.eval y).cells.toList,u.oneCell'=true:=fun u hu=>by
                    obtain ⟨i,hi⟩:=List.getElem?_of_mem hu
                    obtain ⟨c,hc⟩:∃ c,v.cells[i]? = some c:=⟨_,List.getElem?_eq_getElem (by have:=hcl.1; have:=(List.getElem?_eq_some_iff.1 hi).1; omega)⟩
                    exact (hcl.2 i c u hc hi).one (List.all_eq_true.1 hb.2 c (List.mem_of_getElem? hc))
                  have hisz:(i + 1) * sz ≤ xs.length * sz:=Nat.mul_le_mul_right _ hilt
                  have hisz2:xs.length * sz ≤ cap * sz:=Nat.mul_le_mul_right _ hnc
                  rw [Nat.succ_mul] at hisz
                  have hplace:i * sz + off + k ≤ cur.size:=by rw [hcs]; omega
                  have hstc:=run_storeCells_at P b (i * sz + off) t (a.eval y).cells.toList 0 cur w hheap (by rw [hvl]; omega) h1c
                  -- what the row holds then
                  have hflat:Gw.upd vss.flatten (i * sz + off) (a.eval y).cells.toList=(vss.set i (Gw.upd vs off (a.eval y).cells.toList)).flatten:=by
                    have hfl:=h6.flat
                    have hupl:(Gw.upd vs off (a.eval y).cells.toList).length=sz:=by rw [Gw.upd_length (by omega)]; exact q2
                    have hrow':RowR m φ sz xs vss:=h6
                    apply List.ext_getElem?
                    intro j
                    have hlen2:(vss.set i (Gw.upd vs off (a.eval y).cells.toList)).flatten.length=vss.flatten.length:=flatten_set_length hvs (by rw [hupl,q2])
                    by_cases hj:j < vss.flatten.length
                    · rw [hfl] at hj
                      have hdm:j / sz * sz + j % sz=j:=by rw [Nat.mul_comm]; exact Nat.div_add_mod j sz
                      have hmod:=Nat.mod_lt j hsz
                      have hdiv:j / sz < vss.length:=by rw [← h6.1]; exact Nat.div_lt_of_lt_mul (by rw [Nat.mul_comm]; exact hj)
                      have e3:=flatten_get (sz:=sz) (vss:=vss.set i (Gw.upd vs off (a.eval y).cells.toList)) (fun us hus=>by
                        rcases List.mem_or_eq_of_mem_set hus with h'|h'
                        · obtain ⟨i',hi'⟩:=List.getElem?_of_mem h'
                          obtain ⟨x',hx'⟩:∃ x',xs[i']? = some x':=⟨_,List.getElem?_eq_getElem (by have:=h6.1; have:=(List.getElem?_eq_some_iff.1 hi').1; omega)⟩
                          exact (h6.2 i' x' us hx' hi').2.1
                        · rw [h']; exact hupl) (j / sz) (j % sz) hmod
                      have e4:=flatten_get (sz:=sz) (vss:=vss) (fun us hus=>by
                        obtain ⟨i',hi'⟩:=List.getElem?_of_mem hus
                        obtain ⟨x',hx'⟩:∃ x',xs[i']? = some x':=⟨_,List.getElem?_eq_getElem (by have:=h6.1; have:=(List.getElem?_eq_some_iff.1 hi').1; omega)⟩
                        exact (h6.2 i' x' us hx' hi').2.1) (j / sz) (j % sz) hmod
                      rw [hdm] at e3 e4
                      rw [e3,Gw.upd_get (by rw [hfl]; omega),List.getElem?_set]
                      by_cases hij:i=j / sz
                      · subst hij
                        rw [if_pos rfl,if_pos hdiv]
                        simp only [Option.bind_some]
                        rw [Gw.upd_get (by omega)]
                        rw [e4,hvs]
                        simp only [Option.bind_some]
                        have hc1:(j < j / sz * sz + off)↔(j % sz < off):=by omega
                        have hc2:(j < j / sz * sz + off + (a.eval y).cells.toList.length)↔(j % sz < off + (a.eval y).cells.toList.length):=by omega
                        have hc3:j - (j / sz * sz + off)=j % sz - off:=by omega
                        simp only [hc1,hc2,hc3]
                      · rw [if_neg hij]
                        have hne:¬ (i * sz + off ≤ j∧j < i * sz + off + (a.eval y).cells.toList.length):=fun ⟨g1,g2⟩=>by
                          apply hij
                          have:i * sz ≤ j:=by omega
                          have h7:j < (i + 1) * sz:=by rw [Nat.succ_mul]; omega
                          exact (Nat.div_eq_of_lt_le (by omega) h7).symm
                        by_cases g1:j < i * sz + off
                        · rw [if_pos g1,e4]
                        · rw [if_neg g1,if_neg (fun g2=>hne ⟨by omega,g2⟩),e4]
                    · rw [List.getElem?_eq_none_iff.2 (by rw [Gw.upd_length (by rw [hfl]; omega)]; omega),List.getElem?_eq_none_iff.2 (by rw [hlen2]; omega)]
                  have hown':(w.setRow b (cur.toList.take (i * sz + off) ++ (a.eval y).cells.toList ++ cur.toList.drop (i * sz + off + (a.eval y).cells.toList.length)).toArray).ownsRow 0 t sz (.slice (some ⟨b,0,none⟩) xs.length cap) xs.length (vss.set i (Gw.upd vs off (a.eval y).cells.toList)).flatten:=by
                    rw [← hflat]
                    refine ⟨by rw [Gw.upd_length (by rw [h6.flat]; omega)]; exact h6.flat,.inr ⟨b,cap,_,rfl,Nat.zero_le _,setRow_heap w b cur _ t _ hheap,hnc,hcm,?_,?_⟩⟩
                    · simp only [List.size_toArray,List.length_append,List.length_take,List.length_drop,Array.length_toList]
                      omega
                    · rw [List.toList_toArray]
                      have e5:cur.toList.take (i * sz + off) ++ (a.eval y).cells.toList ++ cur.toList.drop (i * sz + off + (a.eval y).cells.toList.length)=Gw.upd cur.toList (i * sz + off) (a.eval y).cells.toList:=by simp [Gw.upd]
                      rw [e5,← htake]
                      apply List.ext_getElem?
                      intro j
                      rw [List.getElem?_take]
                      rw [Gw.upd_get (by simp; omega),Gw.upd_get (by simp; omega)]
                      by_cases hj:j < xs.length * sz
                      · simp only [if_pos hj,List.getElem?_take]
                      · rw [if_neg hj,if_neg (by omega),if_neg (by omega),List.getElem?_take,if_neg hj]
                  have hrow2:RowR m φ sz (xs.set i (putElem x0 v off)) (vss.set i (Gw.upd vs off (a.eval y).cells.toList)):=by
                    refine ⟨by simp [h6.1],fun j x' us hx' hu'=>?_⟩
                    rw [List.getElem?_set] at hx' hu'
                    by_cases hij:i=j
                    · subst hij
                      rw [if_pos rfl,if_pos hilt] at hx'
                      rw [if_pos rfl,if_pos (by have:=h6.1; omega)] at hu'
                      cases hx'
                      cases hu'
                      have hpe:(putElem x0 v off).cells=updP x0.cells off v.cells∨((putElem x0 v off).cells=v.cells∧x0.cells=[x0]):=by
                        unfold putElem
                        split
                        · exact .inl rfl
                        · rename_i hno
                          refine .inr ⟨rfl,?_⟩
                          cases x0 <;> first|rfl|exact absurd rfl (hno _)
                      rcases hpe with e6|⟨e6,e7⟩
                      · refine ⟨hel,by rw [Gw.upd_length (by omega)]; exact q2,?_,?_⟩
                        · rw [e6]; exact updP_all q3 hb.2
                        · rw [e6]; exact updP_R q4 hcl
                      · have hs1:sz=1:=by rw [e7] at q1; simpa using q1.symm
                        have hk1:k=1:=by rw [e6] at hel; omega
                        have ho0:off=0:=by rw [e7] at hle'; simp at hle'; omega
                        have e8:Gw.upd vs off (a.eval y).cells.toList=(a.eval y).cells.toList:=by
                          subst ho0
                          unfold Gw.upd
                          rw [List.drop_eq_nil_of_le (by omega)]
                          simp
                        rw [e6,e8]
                        exact ⟨by omega,by omega,hb.2,hcl⟩
                    · rw [if_neg hij] at hx' hu'
                      exact h6.2 j x' us hx' hu'
                  obtain ⟨μ',hsit,hext⟩:=hs.turn (w':=w.setRow b (cur.toList.take (i * sz + off) ++ (a.eval y).cells.toList ++ cur.toList.drop (i * sz + off + (a.eval y).cells.toList.length)).toArray) (r':=.row false (.slice (some ⟨b,0,none⟩) xs.length cap) t sz xs.length (vss.set i (Gw.upd vs off (a.eval y).cells.toList)).flatten) (o':=.row false t sz (xs.set i (putElem x0 v off))) ho (by simp) h1
                    (h3 (Mem.le.refl m) (Le.refl φ) (fun _ _=>rfl) ⟨some ⟨b,0,none⟩,cap,_,by rw [Nat.zero_add,List.length_set]; exact hφ,by rw [List.length_set],hsz,hrow2⟩) rfl rfl rfl (by simp [World.setRow])
                    (fun b' _ hne=>setRow_other w b b' _ (fun e=>hne (by simp [Res.foot,Value.ownBlock,e])))
                    (fun b' o u hf hm=>by
                      have:=(hs.good.feet (.row false (.slice (some ⟨b,0,none⟩) xs.length cap) t sz xs.length vss.flatten) (by rw [h1]; simp) b' hf).2 o (by simp [Res.lim])
                      rw [this] at hm; cases hm)
                    hown' (fun b' e=>.inl ⟨e,Nat.le_refl _⟩)
                  refine ⟨_,m,φ,μ',?_,Mem.le.refl m,hext,hsit⟩
                  unfold tk at ht
                  split at ht
                  · rename_i dd ii hdd hii
                    simp only [Option.some.injEq,Prod.mk.injEq] at ht
                    have hs2:(a.eval y).cells.size=ii.size:=by rw [ht.2,← hk,hcl.1]; simp
                    simp only [Nat.add_zero] at hstc
                    simp [execOp,Instr.storeAt,he,Instr.sureAddr,storeVar,sizeOf,typeInfo,hii,hs2,hstc]
                  · cases ht
              · cases hst
            · cases hst
          · cases hst
        · cases hst
    · cases hx
  · cases hx
theorem acts_panic {x:Operand} {r:AR} (hs:Sit E m φ μ st w) (h:EnvR m φ ρ a) (hx:sPanic ρ st x=some r):Acts P E m φ st w a ⟨dst,.panic x,ty,pos,after,gd⟩ r:=by
  unfold sPanic at hx
  split at hx
  · rename_i t v hv
    cases hx
    have hr:=aval_R h hv
    generalize he:a.eval x=ev at hr
    have hr':=hr
    cases hr with
    |ifc hi =>
      exact ⟨_,w,m,φ,μ,by simp [execOp,he,Instr.panic,goPanic,Sem.run,Bind.bind,Sem.bind],Mem.le.refl m,Ext.refl st φ,hs,hr'⟩
  · cases hx
/-- a row is known for good -/
theorem pubRow_ok {id len:Nat} {x:PV} {st':Sto} {v:Value} (hs:Sit E m φ μ st w) (h:pubRow id len st=(x,st')) (hr:R m φ (.ms id len) v):∃ m' μ',Mem.le m m'∧Ext st st' φ φ∧Sit E m' φ μ' st' w∧R m' φ x v:=by
  have same:(x,st')=(.ms id len,st)→∃ m' μ',Mem.le m m'∧Ext st st' φ φ∧Sit E m' φ μ' st' w∧R m' φ x v:=fun e=>by
    cases e
    exact ⟨m,μ,Mem.le.refl m,Ext.refl _ _,hs,hr⟩
  unfold pubRow at h
  split at h
  · rename_i p e sz xs ho
    split at h
    · rename_i hb
      rw [Bool.and_eq_true] at hb
      cases h
      cases hr with
      | @ms _ _ _ n sz' sv _ hφ hle hv hsl =>
        obtain ⟨μ1,rs,μ2,h1,h2,h3⟩:=hs.sto.get ho
        obtain ⟨ad,cap,vss,h4,h5,hsz,h6⟩:=h2
        rw [Nat.zero_add,hφ] at h4
        cases h4
        subst h5
        obtain rfl:=hv (Nat.eq_of_beq_eq_true hb.1)
        have hgood:Hb.Good E w m (.row p (.slice ad xs.length cap) e sz xs.length vss.flatten :: (μ1 ++ μ2)):=hs.good.perm (by rw [h1]; simp)
        have hown:w.ownsRow 0 e sz (.slice ad xs.length cap) xs.length vss.flatten:=hgood.own (r:=.row p (.slice ad xs.length cap) e sz xs.length vss.flatten) (by simp)
        have hext:Ext st (st.set id (.row true e sz xs)) φ φ:=⟨Le.refl φ,by simp,fun j hj=>by
          rw [List.getElem?_set]
          split
          · rename_i e'; subst e'; rw [ho] at hj; cases hj
          · exact ⟨hj,rfl⟩⟩
        -- the elements
        have hel:∀ (i:Nat) x,xs[i]? = some x→x.cells.length=sz∧(vss.getD i []).length=sz∧x.cells.all cell=true∧Rl m noPh x.cells (vss.getD i []):=fun i x hx=>by
          obtain ⟨vs,hvs⟩:∃ vs,vss[i]? = some vs:=⟨_,List.getElem?_eq_getElem (by have:=h6.1; have:=(List.getElem?_eq_some_iff.1 hx).1; omega)⟩
          obtain ⟨q1,q2,q3,q4⟩:=h6.2 i x vs hx hvs
          have e':vss.getD i []=vs:=by simp [List.getD_eq_getElem?_getD,hvs]
          rw [e']
          refine ⟨q1,q2,q3,?_⟩
          have hpx:=List.all_eq_true.1 hb.2 x (List.mem_of_getElem? hx)
          refine ⟨q4.1,fun j c u hc hu=>?_⟩
          have:pur 6 c=true:=by
            unfold PV.cells at hc
            split at hc
            · rename_i cs
              simp only [pur] at hpx
              have h7:=List.all_eq_true.1 hpx c (List.mem_of_getElem? hc)
              exact pur_up h7
            · cases j with
              |zero=>simp at hc; subst hc; exact hpx
              |succ j=>simp at hc
          exact R.pure 6 this (q4.2 j c u hc hu)
        rcases hown.2 with ⟨hv0,h0⟩|⟨b,cap',cur,hv',_,hheap,hnc,hcm,hcs,htake⟩
        · have hxs:xs=[]:=List.eq_nil_of_length_eq_zero h0
          subst hxs
          refine ⟨m,_,Mem.le.refl m,hext,⟨?_,h3 (Mem.le.refl m) (Le.refl φ) (fun _ _=>rfl) ⟨ad,cap,vss,by rw [Nat.zero_add]; exact hφ,rfl,hsz,h6⟩,fun j hj=>hs.dom j (by simpa using hj)⟩,?_⟩
          · have:=hgood.turn (w':=w) (r':=.row true (.slice ad [].length cap) e sz [].length vss.flatten) rfl rfl rfl (Nat.le_refl _) (fun _ _ _=>rfl) (fun b o u hf hm=>hgood.sub b o u hm) hown (fun b hb=>by
              simp only [List.length_nil] at hb hv0
              rw [hv0] at hb
              simp [Res.foot,Value.ownBlock] at hb)
            exact this.perm (by simpa using List.perm_middle.symm)
          · cases hv0
            exact .sl (xs:=[]) 0 0 (fun _=>[]) (fun e=>absurd rfl e) (Nat.le_refl _) (by decide) (fun e=>by cases e) (fun i x hx=>by simp at hx) (fun i x j c u hx=>by simp at hx) (fun e=>by cases e)
        · cases hv'
          have hfl:=h6.flat
          have hold:∀ (o:Nat) u,vss.flatten[o]? = some u→∃ c T fr,w.heap[b]? = some (.cells c T fr)∧c[o]? = some u:=fun o u ho'=>by
            refine ⟨cur,e,(0,0),hheap,?_⟩
            rw [← htake,List.getElem?_take] at ho'
            split at ho'
            · simpa using ho'
            · cases ho'
          have hlim:vss.flatten.length ≤ (Res.row true (.slice (some ⟨b,0,none⟩) xs.length cap) e sz xs.length vss.flatten).lim:=by simp [Res.lim,hfl]
          obtain ⟨hg2,hle2⟩:=hgood.tell (b:=b) (cs:=vss.flatten) rfl hold (μ':=.row true (.slice (some ⟨b,0,none⟩) xs.length cap) e sz xs.length vss.flatten :: (μ1 ++ μ2)) (fun s hs'=>by
              rcases List.mem_cons.1 hs' with rfl|hs'
              · refine .inr ⟨hown,rfl,?_,hlim⟩
                cases p <;> simp [Res.lim]
              · exact .inl hs') (List.pairwise_cons.2 ⟨(List.pairwise_cons.1 hgood.apart).1,(List.pairwise_cons.1 hgood.apart).2⟩)
          refine ⟨_,_,hle2,hext,⟨hg2.perm (by simpa using List.perm_middle.symm),h3 hle2 (Le.refl φ) (fun _ _=>rfl) ⟨_,cap,vss,by rw [Nat.zero_add]; exact hφ,rfl,hsz,h6.mono hle2 (Le.refl φ)⟩,fun j hj=>hs.dom j (by simpa using hj)⟩,?_⟩
          refine .sl b 0 (fun i=>vss.getD i []) (fun _=>rfl) hnc hcm (fun e=>by cases e) (fun i x hx=>?_) (fun i x j c u hx hc hu=>?_) (fun e=>by cases e)
          · obtain ⟨q1,q2,q3,q4⟩:=hel i x hx
            refine ⟨q1,q2,fun j u hu=>?_,q3⟩
            have hj:j < sz:=by have:=(List.getElem?_eq_some_iff.1 hu).1; omega
            obtain ⟨vs,hvs⟩:∃ vs,vss[i]? = some vs:=⟨_,List.getElem?_eq_getElem (by have:=h6.1; have:=(List.getElem?_eq_some_iff.1 hx).1; omega)⟩
            have e':vss.getD i []=vs:=by simp [List.getD_eq_getElem?_getD,hvs]
            rw [e'] at hu
            rw [Nat.zero_add]
            exact Mem.add_get (by rw [h6.at hvs j hj]; exact hu)
          · obtain ⟨q1,q2,q3,q4⟩:=hel i x hx
            exact (q4.2 j c u hc hu).mono hle2 (Le.refl _)
    · exact same h.symm
  · exact same h.symm
end
end Go.Am
namespace Go.Am
open Go Go.Hb
open Go.Gw (tk tf tz tsl tar tpl isAggD)
section
variable {P:Program} {E:Entry} {m:Mem} {φ:Ph} {μ:Own} {st:Sto} {ρ:AEnv} {a:Act} {w:World} {dst:Option Nat} {ty:TypeId} {pos:String} {after:Array Edge} {gd:Option (Nat × Bool)}
theorem acts_slice {C:Cfg} (hC:C.P=P) {T:TypeId} {x:Operand} {lo hi mx:Option Operand} {r:AR} (hs:Sit E m φ μ st w) (h:EnvR m φ ρ a) (hx:sSlice C ρ st T x lo hi mx=some r):Acts P E m φ st w a ⟨dst,.slice T x lo hi mx,ty,pos,after,gd⟩ r:=by
  subst hC
  unfold sSlice at hx
  split at hx
  · rename_i id len hv
    split at hx
    · rename_i full sz xs st' hp
      split at hx
      · rename_i pl ph pm hl hh hm hsz
        obtain ⟨m',μ',h1,h2,h3,h4⟩:=pubRow_ok hs hp (aval_R h hv)
        have henv:=h.mono h1 (Le.refl φ)
        obtain ⟨e,z,ht,hz⟩:=szOk_R hsz
        cases hsl:sliceP full sz xs pl ph pm with
        |none=>simp [hsl] at hx
        |some u =>
          simp only [hsl,Option.map_some,Option.some.injEq] at hx
          subst hx
          obtain ⟨r,h5,h6⟩:=sliceP_run (P:=C.P) (w:=w) ht hz hsl h4 (optV_R henv hl) (optV_R henv hh) (optV_R henv hm)
          exact ⟨r,w,m',φ,μ',by simp [execOp,h5],h1,h2,h3,h6⟩
      · cases hx
    · cases hx
  · cases hx
/-! rows of cells -/
theorem flat_cells {sz b off:Nat} {ys:List PV} {vss:List (List Value)} (h:RowR m φ sz ys vss) (hc:∀ (i:Nat) vs,vss[i]? = some vs→∀ (j:Nat) u,vs[j]? = some u→w.cell? ⟨b,off + i * sz + j,none⟩=some u):∀ (j:Nat) u,vss.flatten[j]? = some u→w.cell? ⟨b,off + j,none⟩=some u:=by
  intro j u hj
  have hlt:=(List.getElem?_eq_some_iff.1 hj).1
  rw [h.flat] at hlt
  have hsz:0 < sz:=by
    cases sz with
    |zero=>simp at hlt
    |succ k=>omega
  have hi:j / sz < vss.length:=by rw [← h.1]; exact Nat.div_lt_of_lt_mul (by rw [Nat.mul_comm]; exact hlt)
  have hvs:vss[j / sz]? = some vss[j / sz]:=List.getElem?_eq_getElem hi
  have hm:=Nat.mod_lt j hsz
  have e:j / sz * sz + j % sz=j:=by rw [Nat.mul_comm]; exact Nat.div_add_mod j sz
  have h1:=h.at hvs (j % sz) hm
  rw [e,hj] at h1
  have h2:=hc (j / sz) _ hvs (j % sz) u h1.symm
  rwa [Nat.add_assoc,e] at h2
theorem flat_one {sz:Nat} {ys:List PV} {vss:List (List Value)} (h:RowR m φ sz ys vss):∀ u ∈ vss.flatten,u.oneCell'=true:=by
  intro u hu
  obtain ⟨vs,h1,h2⟩:=List.mem_flatten.1 hu
  obtain ⟨i,hi⟩:=List.getElem?_of_mem h1
  obtain ⟨j,hj⟩:=List.getElem?_of_mem h2
  obtain ⟨x,hx⟩:∃ x,ys[i]? = some x:=⟨_,List.getElem?_eq_getElem (by have:=h.1; have:=(List.getElem?_eq_some_iff.1 hi).1; omega)⟩
  obtain ⟨q1,q2,q3,q4⟩:=h.2 i x vs hx hi
  obtain ⟨c,hc⟩:∃ c,x.cells[j]? = some c:=⟨_,List.getElem?_eq_getElem (by have:=(List.getElem?_eq_some_iff.1 hj).1; omega)⟩
  exact (q4.2 j c u hc hj).one (List.all_eq_true.1 q3 c (List.mem_of_getElem? hc))
/-- the cells of what is appended -/
theorem contents_R {y:PV} {v:Value} {sz z:Nat} {ys:List PV} (hs:Sit E m φ μ st w) (h:contents st y=some (z,ys)) (hz:z=sz∨ys=[]) (hr:R m φ y v) :
    ∃ ad cap vss,v = .slice ad ys.length cap∧RowR m φ sz ys vss∧(ys ≠ []→∃ b off,ad=some ⟨b,off,none⟩∧∀ (j:Nat) u,vss.flatten[j]? = some u→w.cell? ⟨b,off + j,none⟩=some u):=by
  unfold contents at h
  split at h
  · cases h
    cases hr with
    | @sl _ _ _ _ ad cap b off g ha hcap hmax hfull hel hrr hnil =>
      by_cases hy:ys=[]
      · subst hy
        exact ⟨ad,cap,[],rfl,⟨rfl,fun i x vs hx=>by simp at hx⟩,fun e=>absurd rfl e⟩
      · obtain rfl:=hz.resolve_right hy
        have hrow:RowR m φ z ys ((List.range ys.length).map g):=by
          refine ⟨by simp,fun i x vs hx hv=>?_⟩
          rw [List.getElem?_map,List.getElem?_range (List.getElem?_eq_some_iff.1 hx).1] at hv
          simp only [Option.map_some,Option.some.injEq] at hv
          subst hv
          obtain ⟨q1,q2,q3,q4⟩:=hel i x hx
          exact ⟨q1,q2,q4,⟨by rw [q1,q2],fun j c u hc hu=>(hrr i x j c u hx hc hu).any⟩⟩
        refine ⟨ad,cap,_,rfl,hrow,fun _=>⟨b,off,ha hy,flat_cells hrow fun i vs hv j u hu=>?_⟩⟩
        rw [List.getElem?_map] at hv
        cases hir:(List.range ys.length)[i]? with
        |none=>simp [hir] at hv
        |some i' =>
          have hlt:=(List.getElem?_eq_some_iff.1 hir).1
          simp only [List.length_range] at hlt
          rw [List.getElem?_range hlt] at hir
          cases hir
          rw [List.getElem?_range hlt] at hv
          simp only [Option.map_some,Option.some.injEq] at hv
          subst hv
          obtain ⟨q1,q2,q3,q4⟩:=hel i _ (List.getElem?_eq_getElem hlt)
          exact hs.good.cell (q3 j u hu)
  · rename_i id len
    split at h
    · rename_i p t sz' xs ho
      split at h
      · rename_i hlen
        cases h
        cases hr with
        | @ms _ _ _ n sz'' sv _ hφ hle hv hsl =>
          obtain ⟨μ1,rs,μ2,h1,h2,_⟩:=hs.sto.get ho
          obtain ⟨ad,cap,vss,h3,h4,hsz,h5⟩:=h2
          rw [Nat.zero_add,hφ] at h3
          cases h3
          obtain rfl:=hv (Nat.eq_of_beq_eq_true hlen)
          by_cases hy:ys=[]
          · subst hy
            exact ⟨ad,cap,[],rfl,⟨rfl,fun i x vs hx=>by simp at hx⟩,fun e=>absurd rfl e⟩
          · obtain rfl:=hz.resolve_right hy
            have hown:w.ownsRow 0 t z (.slice ad ys.length cap) ys.length vss.flatten:=hs.good.own (r:=.row p (.slice ad ys.length cap) t z ys.length vss.flatten) (by rw [h1,h4]; simp)
            obtain ⟨b,rfl⟩:∃ b,ad=some ⟨b,0,none⟩:=by
              rcases hown.2 with ⟨_,h0⟩|⟨g,cap',cur,hv',_⟩
              · exact absurd (List.eq_nil_of_length_eq_zero h0) hy
              · cases hv'; exact ⟨g,rfl⟩
            refine ⟨_,cap,vss,rfl,h5,fun _=>⟨b,0,rfl,fun j u hu=>?_⟩⟩
            have:=hown.cells (g:=b) rfl j u hu
            rwa [Addr.add_lit] at this
      · cases h
    · cases h
  · cases h
theorem run_append_zero {T e:TypeId} {ti:TypeInfo} (ht:P.underlying T=some (.slice e)) (hi:P.info? e=some ti) {ad bd:Option Addr} {n cap c:Nat} (hle:n ≤ cap):(Builtin.append_ #[T,T] ty #[.slice ad n cap,.slice bd 0 c]).run P w = .ok (.slice ad n cap) w:=by
  cases ad <;> cases bd <;> simp [Builtin.append_,run_underlying ht,sizeOf,typeInfo,hi,Builtin.lenOf,hle,Builtin.firstCells,loadCells,loadCellsFrom,storeCells]
/-- what an append does to the block of its own row -/
theorem append_own {T e:TypeId} {ti:TypeInfo} {z:Value} {sz by_:Nat} (ht:P.underlying T=some (.slice e)) (hi:P.info? e=some ti) (hz:ti.zero=some z) (hsize:ti.size=sz) (hby:ti.bytes=by_) (hzs:z.cells.size=sz) (hsz:0 < sz)
    {v:Value} {n:Nat} {xs:List Value} (hown:w.ownsRow 0 e sz v n xs) {b off k c:Nat} {news:List Value} (hl:news.length=k * sz) (hnews:∀ (j:Nat) u,news[j]? = some u→w.cell? ⟨b,off + j,none⟩=some u) (h1:∀ u ∈ news,u.oneCell'=true)
    (h63:n + k ≤ maxLen) (hbytes:(n + k) * by_ ≤ 140737488355328) :
    ∃ ad cap w',(Builtin.append_ #[T,T] ty #[v,.slice (some ⟨b,off,none⟩) k c]).run P w = .ok (.slice ad (n + k) cap) w'∧w'.ownsRow 0 e sz (.slice ad (n + k) cap) (n + k) (xs ++ news)∧w.grownBy w' v.ownBlock ∧
      (∀ b,(Value.slice ad (n + k) cap).ownBlock=some b→v.ownBlock=some b∨w.heap.size ≤ b) ∧
      (∀ (g:Nat) (cs:Array Value) (T':TypeId) (fr:Nat × Nat),v.ownBlock=some g→w.heap[g]? = some (.cells cs T' fr)→∃ cs',w'.heap[g]? = some (.cells cs' T' fr)∧∀ o,o < n * sz→cs'[o]? = cs[o]?):=by
  have hnews':∀ (j:Nat) u,news[j]? = some u→w.cell? ((⟨b,off,none⟩:Addr).add j)=some u:=fun j u hu=>by rw [Addr.add_lit]; exact hnews j u hu
  obtain ⟨v',w',hr,hown',hgr,_⟩:=run_append_own (P:=P) w 0 T ty e ti z sz by_ ht hi hz hsize hby hzs hsz v n xs hown ⟨b,off,none⟩ k c news hl hnews' h1 h63 hbytes (Nat.zero_le _)
  have hfoot:=Gw.append_foot (w:=w) T ty e ti z sz by_ ht hi hz hsize hby v n xs hown ⟨b,off,none⟩ k c news hl hnews' h1 h63 hbytes hr
  obtain ⟨a1,cap1,rfl⟩:∃ a1 cap1,v' = .slice a1 (n + k) cap1:=by
    rcases hown'.2 with ⟨rfl,h0⟩|⟨g,cap1,cur,rfl,_⟩
    · exact ⟨none,0,by rw [h0]⟩
    · exact ⟨_,_,rfl⟩
  refine ⟨a1,cap1,w',hr,hown',hgr,hfoot,fun g cs T' fr hg hcs=>?_⟩
  subst hsize
  subst hby
  have hsmall:n + k ≤ 9223372036854775807:=by simp only [maxLen] at h63; omega
  rcases hown.2 with ⟨rfl,rfl⟩|⟨g',cap,cur,rfl,hbg,hg',hnc,hcm,hcs',htake⟩
  · simp [Value.ownBlock] at hg
  · simp only [Value.ownBlock,Option.some.injEq] at hg
    subst hg
    obtain ⟨rfl,rfl,rfl⟩:cur=cs∧e=T'∧((0,0):Nat × Nat)=fr:=by
      rw [hg'] at hcs
      simpa using hcs
    by_cases hroom:n + k ≤ cap
    · have hfit:n * ti.size + news.length ≤ cur.size:=by rw [hl,hcs',← Nat.add_mul]; exact Nat.mul_le_mul_right _ hroom
      have hr2:=run_append_room (P:=P) w T ty e ti ht hi g' n cap cur hg' ⟨b,off,none⟩ k c news hl hnews' h1 hroom hfit
      rw [hr] at hr2
      cases hr2
      refine ⟨_,setRow_heap w g' cur _ e _ hg',fun o ho=>?_⟩
      rw [List.getElem?_toArray,List.append_assoc,List.getElem?_append_left (by simp; omega),List.getElem?_take,if_pos ho]
      simp
    · have holds:∀ (j:Nat) u,xs[j]? = some u→w.cell? ((⟨g',0,none⟩:Addr).add j)=some u:=hown.cells (g:=g') rfl
      have hr2:=run_append_grow (P:=P) w T ty e ti z ht hi hz ⟨g',0,none⟩ n cap xs hown.1 holds ⟨b,off,none⟩ k c news hl hnews' (by omega) (by omega) (growslice_fits (by omega) hbytes)
      rw [hr] at hr2
      cases hr2
      exact ⟨cur,(heap_alloc_old w.drew _ (show g' < w.drew.heap.size from mem_lt hg')).trans hg',fun o _=>rfl⟩
/-- append to a slice without room -/
theorem append_full {T e:TypeId} {ti:TypeInfo} {z:Value} {sz by_:Nat} (ht:P.underlying T=some (.slice e)) (hi:P.info? e=some ti) (hz:ti.zero=some z) (hsize:ti.size=sz) (hby:ti.bytes=by_) (hzs:z.cells.size=sz)
    {ad:Option Addr} {n:Nat} {olds:List Value} (hlo:olds.length=n * sz) (holds:∀ x,ad=some x→∀ (j:Nat) u,olds[j]? = some u→w.cell? (x.add j)=some u) (hnil:ad=none→n=0)
    {b off k c:Nat} {news:List Value} (hk:0 < k) (hl:news.length=k * sz) (hnews:∀ (j:Nat) u,news[j]? = some u→w.cell? ⟨b,off + j,none⟩=some u)
    (h63:n + k ≤ maxLen) (hbytes:(n + k) * by_ ≤ 140737488355328) :
    ∃ cap cs,(Builtin.append_ #[T,T] ty #[.slice ad n n,.slice (some ⟨b,off,none⟩) k c]).run P w = .ok (.slice (some ⟨w.heap.size,0,none⟩) (n + k) cap) (w.drew.alloc (.cells cs e)) ∧
      (w.drew.alloc (.cells cs e)).ownsRow 0 e sz (.slice (some ⟨w.heap.size,0,none⟩) (n + k) cap) (n + k) (olds ++ news):=by
  subst hsize
  subst hby
  have hsmall:n + k ≤ 9223372036854775807:=by simp only [maxLen] at h63; omega
  have hnews':∀ (j:Nat) u,news[j]? = some u→w.cell? ((⟨b,off,none⟩:Addr).add j)=some u:=fun j u hu=>by rw [Addr.add_lit]; exact hnews j u hu
  have hlen:(olds ++ news).length=(n + k) * ti.size:=by rw [List.length_append,hlo,hl,Nat.add_mul]
  have grown:∀ (old:Nat),(w.drew.alloc (.cells (olds.toArray ++ news.toArray ++ Builtin.zeroCells z.cells (grownCap w (n + k) old e - (n + k))) e)).ownsRow 0 e ti.size
        (.slice (some ⟨w.heap.size,0,none⟩) (n + k) (grownCap w (n + k) old e)) (n + k) (olds ++ news):=fun old=>by
    have hge:=grownCap_ge w (n + k) old e
    have hcm:grownCap w (n + k) old e ≤ maxLen:=grownCap_le_maxLen w (n + k) old e h63
    refine ⟨hlen,.inr ⟨w.heap.size,_,_,rfl,Nat.zero_le _,heap_alloc_new w.drew _,hge,hcm,?_,?_⟩⟩
    · simp only [Array.size_append,List.size_toArray,size_zeroCells,hzs,hlo,hl,← Nat.add_mul]
      congr 1
      omega
    · simp only [Array.toList_append,List.append_assoc]
      rw [← List.append_assoc,← hlen]
      exact List.take_left
  cases ad with
  |none =>
    obtain rfl:=hnil rfl
    have ho:olds=[]:=List.eq_nil_of_length_eq_zero (by simpa using hlo)
    subst ho
    have hr:=run_append_nil (P:=P) w T ty e ti z ht hi hz ⟨b,off,none⟩ k c news hl hnews' hk (by omega) (by have hb:=hbytes; simp only [Nat.zero_add] at hb; omega)
    have hg:=grown 0
    simp only [Nat.zero_add,List.nil_append,Array.empty_append] at hg ⊢
    exact ⟨_,_,hr,hg⟩
  |some x =>
    have hr:=run_append_grow (P:=P) w T ty e ti z ht hi hz x n n olds hlo (holds x rfl) ⟨b,off,none⟩ k c news hl hnews' (by omega) (by omega) (growslice_fits (by omega) hbytes)
    exact ⟨_,_,hr,grown n⟩
theorem elemBytes_R {t sz by_:Nat} (h:elemBytes P t sz=some by_):∃ ti z,P.info? t=some ti∧ti.zero=some z∧ti.bytes=by_∧z.cells.size=sz∧0 < sz:=by
  unfold elemBytes at h
  split at h
  · rename_i ti hti
    split at h
    · rename_i z hz
      split at h
      · rename_i hb
        rw [Bool.and_eq_true] at hb
        cases h
        exact ⟨ti,z,hti,hz,rfl,Nat.eq_of_beq_eq_true hb.1,by simpa [Nat.blt_eq] using hb.2⟩
      · cases h
    · cases h
  · cases h
theorem fits_R {n by_:Nat} (h:fits n by_=true):n * by_ ≤ 140737488355328∧n ≤ maxLen:=by
  unfold fits at h
  rw [Bool.and_eq_true] at h
  have h1:=Nat.le_of_ble_eq_true h.1
  have h2:=Nat.le_of_ble_eq_true h.2
  unfold room at h1 h2
  exact ⟨h1,by simp only [maxLen]; omega⟩
theorem acts_append {xs:Array Operand} {ts:Array TypeId} {r:AR} (hs:Sit E m φ μ st w) (h:EnvR m φ ρ a) (hx:sAppend P ρ st xs.toList ts.toList=some r):Acts P E m φ st w a ⟨dst,.call ⟨.builtin .append,xs,ts⟩,ty,pos,after,gd⟩ r:=by
  unfold sAppend at hx
  split at hx
  · rename_i x y T U hxs hts
    obtain rfl:xs = #[x,y]:=by apply Array.ext'; simpa using hxs
    obtain rfl:ts = #[T,U]:=by apply Array.ext'; simpa using hts
    split at hx
    · rename_i t sz hTU ht
      obtain rfl:=Nat.eq_of_beq_eq_true hTU
      split at hx
      · rename_i px py by_ hp hy hby
        split at hx
        · rename_i z ys hc
          split at hx
          · rename_i hzz
            have hz':z=sz∨ys=[]:=by
              rw [Bool.or_eq_true] at hzz
              rcases hzz with h1|h1
              · exact .inl (Nat.eq_of_beq_eq_true h1).symm
              · exact .inr (by simpa using h1)
            obtain ⟨ti,zv,hti,hzv,hbb,hzs,hpos⟩:=elemBytes_R hby
            obtain ⟨hu,hsize⟩:P.underlying T=some (.slice t)∧ti.size=sz:=by
              unfold tsl at ht
              split at ht
              · rename_i e' hee
                cases hii:P.info? e' with
                |none=>simp [hii] at ht
                |some ii =>
                  simp [hii] at ht
                  obtain ⟨rfl,rfl⟩:=ht
                  rw [hii] at hti
                  cases hti
                  exact ⟨hee,rfl⟩
              · cases ht
            have rx:=aval_R h hp
            have ry:=aval_R h hy
            obtain ⟨bd,bcap,vss,ey,hrow,hcells⟩:=contents_R (sz:=sz) hs hc hz' ry
            -- the run
            have fin:∀ {v:Value} {w':World},(Builtin.append_ #[T,T] ty #[a.eval x,a.eval y]).run P w = .ok v w'→(execOp a.eval ⟨dst,.call ⟨.builtin .append,#[x,y],#[T,T]⟩,ty,pos,after,gd⟩).run P w = .ok (.value v) w':=fun hrun=>by
              unfold execOp
              simp only [resolve,invoke,builtin,Sem.run_bind,Sem.run_pure,Result.andThen_ok,List.map_toArray,List.map_cons,List.map_nil,hrun]
            unfold appendS at hx
            split at hx
            · rename_i id len
              split at hx
              · rename_i p t' z' xs ho
                split at hx
                · rename_i hb
                  simp only [Bool.and_eq_true] at hb
                  obtain ⟨⟨⟨hb1,hb2⟩,hb3⟩,hb4⟩:=hb
                  have hlen:=Nat.eq_of_beq_eq_true hb1
                  obtain rfl:=Nat.eq_of_beq_eq_true hb2
                  obtain rfl:=Nat.eq_of_beq_eq_true hb3
                  obtain ⟨hby1,hmax⟩:=fits_R hb4
                  have rx':=rx
                  generalize hex:a.eval x=ex at rx fin
                  cases rx with
                  | @ms _ _ _ n sz'' sv _ hφ hle hv hsl =>
                    obtain ⟨μ1,rs,μ2,h1,h2,h3⟩:=hs.sto.get ho
                    obtain ⟨ad,cap,uss,h4,h5,hsz,h6⟩:=h2
                    rw [Nat.zero_add,hφ] at h4
                    cases h4
                    subst h5
                    obtain rfl:=hv hlen
                    have hown:w.ownsRow 0 t sz (.slice ad xs.length cap) xs.length uss.flatten:=hs.good.own (r:=.row p (.slice ad xs.length cap) t sz xs.length uss.flatten) (by rw [h1]; simp)
                    have hcapn:xs.length ≤ cap:=by
                      rcases hown.2 with ⟨e1,e2⟩|⟨g,cap',cur,e1,_,_,e2,_⟩
                      · omega
                      · cases e1; exact e2
                    split at hx
                    · cases hx
                      refine ⟨.slice ad xs.length cap,w,m,φ,μ,fin ?_,Mem.le.refl m,Ext.refl _ _,hs,hex ▸ rx'⟩
                      rw [ey]
                      exact run_append_zero hu hti hcapn
                    · rename_i hne
                      have hne':ys ≠ []:=fun e=>hne e
                      cases hx
                      obtain ⟨b,off,rfl,hcl⟩:=hcells hne'
                      obtain ⟨ad',cap',w',hrun,hown',hgr,hfoot,hkeep⟩:=append_own (P:=P) (w:=w) (ty:=ty) hu hti hzv hsize hbb hzs hpos hown (c:=bcap) (k:=ys.length) hrow.flat hcl (flat_one hrow) (by rw [← hlen]; exact hmax) (by rw [← hlen]; exact hby1)
                      have hle':Le φ (more φ id (.row (.slice ad' (xs.length + ys.length) cap') (xs.length + ys.length) sz)):=fun j=>by
                        by_cases e:j=id
                        · subst e
                          rw [hφ,more_self]
                          refine ⟨fun b hb=>(by cases hb),fun sv n z hb=>?_⟩
                          cases hb
                          exact ⟨_,_,rfl,.inr (by have:=List.length_pos_iff.2 hne'; omega)⟩
                        · rw [more_other e]; exact Le.refl φ j
                      have hset:=h3 (m':=m) (o':=.row p t sz (xs ++ ys)) (rs':=[.row p (.slice ad' (xs.length + ys.length) cap') t sz (xs.length + ys.length) (uss ++ vss).flatten]) (Mem.le.refl m) hle' (fun j hj=>more_other (by omega))
                        ⟨ad',cap',uss ++ vss,by rw [Nat.zero_add,more_self,List.length_append],by rw [List.length_append],hsz,(h6.append hrow).mono (Mem.le.refl m) hle'⟩
                      have hg1:Hb.Good E w m (.row p (.slice ad xs.length cap) t sz xs.length uss.flatten :: (μ1 ++ μ2)):=hs.good.perm (by rw [h1]; simp)
                      have hg2:=hg1.turn (w':=w') (r':=.row p (.slice ad' (xs.length + ys.length) cap') t sz (xs.length + ys.length) (uss ++ vss).flatten) hgr.os hgr.tape hgr.output hgr.size (fun b' hb' hne=>hgr.block b' hb' (fun e'=>hne e'.symm))
                        (fun b' o u hf hm=>by
                          obtain ⟨cs,T',fr,e1,e2⟩:=hg1.sub b' o u hm
                          obtain ⟨cs',e3,e4⟩:=hkeep b' cs T' fr hf e1
                          refine ⟨cs',T',fr,e3,?_⟩
                          rw [e4 o ?_]
                          · exact e2
                          · apply Nat.lt_of_not_le
                            intro hge
                            have:=(hg1.feet _ List.mem_cons_self b' hf).2 o (by
                              cases p
                              · simp [Res.lim]
                              · simpa [Res.lim] using hge)
                            rw [this] at hm
                            cases hm) (by show w'.ownsRow 0 t sz _ _ _; rw [List.flatten_append]; exact hown')
                        (fun b' hf=>(hfoot b' hf).imp (fun e'=>⟨e',by cases p <;> simp [Res.lim]; exact Nat.mul_le_mul_right _ (by omega)⟩) (fun e'=>e'))
                      refine ⟨.slice ad' (xs.length + ys.length) cap',w',m,_,_,fin ?_,Mem.le.refl m,⟨hle',by simp,fun j hj=>?_⟩,⟨hg2.perm (by simpa using List.perm_middle.symm),hset,fun j hj=>?_⟩,?_⟩
                      · rw [ey]; exact hrun
                      · have hji:j ≠ id:=fun e=>by subst e; rw [ho] at hj; cases hj
                        rw [List.getElem?_set_ne (Ne.symm hji),more_other hji]
                        exact ⟨hj,rfl⟩
                      · have hid:id < st.length:=(List.getElem?_eq_some_iff.1 ho).1
                        rw [List.length_set] at hj
                        rw [more_other (by omega)]
                        exact hs.dom j hj
                      · rw [hlen]
                        exact .ms (more_self _ _ _) (Nat.le_refl _) (fun _=>rfl) ⟨_,_,_,rfl⟩
                · cases hx
              · cases hx
            · rename_i full z' xs
              have rx':=rx
              generalize hex:a.eval x=ex at rx fin
              cases rx with
              | @sl _ _ _ _ ad cap b0 off0 g ha hcap hmax hfull hel hrr hnil =>
                split at hx
                · cases hx
                  refine ⟨.slice ad xs.length cap,w,m,φ,μ,fin ?_,Mem.le.refl m,Ext.refl _ _,hs,hex ▸ rx'⟩
                  rw [ey]
                  exact run_append_zero hu hti hcap
                · rename_i hne
                  have hne':ys ≠ []:=fun e=>hne e
                  split at hx
                  · rename_i hb
                    simp only [Bool.and_eq_true,Bool.or_eq_true] at hb
                    obtain ⟨⟨hb1,hb2⟩,hb3⟩:=hb
                    cases hx
                    obtain rfl:=hfull hb1
                    obtain ⟨hby1,hmax'⟩:=fits_R hb3
                    obtain ⟨b,off,rfl,hcl⟩:=hcells hne'
                    have hcont:contents st (.sl full z' xs)=some (z',xs):=rfl
                    obtain ⟨ad2,cap2,uss,e2,hrowx,hcellx⟩:=contents_R (sz:=sz) hs hcont (by
                      rcases hb2 with h1|h1
                      · exact .inl (Nat.eq_of_beq_eq_true h1).symm
                      · exact .inr (by simpa using h1)) (hex ▸ rx')
                    cases e2
                    obtain ⟨cap',cs,hrun,hown'⟩:=append_full (P:=P) (w:=w) (ty:=ty) hu hti hzv hsize hbb hzs (ad:=ad) (n:=xs.length) (olds:=uss.flatten) hrowx.flat (fun x0 hx0 j u hu'=>by
                        by_cases hxe:xs=[]
                        · have:=(List.getElem?_eq_some_iff.1 hu').1
                          rw [hrowx.flat,hxe] at this
                          simp at this
                        · obtain ⟨b1,off1,e3,hc1⟩:=hcellx hxe
                          rw [e3] at hx0
                          cases hx0
                          rw [Addr.add_lit]
                          exact hc1 j u hu') (fun e=>by
                        by_cases hxe:xs=[]
                        · simp [hxe]
                        · rw [ha hxe] at e; cases e) (c:=bcap) (k:=ys.length) (List.length_pos_iff.2 hne') hrow.flat hcl hmax' hby1
                    -- the new row
                    have hg0:=(hs.good.drew (w.drawn + 1)).new (.cells cs t)
                    have hg1:Hb.Good E (w.drew.alloc (.cells cs t)) m (.row false (.slice (some ⟨w.heap.size,0,none⟩) (xs.length + ys.length) cap') t sz (xs.length + ys.length) (uss ++ vss).flatten :: μ):=by
                      have hg00:Hb.Good E (w.drew.alloc (.cells cs t)) m (.blk w.heap.size (.cells cs t) :: μ):=hg0
                      exact hg00.turn (w':=w.drew.alloc (.cells cs t)) rfl rfl rfl (Nat.le_refl _) (fun _ _ _=>rfl) (fun b' o u hf hm=>hg00.sub b' o u hm) (by show World.ownsRow _ _ _ _ _ _ _; rw [List.flatten_append]; exact hown')
                        (fun b' hf=>.inl ⟨hf,by simp [Res.lim]⟩)
                    have hle':Le φ (more φ st.length (.row (.slice (some ⟨w.heap.size,0,none⟩) (xs.length + ys.length) cap') (xs.length + ys.length) sz)):=le_more (hs.dom _ (Nat.le_refl _))
                    obtain ⟨hsit,hext⟩:=hs.push (o:=.row false t sz (xs ++ ys)) hg1 ⟨some ⟨w.heap.size,0,none⟩,cap',uss ++ vss,by rw [more_self,List.length_append],by rw [List.length_append],hpos,(hrowx.append hrow).mono (Mem.le.refl m) hle'⟩
                    refine ⟨_,_,m,_,_,fin ?_,Mem.le.refl m,hext,hsit,.ms (more_self _ _ _) (Nat.le_refl _) (fun _=>rfl) ⟨_,_,_,rfl⟩⟩
                    rw [ey]
                    exact hrun
                  · cases hx
            · cases hx
          · cases hx
        · cases hx
      · cases hx
    · cases hx
  · cases hx
end
end Go.Am
namespace Go.Am
open Go Go.Hb
open Go.Gw (tk tf tz tsl tar tpl isAggD)
section
variable {P:Program} {E:Entry} {m:Mem} {φ:Ph} {μ:Own} {st:Sto} {ρ:AEnv} {a:Act} {w:World} {dst:Option Nat} {ty:TypeId} {pos:String} {after:Array Edge} {gd:Option (Nat × Bool)}
theorem rep_len {α:Type} (zs:List α) (len:Nat):((List.range len).flatMap fun _=>zs).length=len * zs.length:=by
  induction len with
  |zero=>simp
  |succ k ih=>rw [List.range_succ,List.flatMap_append,List.length_append,ih]; simp [Nat.succ_mul]
theorem rep_get {α:Type} (zs:List α):∀ (len i:Nat),((List.range len).flatMap fun _=>zs)[i]? = if i < len * zs.length then zs[i % zs.length]? else none
  |0,i=>by simp
  |len + 1,i=>by
    have hl:=rep_len zs len
    rw [List.range_succ,List.flatMap_append]
    simp only [List.flatMap_cons,List.flatMap_nil,List.append_nil]
    by_cases h:i < len * zs.length
    · rw [List.getElem?_append_left (by omega),rep_get zs len i,if_pos h,if_pos (by rw [Nat.succ_mul]; omega)]
    · rw [List.getElem?_append_right (by omega),hl]
      by_cases h2:i < (len + 1) * zs.length
      · rw [if_pos h2]
        congr 1
        rw [Nat.succ_mul] at h2
        have hz:0 < zs.length:=by omega
        have e:i=(i - len * zs.length) + len * zs.length:=by omega
        rw [e,Nat.add_mul_mod_self_right,Nat.add_sub_cancel,Nat.mod_eq_of_lt (by omega)]
      · rw [if_neg h2]
        rw [Nat.succ_mul] at h2
        exact List.getElem?_eq_none_iff.2 (by omega)
theorem rep_R {zs:List PV} {zv:List Value} (h:Rl m φ zs zv) (hc:zs.all cell=true) (len:Nat):Rl m φ ((List.range len).flatMap fun _=>zs) ((List.range len).flatMap fun _=>zv)∧((List.range len).flatMap fun _=>zs).all cell=true:=by
  refine ⟨⟨?_,fun i c v hc hv=>?_⟩,?_⟩
  · simp [List.length_flatMap,h.1]
  · rw [rep_get] at hc hv
    split at hc
    · rename_i hi
      rw [← h.1,if_pos hi] at hv
      exact h.2 _ c v hc hv
    · cases hc
  · simp only [List.all_flatMap]
    exact List.all_eq_true.2 fun _ _=>hc
theorem cuts_flat {ws:List Value} {sz:Nat}:∀ {len:Nat},ws.length=len * sz→((List.range len).map fun i=>Gw.cut ws (i * sz) sz).flatten=ws:=by
  intro len
  induction len generalizing ws with
  |zero=>intro h; have:ws=[]:=List.eq_nil_of_length_eq_zero (by simpa using h); subst this; simp
  |succ k ih =>
    intro h
    rw [Nat.succ_mul] at h
    have h1:=ih (ws:=ws.take (k * sz)) (by simp; omega)
    rw [List.range_succ,List.map_append,List.flatten_append]
    have h2:((List.range k).map fun i=>Gw.cut ws (i * sz) sz)=((List.range k).map fun i=>Gw.cut (ws.take (k * sz)) (i * sz) sz):=by
      apply List.map_congr_left
      intro i hi
      have hi:=List.mem_range.1 hi
      unfold Gw.cut
      rw [List.drop_take,List.take_take]
      congr 1
      have:(i + 1) * sz ≤ k * sz:=Nat.mul_le_mul_right _ hi
      rw [Nat.succ_mul] at this
      omega
    rw [h2,h1]
    simp only [List.map_cons,List.map_nil,List.flatten_cons,List.flatten_nil,List.append_nil,Gw.cut]
    rw [List.take_of_length_le (l:=ws.drop (k * sz)) (by simp; omega),List.take_append_drop]
theorem elems_R {ag:Bool} {cs xs:List PV} {ws:List Value} {sz len:Nat} (h:elems ag cs sz len=some xs) (hr:Rl m φ cs ws) (hc:cs.all cell=true) (hsz:xs.all (fun x=>Nat.beq x.cells.length sz)=true) (hl:ws.length=len * sz):xs.length=len∧RowR m φ sz xs ((List.range len).map fun i=>Gw.cut ws (i * sz) sz):=by
  unfold elems at h
  have hxl:xs.length=len:=by rw [mapO_length h,List.length_range]
  refine ⟨hxl,by simp [hxl],fun i x vs hx hv=>?_⟩
  obtain ⟨i',h1,h2⟩:=mapO_back h hx
  have hlt:i < len:=by have:=(List.getElem?_eq_some_iff.1 hx).1; omega
  rw [List.getElem?_range hlt] at h1
  cases h1
  rw [List.getElem?_map,List.getElem?_range hlt] at hv
  simp only [Option.map_some,Option.some.injEq] at hv
  subst hv
  have hxs:=Nat.eq_of_beq_eq_true (List.all_eq_true.1 hsz x (List.mem_of_getElem? hx))
  have hle:(i + 1) * sz ≤ len * sz:=Nat.mul_le_mul_right _ hlt
  rw [Nat.succ_mul] at hle
  have hcl:(Gw.cut ws (i * sz) sz).length=sz:=by unfold Gw.cut; simp; omega
  have hcut:=(hr.drop (i * sz)).take sz
  unfold loadP at h2
  cases ag with
  |true =>
    simp only at h2
    split at h2
    · cases h2
      exact ⟨hxs,hcl,all_take (all_drop hc _) _,hcut⟩
    · cases h2
  |false =>
    simp only at h2
    have hcx:=List.all_eq_true.1 hc x (List.mem_of_getElem? h2)
    have hcells:x.cells=[x]:=by cases x <;> simp [cell] at hcx <;> rfl
    rw [hcells] at hxs ⊢
    simp only [List.length_cons,List.length_nil,Nat.zero_add] at hxs
    subst hxs
    refine ⟨rfl,hcl,by simp [hcx],?_⟩
    have e:(cs.drop (i * 1)).take 1=[x]:=by
      apply List.ext_getElem?
      intro j
      rw [List.getElem?_take,List.getElem?_drop]
      cases j with
      |zero=>simpa using h2
      |succ j=>simp
    rw [e] at hcut
    exact hcut
theorem acts_buildSlice {T:TypeId} {len:Nat} {lit:Bool} {parts:Array (Nat × Operand)} {r:AR} (hs:Sit E m φ μ st w) (h:EnvR m φ ρ a) (hx:sBuildSlice P lit ρ st T len parts=some r):Acts P E m φ st w a ⟨dst,.buildSlice T len parts,ty,pos,after,gd⟩ r:=by
  unfold sBuildSlice at hx
  split at hx
  · rename_i t sz ht
    split at hx
    · rename_i zs pv ag k hz hpv hk
      split at hx
      · rename_i hb
        simp only [Bool.and_eq_true] at hb
        have hlen:=Nat.le_of_ble_eq_true hb.1.1
        have hzl:=Nat.eq_of_beq_eq_true hb.1.2
        have hpos':0 < sz:=by simpa [Nat.blt_eq] using hb.2
        have hlm:len ≤ len * sz:=Nat.le_mul_of_pos_right _ hpos'
        split at hx
        · rename_i cs hf
          split at hx
          · rename_i xs hel
            split at hx
            · rename_i hsz
              unfold zeroP at hz
              split at hz
              · rename_i z hzz
                obtain ⟨hr,hc⟩:=ofCells_R (m:=m) (φ:=φ) hz
                obtain ⟨hr2,hc2⟩:=rep_R hr hc len
                obtain ⟨ws,h1,h2,h3⟩:=fillP_R hf hr2 hc2 (avalP_R h hpv)
                have hfl:cs.length=len * sz:=by
                  have hfp:∀ {place:Nat→Option (Nat × Nat)} {pv:List (Nat × PV)} {c d:List PV},fillP place c pv=some d→d.length=c.length:=by
                    intro place pv
                    induction pv with
                    |nil=>intro c d h; simp [fillP] at h; rw [h]
                    |cons p r ih =>
                      intro c d h
                      obtain ⟨i,x⟩:=p
                      simp only [fillP] at h
                      split at h
                      · split at h
                        · rename_i hbb
                          simp only [Bool.and_eq_true] at hbb
                          have e1:=Nat.eq_of_beq_eq_true hbb.1.1
                          have e2:=Nat.le_of_ble_eq_true hbb.1.2
                          rw [ih h]
                          unfold updP
                          simp
                          omega
                        · cases h
                      · cases h
                  rw [hfp hf,rep_len,hzl]
                have hwl:ws.length=len * sz:=by rw [← h2.1]; exact hfl
                obtain ⟨hxl,hrow⟩:=elems_R hel h2 h3 hsz hwl
                have hflat:=cuts_flat hwl
                -- the run
                have hrun:(execOp a.eval ⟨dst,.buildSlice T len parts,ty,pos,after,gd⟩).run P w = .ok (.value (.slice (some ⟨w.heap.size,0,none⟩) len len)) { w with heap:=w.heap.push (.cells ws.toArray t (0,0)) }:=by
                  unfold tsl at ht
                  split at ht
                  · rename_i e' he
                    cases hi:P.info? e' with
                    |none=>simp [hi] at ht
                    |some ii =>
                      simp [hi] at ht
                      obtain ⟨rfl,rfl⟩:=ht
                      simp [tz,hi] at hzz
                      have hzv:z.cells.toList.length=ii.size:=by rw [← hr.1]; exact hzl
                      have hzv':z.cells.size=ii.size:=by simpa using hzv
                      have hfill:=Gw.fill_of_fillL _ _ _ _ h1
                      have hs1:(sizeOf e').run P w = .ok ii.size w:=by simp [sizeOf,typeInfo,hi]
                      have hz2:(zeroValue e').run P w = .ok z w:=by simp [zeroValue,typeInfo,hi,hzz]
                      have hsmall:¬ (len * ii.size > 2 ^ 24):=by omega
                      have hpm:(parts.map fun x=>(x.1,a.eval x.2)).toList=parts.toList.map fun p=>(p.1,a.eval p.2):=by simp
                      by_cases h0:len * ii.size=0
                      · have e0:((List.range len).flatMap fun _=>z.cells.toList)=[]:=List.eq_nil_of_length_eq_zero (by rw [rep_len,hzv,h0])
                        rw [e0] at hfill
                        have hrg:(Array.range (len * ii.size)).map (fun i=>(#[]:Array Value)[i % (#[]:Array Value).size]!)=([]:List Value).toArray:=by simp [h0]
                        simp only [execOp,Instr.buildSlice,Sem.run_bind,run_underlying he,Result.andThen_ok,hs1,if_neg hsmall,Sem.run_pure,if_pos h0,hrg,hpm,hfill,newRow,newObj,Sem.run]
                      · have hcells:(Array.range (len * ii.size)).map (fun i=>z.cells[i % z.cells.size]!)=((List.range len).flatMap fun _=>z.cells.toList).toArray:=by
                          apply Array.ext'
                          apply List.ext_getElem?
                          intro i
                          rw [List.toList_toArray,rep_get,hzv]
                          simp only [Array.toList_map,Array.toList_range,List.getElem?_map]
                          by_cases hi':i < len * ii.size
                          · rw [List.getElem?_range hi',if_pos hi']
                            have hpos:0 < ii.size:=Nat.pos_of_ne_zero (fun e=>h0 (by rw [e]; simp))
                            have hm:=Nat.mod_lt i hpos
                            simp only [Option.map_some,hzv']
                            have hlt:i % ii.size < z.cells.size:=by omega
                            rw [Array.getElem!_eq_getD,Array.getD_eq_getD_getElem?,Array.getElem?_eq_getElem hlt]
                            simp [hlt]
                          · rw [List.getElem?_eq_none_iff.2 (by simp; omega),if_neg hi']
                            rfl
                        simp only [execOp,Instr.buildSlice,Sem.run_bind,run_underlying he,Result.andThen_ok,hs1,if_neg hsmall,Sem.run_pure,if_neg h0,hz2,hcells,hpm,hfill,newRow,newObj,Sem.run]
                  · cases ht
                have hg:=hs.good.new (.cells ws.toArray t (0,0))
                split at hx
                · rename_i hpur0
                  have hpur:=(Bool.and_eq_true _ _ ▸ hpur0:xs.all (pur 6)=true∧(!lit)=true).1
                  cases hx
                  -- known for good at once
                  have hold:∀ (o:Nat) u,ws[o]? = some u→∃ c T fr,({ w with heap:=w.heap.push (.cells ws.toArray t (0,0)) }:World).heap[w.heap.size]? = some (.cells c T fr)∧c[o]? = some u:=fun o u ho=>⟨ws.toArray,t,(0,0),by simp,by simpa using ho⟩
                  obtain ⟨hg2,hle2⟩:=hg.tell (b:=w.heap.size) (cs:=ws) rfl hold (μ':=μ) (fun s hs'=>.inl hs') hs.good.apart
                  refine ⟨_,_,m.add w.heap.size ws,φ,μ,hrun,hle2,Ext.refl st φ,⟨hg2,hs.sto.mono hle2 (Le.refl φ) (fun _ _ _=>rfl),hs.dom⟩,?_⟩
                  rw [← hxl]
                  have hmax':xs.length ≤ maxLen:=by simp only [maxLen]; omega
                  refine .sl w.heap.size 0 (fun i=>Gw.cut ws (i * sz) sz) (fun _=>rfl) (Nat.le_refl _) hmax' (fun _=>rfl) (fun i x hxi=>?_) (fun i x j c u hxi hc' hu=>?_) (fun _ e=>absurd e (by omega))
                  · have hlt:i < len:=by have:=(List.getElem?_eq_some_iff.1 hxi).1; omega
                    obtain ⟨q1,q2,q3,q4⟩:=hrow.2 i x (Gw.cut ws (i * sz) sz) hxi (by rw [List.getElem?_map,List.getElem?_range hlt]; rfl)
                    refine ⟨q1,q2,fun j u hu=>?_,q3⟩
                    rw [Nat.zero_add]
                    exact Mem.add_get (Gw.cut_get hu)
                  · have hlt:i < len:=by have:=(List.getElem?_eq_some_iff.1 hxi).1; omega
                    obtain ⟨q1,q2,q3,q4⟩:=hrow.2 i x (Gw.cut ws (i * sz) sz) hxi (by rw [List.getElem?_map,List.getElem?_range hlt]; rfl)
                    have hpx:=List.all_eq_true.1 hpur x (List.mem_of_getElem? hxi)
                    have:pur 6 c=true:=by
                      unfold PV.cells at hc'
                      split at hc'
                      · simp only [pur] at hpx
                        exact pur_up (List.all_eq_true.1 hpx c (List.mem_of_getElem? hc'))
                      · cases j with
                        |zero=>simp at hc'; subst hc'; exact hpx
                        |succ j=>simp at hc'
                    exact (R.pure 6 this (q4.2 j c u hc' hu)).mono hle2 (Le.refl _)
                · cases hx
                  have hown:({ w with heap:=w.heap.push (.cells ws.toArray t (0,0)) }:World).ownsRow 0 t sz (.slice (some ⟨w.heap.size,0,none⟩) len len) len ws:=by
                    refine ⟨hwl,.inr ⟨w.heap.size,len,ws.toArray,rfl,Nat.zero_le _,by simp,Nat.le_refl _,by simp only [maxLen]; omega,by simpa using hwl,?_⟩⟩
                    rw [List.toList_toArray,← hwl,List.take_length]
                  have hg1:=hg.turn (w':={ w with heap:=w.heap.push (.cells ws.toArray t (0,0)) }) (r':=.row false (.slice (some ⟨w.heap.size,0,none⟩) len len) t sz len ws) rfl rfl rfl (Nat.le_refl _) (fun _ _ _=>rfl) (fun b' o u hf hm=>hg.sub b' o u hm) hown
                    (fun b' hf=>.inl ⟨hf,by simp [Res.lim]⟩)
                  have hle':Le φ (more φ st.length (.row (.slice (some ⟨w.heap.size,0,none⟩) len len) len sz)):=le_more (hs.dom _ (Nat.le_refl _))
                  obtain ⟨hsit,hext⟩:=hs.push (o:=.row false t sz xs) hg1 ⟨some ⟨w.heap.size,0,none⟩,len,(List.range len).map fun i=>Gw.cut ws (i * sz) sz,by rw [more_self,hxl],by rw [hxl,hflat],hpos',hrow.mono (Mem.le.refl m) hle'⟩
                  exact ⟨_,_,m,_,_,hrun,Mem.le.refl m,hext,hsit,.ms (more_self _ _ _) (Nat.le_refl _) (fun _=>rfl) ⟨_,_,_,rfl⟩⟩
              · cases hz
            · cases hx
          · cases hx
        · cases hx
      · cases hx
    · cases hx
  · cases hx
end
end Go.Am
