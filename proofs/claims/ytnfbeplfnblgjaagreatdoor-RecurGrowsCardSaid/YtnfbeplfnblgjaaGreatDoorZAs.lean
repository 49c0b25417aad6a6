/- Operations of the plain machine that act: the model's do the same. Plain lemmas, no statement of the seat. -/
import Derived.Test.YtnfbeplfnblgjaaGreatDoorZAq
import Derived.Conc.SmallLaws
set_option linter.all false
namespace Go.Am
open Go Go.Hb
open Go.Gw (tk tf tz tsl tar tpl isAggD)
def more(φ:Ph)(id:Nat)(p:Phi):Ph:=fun j=>if j=id then some p else φ j
theorem more_self(φ:Ph)(id:Nat)(p:Phi):more φ id p id=some p:=by simp[more]
variable{id:Nat}{φ:Ph}{p:Phi}
theorem more_other{j:Nat}(h:j≠id):more φ id p j=φ j:=by simp[more,h]
theorem le_more(h:φ id=none):Le φ (more φ id p):=fun j=>by
 by_cases e:j=id
 ·grind
 ·rw[more_other e];exact Le.refl φ j
section
variable{P:Program}{E:Entry}{m:Mem}{φ:Ph}{μ:Own}{st:Sto}{ρ:AEnv}{a:Act}{w:World}{dst:Option Nat}{ty:TypeId}{pos:String}{after:Array Edge}{gd:Option (Nat×Bool)}
def Acts(P:Program)(E:Entry)(m:Mem)(φ:Ph)(st:Sto)(w:World)(a:Act)(o:Oper):AR→Prop
 | .val x st'=>∃v w' m' φ' μ',(execOp a.eval o).run P w=.ok (.value v) w'∧Mem.le m m'∧Ext st st' φ φ'∧Sit E m' φ' μ' st' w'∧R m' φ' x v
 | .unit st'=>∃w' m' φ' μ',(execOp a.eval o).run P w=.ok .skip w'∧Mem.le m m'∧Ext st st' φ φ'∧Sit E m' φ' μ' st' w'
 | .pan x st'=>∃v w' m' φ' μ',(execOp a.eval o).run P w=.halt (.panic v) w'∧Mem.le m m'∧Ext st st' φ φ'∧Sit E m' φ' μ' st' w'∧R m' φ' x v
variable{r:AR}{n x y:Operand}{o:SO}{st':Sto}{T:TypeId}{v:Value}{w':World}
theorem Sit.push{p:Phi}{r:Res}(hs:Sit E m φ μ st w)(hg:Hb.Good E w' m (r::μ))(ho:SRo m (more φ st.length p) st.length o [r]):Sit E m (more φ st.length p) (μ++[r]) (st++[o]) w'∧Ext st (st++[o]) φ (more φ st.length p):=by
 have hle:Le φ (more φ st.length p):=le_more (hs.dom _ (Nat.le_refl _));refine⟨⟨hg.perm (List.perm_append_singleton r μ).symm,SR.snoc (hs.sto.mono (Mem.le.refl m) hle fun id _ h=>more_other (by omega)) (by grind),fun id h=>?_⟩,⟨hle,by simp,fun id h=>?_⟩⟩
 ·simp only[List.length_append,List.length_cons,List.length_nil] at h;rw[more_other (by omega)]
  exact hs.dom id (by omega)
 ·have hlt:=(List.getElem?_eq_some_iff.1 h).1;rw[List.getElem?_append_left hlt,more_other (by omega)]
  exact⟨h,rfl⟩
theorem run_newVar:(newVar T v).run P w=.ok ⟨w.heap.size,0,none⟩ { w with heap:=w.heap.push (.cells v.cells T (0,0)) }:=by
 simp[newVar,newRow,newObj,Sem.run]
theorem box_sit{cs:List PV}(hs:Sit E m φ μ st w)(hr:Rl m φ cs v.cells.toList)(hc:cs.all cell=true):
  ∃φ' μ',Ext st (st++[.box T cs]) φ φ'∧Sit E m φ' μ' (st++[.box T cs]) { w with heap:=w.heap.push (.cells v.cells T (0,0)) }∧φ' st.length=some (.blk w.heap.size):=by
 have hg:=hs.good.new (.cells v.cells T (0,0));obtain⟨h1,h2⟩:=hs.push (p:=.blk w.heap.size) (o:=.box T cs) (r:=bx w.heap.size T v.cells.toList) (w':={ w with heap:=w.heap.push (.cells v.cells T (0,0)) }) (by simpa using hg)
  ⟨w.heap.size,v.cells.toList,more_self _ _ _,rfl,hr.mono (Mem.le.refl m) (le_more (hs.dom _ (Nat.le_refl _))),hc⟩
 exact⟨_,_,h2,h1,more_self _ _ _⟩
theorem acts_box(hs:Sit E m φ μ st w)(h:EnvR m φ ρ a)(hx:sBox ρ st T x=some r):Acts P E m φ st w a ⟨dst,.box T x,ty,pos,after,gd⟩ r:=by
 unfold sBox at hx;split at hx
 ·rename_i v hv;split at hx
  ·rename_i hc;cases hx;obtain⟨φ',μ',h1,h2,h3⟩:=box_sit (T:=T) hs (cells_R (aval_R h hv)) hc;refine⟨.pointer (some ⟨w.heap.size,0,none⟩),_,m,φ',μ',?_,Mem.le.refl m,h1,h2,.bp h3⟩;simp[execOp,Instr.box,run_newVar]
  ·cases hx
 ·cases hx
theorem acts_alloc(hs:Sit E m φ μ st w)(hx:sAlloc P st T=some r):Acts P E m φ st w a ⟨dst,.alloc T,ty,pos,after,gd⟩ r:=by
 unfold sAlloc at hx;split at hx
 ·rename_i cs hz;cases hx;unfold zeroP at hz;split at hz
  ·rename_i z hzz;obtain⟨hr,hc⟩:=ofCells_R (m:=m) (φ:=φ) hz;obtain⟨φ',μ',h1,h2,h3⟩:=box_sit (T:=T) hs hr hc;refine⟨.pointer (some ⟨w.heap.size,0,none⟩),_,m,φ',μ',?_,Mem.le.refl m,h1,h2,.bp h3⟩;cases hi:P.info? T with
   |none=>simp[tz,hi] at hzz
   |some i=>
    simp_all[tz,execOp,Instr.alloc,zeroValue,typeInfo,run_newVar]
  ·cases hz
 ·cases hx
theorem Sit.turn{i:Nat}{o':SO}{r r':Res}(hs:Sit E m φ μ st w)(ho:st[i]?=some o)(hne:o≠.dead){μ1 μ2:Own}(hμ:μ=μ1++([r]++μ2))
  (hset:SR m φ 0 (st.set i o') (μ1++([r']++μ2))) (hos:w'.os=w.os) (htape:w'.tape=w.tape) (hout:w'.output=w.output) (hsize:w.heap.size≤w'.heap.size)
  (hk:∀b,b<w.heap.size→r.foot≠some b→w'.heap[b]?=w.heap[b]?) (hc:∀b k v,r.foot=some b→m b k=some v→∃c T fr,w'.heap[b]?=some (.cells c T fr)∧c[k]?=some v) (hr:r'.holds w')
  (hf:∀b,r'.foot=some b→(r.foot=some b∧r.lim≤r'.lim)∨w.heap.size≤b):∃μ',Sit E m φ μ' (st.set i o') w'∧Ext st (st.set i o') φ φ:=by
 subst hμ;have h1:Hb.Good E w m (r::(μ1++μ2)):=hs.good.perm (by simp)
 have h2:=h1.turn hos htape hout hsize hk hc hr hf;refine⟨_,⟨h2.perm (by simpa using List.perm_middle.symm),hset,fun id h=>hs.dom id (by simpa using h)⟩,⟨Le.refl φ,by simp,fun id h=>?_⟩⟩
 grind
theorem flatten_get{sz:Nat}:∀{vss:List (List Value)},(∀us∈vss,us.length=sz)→∀(i j:Nat),j<sz→vss.flatten[i*sz+j]?=(vss[i]?).bind fun us=>us[j]?
 |[],_,i,j,_=>by simp
 |us::vss,h,i,j,hj=>by
  have h0:=h us List.mem_cons_self;cases i with
  |zero=>grind
  |succ i=>
   rw[List.flatten_cons,List.getElem?_append_right (by grind),h0]
   have:=flatten_get (vss:=vss) (fun us hu=>h us (List.mem_cons_of_mem _ hu)) i j hj
   grind
theorem flatten_set_length:∀{vss:List (List Value)}{i:Nat}{vs us:List Value},vss[i]?=some vs→us.length=vs.length→(vss.set i us).flatten.length=vss.flatten.length
 |[],i,vs,us,h,_=>by simp at h
 |x::vss,i,vs,us,h,hl=>by
  cases i with
  |zero=>grind
  |succ i=>simp only[List.set_cons_succ,List.flatten_cons,List.length_append];rw[flatten_set_length (by simpa using h) hl]
theorem acts_store(hs:Sit E m φ μ st w)(h:EnvR m φ ρ a)(hx:sStore P ρ st T x y=some r):Acts P E m φ st w a ⟨dst,.store T x y,ty,pos,after,gd⟩ r:=by
 unfold sStore at hx;split at hx
 ·rename_i ag k p v ht hp hv;split at hx
  ·rename_i hb;rw[Bool.and_eq_true] at hb;have hk:=Nat.eq_of_beq_eq_true hb.1;cases hst:storeS st k v p with
   |none=>simp[hst] at hx
   |some st'=>
    simp only[hst,Option.map_some,Option.some.injEq] at hx;subst hx;unfold storeS at hst;split at hst
    ·rename_i id off;split at hst
     ·rename_i T' cs ho;split at hst
      ·rename_i hle;cases hst;have hle':=Nat.le_of_ble_eq_true hle;have hr:=aval_R h hp;have hrv:=aval_R h hv;have hcl:=cells_R hrv;generalize he:a.eval x=ev at hr;cases hr with
       | @bp _ _ _ b hφ=>
        obtain⟨μ1,rs,μ2,h1,h2,h3⟩:=hs.sto.get ho;obtain⟨b',vs,h4,h5,h6,h7⟩:=h2;rw[Nat.zero_add,hφ] at h4;cases h4;subst h5;have hb2:w.heap[b]?=some (.cells vs.toArray T' (0,0)):=hs.good.own (r:=bx b T' vs) (by rw[h1];simp)
        have h1c:∀u∈(a.eval y).cells.toList,u.oneCell'=true:=fun u hu=>by
         obtain⟨i,hi⟩:=List.getElem?_of_mem hu;obtain⟨c,hc⟩:∃c,v.cells[i]?=some c:=⟨_,List.getElem?_eq_getElem (by have:=hcl.1;grind)⟩
         exact(hcl.2 i c u hc hi).one (List.all_eq_true.1 hb.2 c (List.mem_of_getElem? hc))
        have hlen:off+(a.eval y).cells.toList.length≤vs.length:=by rw[←hcl.1,←h6.1];omega
        have hstc:=run_storeCells_at P b off T' (a.eval y).cells.toList 0 vs.toArray w hb2 (by simpa using hlen) h1c
        obtain⟨μ',hsit,hext⟩:=hs.turn (w':=w.setRow b (Gw.upd vs off (a.eval y).cells.toList).toArray) (r':=bx b T' (Gw.upd vs off (a.eval y).cells.toList)) (o':=.box T' (updP cs off v.cells)) ho (by simp) h1
         (h3 (Mem.le.refl m) (Le.refl φ) (fun _ _=>rfl) ⟨b,_,by grind,rfl,updP_R h6 hcl,updP_all h7 hb.2⟩) rfl rfl rfl (by simp[World.setRow])
         (fun b' _ hne=>setRow_other w b b' _ (fun e=>hne (by simp[Res.foot,e])))
         (fun b' o u hf hm=>by
          have:=(hs.good.feet (bx b T' vs) (by rw[h1];simp) b' hf).2 o (Nat.zero_le _)
          grind)
         (setRow_heap w b _ _ T' (0,0) hb2) (fun b' e=>.inl ⟨e,Nat.le_refl _⟩)
        refine⟨_,m,φ,μ',?_,Mem.le.refl m,hext,hsit⟩;unfold tk at ht;split at ht
        ·rename_i dd ii hdd hii;simp only[Option.some.injEq,Prod.mk.injEq] at ht;have hs2:(a.eval y).cells.size=ii.size:=by rw[ht.2,←hk,hcl.1];simp
         simp_all[Nat.add_zero,execOp,Instr.storeAt,Instr.sureAddr,storeVar,sizeOf,typeInfo,Gw.upd]
        ·cases ht
      ·cases hst
     ·cases hst
    ·rename_i id len i off;split at hst
     ·rename_i t sz xs ho;split at hst
      ·rename_i x0 hlen hx0;split at hst
       ·rename_i hbb;cases hst;rw[Bool.and_eq_true] at hbb;have hle':=Nat.le_of_ble_eq_true hbb.1;have hel:=Nat.eq_of_beq_eq_true hbb.2;have hr:=aval_R h hp;have hrv:=aval_R h hv;have hcl:=cells_R hrv;generalize he:a.eval x=ev at hr;cases hr with
        | @rp _ _ _ _ _ n' sz' sv v' hφ hle hvv hpp=>
         obtain⟨μ1,rs,μ2,h1,h2,h3⟩:=hs.sto.get ho;obtain⟨ad,cap,vss,h4,h5,hsz,h6⟩:=h2;rw[Nat.zero_add,hφ] at h4;cases h4;subst h5;obtain⟨b,cap',e1,rfl⟩:=hvv (Nat.eq_of_beq_eq_true hlen);cases e1;have hown:rowM w t sz (.slice (some ⟨b,0,none⟩) xs.length cap) xs.length vss.flatten:=hs.good.own (r:=.row false (.slice (some ⟨b,0,none⟩) xs.length cap) t sz xs.length vss.flatten) (by rw[h1];simp)
         obtain⟨cur,fz,hheap,hfz,hnc,hcm,hcs,htake⟩:∃cur fz,w.heap[b]?=some (.cells cur t fz)∧(fz=(0,0)∨cur.size≤fz.1∧markT t=true)∧xs.length≤cap∧cap≤maxLen∧cur.size=cap*sz∧cur.toList.take (xs.length*sz)=vss.flatten:=by
          rcases hown.2 with⟨e2,_⟩|⟨g,cap2,cur,fz,e2,q1,q0,q2,q3,q4,q5⟩
          ·cases e2
          grind
         have hilt:=(List.getElem?_eq_some_iff.1 hx0).1;obtain⟨vs,hvs⟩:∃vs,vss[i]?=some vs:=⟨_,List.getElem?_eq_getElem (by have:=h6.1;omega)⟩
         obtain⟨q1,q2,q3,q4⟩:=h6.2 i x0 vs hx0 hvs;have hvl:(a.eval y).cells.toList.length=k:=by rw[←hcl.1];exact hk
         have hvl':(a.eval y).cells.size=k:=by simpa using hvl
         have h1c:∀u∈(a.eval y).cells.toList,u.oneCell'=true:=fun u hu=>by
          obtain⟨i,hi⟩:=List.getElem?_of_mem hu;obtain⟨c,hc⟩:∃c,v.cells[i]?=some c:=⟨_,List.getElem?_eq_getElem (by grind)⟩
          exact(hcl.2 i c u hc hi).one (List.all_eq_true.1 hb.2 c (List.mem_of_getElem? hc))
         have hisz:(i+1)*sz≤xs.length*sz:=Nat.mul_le_mul_right _ hilt;have hisz2:xs.length*sz≤cap*sz:=Nat.mul_le_mul_right _ hnc;rw[Nat.succ_mul] at hisz;have hplace:i*sz+off+k≤cur.size:=by rw[hcs];omega
         have hstc:=run_storeCells_m P b (i*sz+off) t fz (a.eval y).cells.toList 0 cur w hheap (hfz.imp (fun e=>e) (fun e=>e.1)) (by rw[hvl];omega) h1c
         -- what the row holds then
         have hflat:Gw.upd vss.flatten (i*sz+off) (a.eval y).cells.toList=(vss.set i (Gw.upd vs off (a.eval y).cells.toList)).flatten:=by
          have hfl:=h6.flat;have hupl:(Gw.upd vs off (a.eval y).cells.toList).length=sz:=by rw[Gw.upd_length (by omega)];exact q2
          have hrow':RowR m φ sz xs vss:=h6;apply List.ext_getElem?
          intro j;have hlen2:(vss.set i (Gw.upd vs off (a.eval y).cells.toList)).flatten.length=vss.flatten.length:=flatten_set_length hvs (by rw[hupl,q2])
          by_cases hj:j<vss.flatten.length
          ·rw[hfl] at hj;have hdm:j/sz*sz+j%sz=j:=by rw[Nat.mul_comm];exact Nat.div_add_mod j sz
           have hmod:=Nat.mod_lt j hsz;have hdiv:j/sz<vss.length:=by rw[←h6.1];exact Nat.div_lt_of_lt_mul (by grind)
           have e3:=flatten_get (sz:=sz) (vss:=vss.set i (Gw.upd vs off (a.eval y).cells.toList)) (fun us hus=>by
            rcases List.mem_or_eq_of_mem_set hus with h'|h'
            ·obtain⟨i',hi'⟩:=List.getElem?_of_mem h';obtain⟨x',hx'⟩:∃x',xs[i']?=some x':=⟨_,List.getElem?_eq_getElem (by have:=h6.1;grind)⟩
             exact(h6.2 i' x' us hx' hi').2.1
            ·rw[h'];exact hupl) (j/sz) (j%sz) hmod
           have e4:=flatten_get (sz:=sz) (vss:=vss) (fun us hus=>by
            obtain⟨i',hi'⟩:=List.getElem?_of_mem hus;obtain⟨x',hx'⟩:∃x',xs[i']?=some x':=⟨_,List.getElem?_eq_getElem (by have:=h6.1;grind)⟩
            exact(h6.2 i' x' us hx' hi').2.1) (j/sz) (j%sz) hmod
           rw[hdm] at e3 e4;rw[e3,Gw.upd_get (by rw[hfl];omega),List.getElem?_set]
           by_cases hij:i=j/sz
           ·subst hij;rw[if_pos rfl,if_pos hdiv];simp only[Option.bind_some];rw[Gw.upd_get (by omega)]
            grind
           ·rw[if_neg hij];have hne:¬(i*sz+off≤j∧j<i*sz+off+(a.eval y).cells.toList.length):=fun⟨g1,g2⟩=>by
             apply hij;have:i*sz≤j:=by omega
             have h7:j<(i+1)*sz:=by grind
             exact(Nat.div_eq_of_lt_le (by omega) h7).symm
            grind
          ·rw[List.getElem?_eq_none_iff.2 (by rw[Gw.upd_length (by rw[hfl];omega)];omega),List.getElem?_eq_none_iff.2 (by rw[hlen2];omega)]
         have hown':rowM (w.setRow b (cur.toList.take (i*sz+off)++(a.eval y).cells.toList++cur.toList.drop (i*sz+off+(a.eval y).cells.toList.length)).toArray) t sz (.slice (some ⟨b,0,none⟩) xs.length cap) xs.length (vss.set i (Gw.upd vs off (a.eval y).cells.toList)).flatten:=by
          rw[←hflat];refine⟨by rw[Gw.upd_length (by rw[h6.flat];omega)];exact h6.flat,.inr ⟨b,cap,_,fz,rfl,setRow_heap w b cur _ t _ hheap,hfz.imp (fun e=>e) (fun e=>⟨Nat.le_trans (Nat.le_of_eq (by
           grind)) e.1,e.2⟩),hnc,hcm,?_,?_⟩⟩
          ·grind
          ·rw[List.toList_toArray];have e5:cur.toList.take (i*sz+off)++(a.eval y).cells.toList++cur.toList.drop (i*sz+off+(a.eval y).cells.toList.length)=Gw.upd cur.toList (i*sz+off) (a.eval y).cells.toList:=by simp[Gw.upd]
           rw[e5,←htake];apply List.ext_getElem?
           intro j;rw[List.getElem?_take];rw[Gw.upd_get (by simp;omega),Gw.upd_get (by simp;omega)]
           grind
         have hrow2:RowR m φ sz (xs.set i (putElem x0 v off)) (vss.set i (Gw.upd vs off (a.eval y).cells.toList)):=by
          refine⟨by simp[h6.1],fun j x' us hx' hu'=>?_⟩
          rw[List.getElem?_set] at hx' hu'
          by_cases hij:i=j
          ·subst hij;rw[if_pos rfl,if_pos hilt] at hx';rw[if_pos rfl,if_pos (by have:=h6.1;omega)] at hu'
           cases hx';cases hu';have hpe:(putElem x0 v off).cells=updP x0.cells off v.cells∨((putElem x0 v off).cells=v.cells∧x0.cells=[x0]):=by
            unfold putElem;split
            ·exact .inl rfl
            ·rename_i hno;refine .inr ⟨rfl,?_⟩;cases x0<;>first|rfl|grind
           rcases hpe with e6|⟨e6,e7⟩
           ·refine⟨hel,by rw[Gw.upd_length (by omega)];exact q2,?_,?_⟩
            ·rw[e6];exact updP_all q3 hb.2
            ·rw[e6];exact updP_R q4 hcl
           ·have hs1:sz=1:=by grind
            have hk1:k=1:=by rw[e6] at hel;omega
            have ho0:off=0:=by omega
            grind [Gw.upd]
          ·rw[if_neg hij] at hx' hu';exact h6.2 j x' us hx' hu'
         obtain⟨μ',hsit,hext⟩:=hs.turn (w':=w.setRow b (cur.toList.take (i*sz+off)++(a.eval y).cells.toList++cur.toList.drop (i*sz+off+(a.eval y).cells.toList.length)).toArray) (r':=.row false (.slice (some ⟨b,0,none⟩) xs.length cap) t sz xs.length (vss.set i (Gw.upd vs off (a.eval y).cells.toList)).flatten) (o':=.row false t sz (xs.set i (putElem x0 v off))) ho (by simp) h1
          (h3 (Mem.le.refl m) (Le.refl φ) (fun _ _=>rfl) ⟨some ⟨b,0,none⟩,cap,_,by grind,by rw[List.length_set],hsz,hrow2⟩) rfl rfl rfl (by simp[World.setRow])
          (fun b' _ hne=>setRow_other w b b' _ (fun e=>hne (by simp[Res.foot,Value.ownBlock,e])))
          (fun b' o u hf hm=>by
           have:=(hs.good.feet (.row false (.slice (some ⟨b,0,none⟩) xs.length cap) t sz xs.length vss.flatten) (by rw[h1];simp) b' hf).2 o (by simp[Res.lim])
           grind)
          hown' (fun b' e=>.inl ⟨e,Nat.le_refl _⟩)
         refine⟨_,m,φ,μ',?_,Mem.le.refl m,hext,hsit⟩;unfold tk at ht;split at ht
         ·rename_i dd ii hdd hii;simp only[Option.some.injEq,Prod.mk.injEq] at ht
          simp_all[Nat.add_zero,execOp,Instr.storeAt,Instr.sureAddr,storeVar,sizeOf,typeInfo]
         ·cases ht
       ·cases hst
      ·cases hst
     ·cases hst
    ·cases hst
  ·cases hx
 ·cases hx
theorem ptrOne_R{e:TypeId}(h:ptrOne P T e=true):P.underlying T=some (.pointer e)∧P.cellsOf e=1:=by
 unfold ptrOne at h;split at h
 ·rename_i e' hT;rw[Bool.and_eq_true] at h;obtain rfl:=Nat.eq_of_beq_eq_true h.1
  simp_all
 ·cases h
theorem acts_unsafeStr{U:TypeId}(hs:Sit E m φ μ st w)(h:EnvR m φ ρ a)(hx:sUnsafeStr P ρ st x n T=some r):Acts P E m φ st w a ⟨dst,.call ⟨.builtin .unsafeString,#[x,n],#[T,U]⟩,ty,pos,after,gd⟩ r:=by
 unfold sUnsafeStr at hx;split at hx
 ·rename_i id len mm hv hn;split at hx
  ·rename_i p e sz xs ho;split at hx
   ·rename_i hb;simp only[Bool.and_eq_true,decide_eq_true_eq] at hb;obtain⟨hb1,hb2,rfl,hb4,hb5⟩:=hb;have hlen:=Nat.eq_of_beq_eq_true hb1;have hpos:0<len:=by simp_all
    obtain rfl:=Nat.eq_of_beq_eq_true hb4;obtain⟨hT,hc1⟩:=ptrOne_R hb5;split at hx
    ·rename_i l hl;cases hx;have en:=(aval_R h hn).sc_eq;have hr:=aval_R h hv;generalize he:a.eval x=ev at hr;have hll:=mapO_length hl;cases hr with
     | @rp _ _ _ _ _ n' sz' sv v hφ hle hvv hpp=>
      obtain⟨μ1,rs,μ2,h1,h2,h3⟩:=hs.sto.get ho;obtain⟨ad,cap,vss,h4,h5,hsz,h6⟩:=h2;rw[Nat.zero_add,hφ] at h4;cases h4;subst h5;obtain⟨b,cap',e1,rfl⟩:=hvv hlen;cases e1;have hown:rowM w e 1 (.slice (some ⟨b,0,none⟩) xs.length cap) xs.length vss.flatten:=hs.good.own (r:=.row p (.slice (some ⟨b,0,none⟩) xs.length cap) e 1 xs.length vss.flatten) (by rw[h1];simp)
      obtain⟨cur,fz,hheap,hnc,hcm,hcs⟩:∃cur fz,w.heap[b]?=some (.cells cur e fz)∧xs.length≤cap∧cap≤maxLen∧cur.size=cap*1:=by
       rcases hown.2 with⟨e2,_⟩|⟨g,cap2,cur,fz,e2,q1,q0,q2,q3,q4,q5⟩
       ·cases e2
       grind
      have h0:l≠[]:=fun e=>by grind
      have hcells:=hown.cells (g:=b) rfl;have hcell:∀(j:Nat) (c:UInt8),l[j]?=some c→w.cell? ((⟨b,0,none⟩:Addr).add j)=some (.int .u8 (c.toNat:Int)):=fun j c hc=>by
       obtain⟨y,hy,hyc⟩:=mapO_back hl hc;have hye:=u8Of_R hyc;subst hye;obtain⟨vs,hvs⟩:∃vs,vss[j]?=some vs:=⟨_,List.getElem?_eq_getElem (by have:=h6.1;grind)⟩
       obtain⟨q1,q2,q3,q4⟩:=h6.2 j _ vs hy hvs;obtain⟨u,hu⟩:∃u,vs[0]?=some u:=⟨_,List.getElem?_eq_getElem (by omega)⟩
       have hue:=(q4.2 0 _ u rfl hu).sc_eq;subst hue;exact hcells j _ (by have:=h6.at hvs 0 (by omega);grind)
      have hrun:=Lib.run_unsafeString_row (P:=P) w T U ty e hT hc1 b cur.size (by simp[World.shape?,hheap]) l h0 (by omega) (by grind [maxLen]) hcell
      have hl0:l.length≠0:=by simpa using h0
      -- the row is let go
      have hfh:∃fz',(w.freeze ⟨b,0,none⟩ l.length).heap[b]?=some (.cells cur e fz'):=by
       simp_all[World.freeze,Array.getElem?_modify,if_pos]
      obtain⟨fz',hfh⟩:=hfh;have hfo:∀b',b'≠b→(w.freeze ⟨b,0,none⟩ l.length).heap[b']?=w.heap[b']?:=fun b' hne=>by
       grind [World.freeze]
      have hfs:(w.freeze ⟨b,0,none⟩ l.length).heap.size=w.heap.size:=by
       simp_all[World.freeze]
      have hg1:Hb.Good E w m (.row p (.slice (some ⟨b,0,none⟩) xs.length cap) e 1 xs.length vss.flatten::(μ1++μ2)):=hs.good.perm (by rw[h1];simp)
      have hg2:=hg1.turn (w':=w.freeze ⟨b,0,none⟩ l.length) (r':=.row false (.slice none 0 0) e 1 0 []) (by simp_all[World.freeze]) (by simp_all[World.freeze]) (by simp_all[World.freeze]) (Nat.le_of_eq hfs.symm)
       (fun b' _ hne=>hfo b' (fun e'=>hne (by simp[Res.foot,Value.ownBlock,e'])))
       (fun b' o u hf hm=>by
        simp only[Res.foot,Value.ownBlock,Option.some.injEq] at hf;subst hf;obtain⟨c,T',fr,q1,q2⟩:=hg1.sub _ o u hm
        grind)
       ⟨by simp,.inl ⟨rfl,rfl⟩⟩ (fun b' hf=>by simp[Res.foot,Value.ownBlock] at hf)
      have hg3:=hg2.drop (List.sublist_cons_self _ _);have hset:=h3 (m':=m) (φ':=φ) (o':=.dead) (rs':=[]) (Mem.le.refl m) (Le.refl φ) (fun _ _=>rfl) rfl
      refine⟨.string ⟨l.toArray⟩,_,m,φ,μ1++([]++μ2),?_,Mem.le.refl m,⟨Le.refl φ,by simp,fun j hj=>?_⟩,⟨by simpa using hg3,hset,fun j hj=>hs.dom j (by simpa using hj)⟩,.sc rfl⟩
      ·rw[hll,←hlen] at hrun;simp only[execOp,resolve,invoke,builtin,Sem.run_bind,Sem.run_pure,Result.andThen_ok,List.map_toArray,List.map_cons,List.map_nil,he,en,Nat.zero_mul,Nat.add_zero]
       simp_all
      grind
    ·cases hx
   ·cases hx
  ·cases hx
 ·cases hx
theorem acts_conv{s d:TypeId}(hs:Sit E m φ μ st w)(h:EnvR m φ ρ a)(hx:sConv P ρ st s d x=some r):Acts P E m φ st w a ⟨dst,.convert s d x,ty,pos,after,gd⟩ r:=by
 unfold sConv at hx;split at hx
 ·rename_i e b hS hD hv;split at hx
  ·rename_i he;split at hx
   ·rename_i hb;cases hx;rw[Bool.and_eq_true] at hb;have hb':=Nat.le_of_ble_eq_true hb.1;have ex:=(aval_R h hv).sc_eq;have hrun:=run_bytes_of_string (P:=P) w s d e b (strT_R hS) hD he;have hge:=grownCap_ge w b.size 0 e;have hcm:=grownCap_le_maxLen w b.size 0 e (by grind [maxLen])
    generalize grownCap w b.size 0 e=cap at hrun hge hcm;have hlen:b.data.toList.length=b.size:=rfl;have hrs:(bytesRow b cap).size=cap:=by
     simp_all[bytesRow,Array.size_append,Array.size_map,Array.size_replicate]
    have htk:(bytesRow b cap).toList.take (b.size*1)=b.data.toList.map fun c=>Value.int .u8 (c.toNat:Int):=by
     simp_all[bytesRow,Array.toList_append,Array.toList_map,Nat.mul_one,List.length_map]
    have hg0:Hb.Good E (w.drew.alloc (.cells (bytesRow b cap) e ((bytesRow b cap).size,(bytesRow b cap).size+1))) m (.blk w.heap.size (.cells (bytesRow b cap) e ((bytesRow b cap).size,(bytesRow b cap).size+1))::μ):=(hs.good.drew (w.drawn+1)).new _;have hg1:Hb.Good E (w.drew.alloc (.cells (bytesRow b cap) e ((bytesRow b cap).size,(bytesRow b cap).size+1))) m (.row false (.slice (some ⟨w.heap.size,0,none⟩) b.size cap) e 1 b.size (b.data.toList.map fun c=>Value.int .u8 (c.toNat:Int))::μ):=
     hg0.turn (w':=w.drew.alloc (.cells (bytesRow b cap) e ((bytesRow b cap).size,(bytesRow b cap).size+1))) rfl rfl rfl (Nat.le_refl _) (fun _ _ _=>rfl) (fun b' o u hf hm=>hg0.sub b' o u hm)
      ⟨by grind,.inr ⟨w.heap.size,cap,bytesRow b cap,_,rfl,heap_alloc_new w.drew _,.inr ⟨Nat.le_refl _,hb.2⟩,hge,hcm,by omega,htk⟩⟩ (fun b' hf=>.inl ⟨hf,by simp[Res.lim]⟩)
    have hle':Le φ (more φ st.length (.row (.slice (some ⟨w.heap.size,0,none⟩) b.size cap) b.size 1)):=le_more (hs.dom _ (Nat.le_refl _));have hll:(b.data.toList.map fun c=>PV.sc (.int .u8 (c.toNat:Int))).length=b.size:=by grind
    obtain⟨hsit,hext⟩:=hs.push (o:=.row false e 1 (b.data.toList.map fun c=>PV.sc (.int .u8 (c.toNat:Int)))) hg1 ⟨some ⟨w.heap.size,0,none⟩,cap,b.data.toList.map fun c=>[Value.int .u8 (c.toNat:Int)],by rw[more_self,hll],by
      rw[hll];congr 1;congr 1;generalize b.data.toList=l
      induction l with
      |nil=>rfl
      |cons c r ih=>grind,by omega,by simp,fun i y vs hy hvs=>by
      rw[List.getElem?_map] at hy hvs;cases hc:b.data.toList[i]? with
      |none=>grind
      |some c=>
       rw[hc] at hy hvs;simp only[Option.map_some,Option.some.injEq] at hy hvs;subst hy hvs;exact⟨rfl,rfl,rfl,.cons (.sc rfl) .nil⟩⟩
    refine⟨_,_,m,_,_,?_,Mem.le.refl m,hext,hsit,.ms (more_self _ _ _) (Nat.le_of_eq hlen) (fun _=>rfl) ⟨_,_,_,rfl⟩⟩
    simp[execOp,ex,hrun]
   ·cases hx
  ·cases hx
 ·cases hx
theorem acts_makeMap{hint:Option Operand}(hs:Sit E m φ μ st w)(hx:sMakeMap ρ st hint=some r):Acts P E m φ st w a ⟨dst,.makeMap T hint,ty,pos,after,gd⟩ r:=by
 unfold sMakeMap at hx;split at hx
 ·cases hx;have hg:=hs.good.new (.map #[] 0);obtain⟨h1,h2⟩:=hs.push (p:=.blk w.heap.size) (o:=.mp [] []) (r:=.blk w.heap.size (.map #[] 0)) hg ⟨w.heap.size,#[],0,more_self _ _ _,rfl,rfl,.nil⟩;refine⟨.map (some w.heap.size),_,m,_,_,?_,Mem.le.refl m,h2,h1,.mr (more_self _ _ _)⟩;simp[execOp,Instr.makeMap,newObj,Sem.run]
 ·cases hx
theorem acts_makeChan(hs:Sit E m φ μ st w)(h:EnvR m φ ρ a)(hx:sMakeChan P ρ st T n=some r):Acts P E m φ st w a ⟨dst,.makeChan T n,ty,pos,after,gd⟩ r:=by
 unfold sMakeChan at hx;split at hx
 ·rename_i dir e v hT hv;split at hx
  ·rename_i q i hq hi;split at hx
   ·rename_i hb;cases hx;rw[Bool.and_eq_true] at hb;have h1:=Nat.le_of_ble_eq_true hb.1;have h2:=Nat.le_of_ble_eq_true hb.2;obtain⟨k,ek⟩:=nat_int hq (aval_R h hv);have h5:(i.bytes:Int)*(q:Int)≤281474976710544:=by
     omega
    have hrun:=Conc.run_makeChan (P:=P) (w:=w) hT hi k q (by omega) h5
    have hg:=hs.good.new (.chan q #[] false 0 0 false);obtain⟨h3,h4⟩:=hs.push (p:=.blk w.heap.size) (o:=.ch q []) (r:=.blk w.heap.size (.chan q #[] false 0 0 false)) hg ⟨w.heap.size,#[],0,0,more_self _ _ _,rfl,.nil⟩;refine⟨.chan (some w.heap.size),_,m,_,_,?_,Mem.le.refl m,h4,h3,.cr (more_self _ _ _)⟩
    simp_all[execOp,Sem.run_bind,Result.andThen_ok,Sem.run_pure]
   ·cases hx
  ·cases hx
 ·cases hx
theorem mapPut_run{x i v:PV}{xv iv vv:Value}(hs:Sit E m φ μ st w)(h:mapPut P st T x i v=some st')(hx:R m φ x xv)(hi:R m φ i iv)(hv:R m φ v vv):∃w' μ',(Instr.mapUpdate T xv iv vv).run P w=.ok () w'∧Ext st st' φ φ∧Sit E m φ μ' st' w':=by
 unfold mapPut at h;split at h
 ·rename_i d e id k hmt;obtain⟨kt,hT,hkt,hd⟩:=mapT_R hmt;have hk:=hi.sc_eq;subst hk;split at h
  ·rename_i ks vs ho;cases hx with
   | @mr _ _ b hφ=>
    obtain⟨μ1,rs,μ2,h1,h2,h3⟩:=hs.sto.get ho;obtain⟨b',en,clock,h4,h5,h6,h7⟩:=h2;rw[Nat.zero_add,hφ] at h4;cases h4;subst h5;have hb:w.heap[b]?=some (.map en clock):=hs.good.own (r:=.blk b (.map en clock)) (by rw[h1];simp)
    have hset:∀o,(setObj b o).run P w=.ok () { w with heap:=w.heap.setIfInBounds b o }:=fun o=>by simp[setObj,Sem.run,hb]
    have upd:∀(en':Array MapEntry) (clock':Nat) (ks':List Value) (vs':List PV),en'.toList.map (·.key)=ks'→Rl m φ vs' (en'.toList.map (·.val))→∃μ',Ext st (st.set id (.mp ks' vs')) φ φ∧Sit E m φ μ' (st.set id (.mp ks' vs')) { w with heap:=w.heap.setIfInBounds b (.map en' clock') }:=fun en' clock' ks' vs' g1 g2=>by
     obtain⟨μ',hsit,hext⟩:=hs.turn (w':={ w with heap:=w.heap.setIfInBounds b (.map en' clock') }) (r':=.blk b (.map en' clock')) (o':=.mp ks' vs') ho (by simp) h1
      (h3 (Mem.le.refl m) (Le.refl φ) (fun _ _=>rfl) ⟨b,en',clock',by grind,rfl,g1,g2⟩) rfl rfl rfl (by simp)
      (fun b' _ hne=>by
       show(w.heap.setIfInBounds b (.map en' clock'))[b']?=_
       rw[Array.getElem?_setIfInBounds,if_neg (fun e=>hne (by rw[e];rfl))])
      (fun b' o u hf hm=>by
       have:=(hs.good.feet (.blk b (.map en clock)) (by rw[h1];simp) b' hf).2 o (Nat.zero_le _)
       grind)
      (by
       show(w.heap.setIfInBounds b (.map en' clock'))[b]?=_
       grind)
      (fun b' e=>.inl ⟨e,Nat.le_refl _⟩)
     grind
    rw[←h6] at h;split at h
    ·rename_i j hj;cases h;obtain⟨e0,q1,q2,q3,q4⟩:=findK_some hj;simp only[Nat.sub_zero] at q1;obtain⟨q5,q6⟩:=sameNow_eq q4;have hj':j<en.toList.length:=(List.getElem?_eq_some_iff.1 q1).1;have e1:(en.modify j fun e=>{ e with key:=iv,val:=vv }).toList=en.toList.set j { e0 with key:=iv,val:=vv }:=by
      apply List.ext_getElem?
      grind
     obtain⟨μ',r1,r2⟩:=upd (en.modify j fun e=>{ e with key:=iv,val:=vv }) clock (en.toList.map (·.key)) (vs.set j v) (by
       rw[e1,List.map_set,q5.symm];apply List.ext_getElem?
       grind) (by
       rw[e1,List.map_set];refine⟨by simp[h7.1],fun i c u hc hu=>?_⟩
       rw[List.getElem?_set] at hc hu;split at hc
       ·grind
       ·rename_i hij;rw[if_neg hij] at hu;exact h7.2 i c u hc hu)
     refine⟨_,μ',?_,r1,r2⟩;have e2:en[j]?=some e0:=by simpa using q1
     simp[Instr.mapUpdate,run_underlying hT,getObj_plain hb,checkKey_plain hkt hd,findKey_plain hkt q3,e2,Instr.keyThatStays,q6,hset]
    ·rename_i hj;cases h;obtain⟨μ',r1,r2⟩:=upd (en.push { key:=iv,val:=vv,born:=clock }) (clock+1) (en.toList.map (·.key)++[iv]) (vs++[v]) (by simp) (by
      simp only[Array.toList_push,List.map_append,List.map_cons,List.map_nil];exact h7.append (.cons hv .nil))
     refine⟨_,μ',?_,r1,r2⟩;simp[Instr.mapUpdate,run_underlying hT,getObj_plain hb,checkKey_plain hkt hd,findKey_plain hkt (findK_none hj),hset]
    ·cases h
  ·cases h
 ·cases h
theorem acts_mapUpdate{i:Operand}(hs:Sit E m φ μ st w)(h:EnvR m φ ρ a)(hx:sMapPut P ρ st T x i y=some r):Acts P E m φ st w a ⟨dst,.mapUpdate T x i y,ty,pos,after,gd⟩ r∧Acts P E m φ st w a ⟨dst,.insert T x i y,ty,pos,after,gd⟩ r:=by
 unfold sMapPut at hx;split at hx
 ·rename_i u1 u2 u3 h1 h2 h3;obtain⟨st',h4,rfl⟩:=Option.map_eq_some_iff.1 hx;obtain⟨w',μ',q1,q2,q3⟩:=mapPut_run hs h4 (aval_R h h1) (aval_R h h2) (aval_R h h3);exact⟨⟨w',m,φ,μ',by simp[execOp,q1],Mem.le.refl m,q2,q3⟩,⟨w',m,φ,μ',by simp[execOp,q1],Mem.le.refl m,q2,q3⟩⟩
 ·cases hx
theorem acts_panic(hs:Sit E m φ μ st w)(h:EnvR m φ ρ a)(hx:sPanic ρ st x=some r):Acts P E m φ st w a ⟨dst,.panic x,ty,pos,after,gd⟩ r:=by
 unfold sPanic at hx;split at hx
 ·rename_i t v hv;cases hx;have hr:=aval_R h hv;generalize he:a.eval x=ev at hr;have hr':=hr;cases hr with
  |ifc hi=>
   exact⟨_,w,m,φ,μ,by simp[execOp,he,Instr.panic,goPanic,Sem.run,Bind.bind,Sem.bind],Mem.le.refl m,Ext.refl st φ,hs,hr'⟩
 ·cases hx
theorem pubRow_ok{id len:Nat}{x:PV}(hs:Sit E m φ μ st w)(h:pubRow id len st=(x,st'))(hr:R m φ (.ms id len) v):∃m' μ',Mem.le m m'∧Ext st st' φ φ∧Sit E m' φ μ' st' w∧R m' φ x v:=by
 have same:(x,st')=(.ms id len,st)→∃m' μ',Mem.le m m'∧Ext st st' φ φ∧Sit E m' φ μ' st' w∧R m' φ x v:=fun e=>by
  cases e;exact⟨m,μ,Mem.le.refl m,Ext.refl _ _,hs,hr⟩
 unfold pubRow at h;split at h
 ·rename_i p e sz xs ho;split at h
  ·rename_i hb;rw[Bool.and_eq_true] at hb;cases h;cases hr with
   | @ms _ _ _ n sz' sv _ hφ hle hv hsl=>
    obtain⟨μ1,rs,μ2,h1,h2,h3⟩:=hs.sto.get ho;obtain⟨ad,cap,vss,h4,h5,hsz,h6⟩:=h2;rw[Nat.zero_add,hφ] at h4;cases h4;subst h5;obtain rfl:=hv (Nat.eq_of_beq_eq_true hb.1);have hgood:Hb.Good E w m (.row p (.slice ad xs.length cap) e sz xs.length vss.flatten::(μ1++μ2)):=hs.good.perm (by rw[h1];simp)
    have hown:rowM w e sz (.slice ad xs.length cap) xs.length vss.flatten:=hgood.own (r:=.row p (.slice ad xs.length cap) e sz xs.length vss.flatten) (by simp)
    have hext:Ext st (st.set id (.row true e sz xs)) φ φ:=⟨Le.refl φ,by simp,fun j hj=>by
     grind⟩
    -- the elements
    have hel:∀(i:Nat) x,xs[i]?=some x→x.cells.length=sz∧(vss.getD i []).length=sz∧x.cells.all cell=true∧Rl m noPh x.cells (vss.getD i []):=fun i x hx=>by
     obtain⟨vs,hvs⟩:∃vs,vss[i]?=some vs:=⟨_,List.getElem?_eq_getElem (by have:=h6.1;grind)⟩
     obtain⟨q1,q2,q3,q4⟩:=h6.2 i x vs hx hvs;have e':vss.getD i []=vs:=by grind
     rw[e'];refine⟨q1,q2,q3,?_⟩;have hpx:=List.all_eq_true.1 hb.2 x (List.mem_of_getElem? hx);refine⟨q4.1,fun j c u hc hu=>?_⟩
     have:pur 6 c=true:=by
      unfold PV.cells at hc;split at hc
      ·rename_i cs;simp only[pur] at hpx;have h7:=List.all_eq_true.1 hpx c (List.mem_of_getElem? hc);exact pur_up h7
      grind
     exact R.pure 6 this (q4.2 j c u hc hu)
    rcases hown.2 with⟨hv0,h0⟩|⟨b,cap',cur,fz,hv',hheap,hfz,hnc,hcm,hcs,htake⟩
    ·have hxs:xs=[]:=List.eq_nil_of_length_eq_zero h0;subst hxs;refine⟨m,_,Mem.le.refl m,hext,⟨?_,h3 (Mem.le.refl m) (Le.refl φ) (fun _ _=>rfl) ⟨ad,cap,vss,by grind,rfl,hsz,h6⟩,fun j hj=>hs.dom j (by simpa using hj)⟩,?_⟩
     ·have:=hgood.turn (w':=w) (r':=.row true (.slice ad [].length cap) e sz [].length vss.flatten) rfl rfl rfl (Nat.le_refl _) (fun _ _ _=>rfl) (fun b o u hf hm=>hgood.sub b o u hm) hown (fun b hb=>by
       simp_all[List.length_nil,Res.foot,Value.ownBlock])
      exact this.perm (by simpa using List.perm_middle.symm)
     ·cases hv0;exact .sl (xs:=[]) 0 0 (fun _=>[]) (fun e=>absurd rfl e) (Nat.le_refl _) (by decide) (fun e=>by cases e) (fun i x hx=>by simp at hx) (fun i x j c u hx=>by simp at hx) (fun e=>by cases e)
    ·cases hv';have hfl:=h6.flat;have hold:∀(o:Nat) u,vss.flatten[o]?=some u→∃c T fr,w.heap[b]?=some (.cells c T fr)∧c[o]?=some u:=fun o u ho'=>by
      grind
     have hlim:vss.flatten.length≤(Res.row true (.slice (some ⟨b,0,none⟩) xs.length cap) e sz xs.length vss.flatten).lim:=by simp[Res.lim,hfl]
     obtain⟨hg2,hle2⟩:=hgood.tell (b:=b) (cs:=vss.flatten) rfl hold (μ':=.row true (.slice (some ⟨b,0,none⟩) xs.length cap) e sz xs.length vss.flatten::(μ1++μ2)) (fun s hs'=>by
       rcases List.mem_cons.1 hs' with rfl|hs'
       ·refine .inr ⟨hown,rfl,?_,hlim⟩;cases p<;>simp[Res.lim]
       ·exact .inl hs') (List.pairwise_cons.2 ⟨(List.pairwise_cons.1 hgood.apart).1,(List.pairwise_cons.1 hgood.apart).2⟩)
     refine⟨_,_,hle2,hext,⟨hg2.perm (by simpa using List.perm_middle.symm),h3 hle2 (Le.refl φ) (fun _ _=>rfl) ⟨_,cap,vss,by grind,rfl,hsz,h6.mono hle2 (Le.refl φ)⟩,fun j hj=>hs.dom j (by simpa using hj)⟩,?_⟩
     refine .sl b 0 (fun i=>vss.getD i []) (fun _=>rfl) hnc hcm (fun e=>by cases e) (fun i x hx=>?_) (fun i x j c u hx hc hu=>?_) (fun e=>by cases e)
     ·obtain⟨q1,q2,q3,q4⟩:=hel i x hx;refine⟨q1,q2,fun j u hu=>?_,q3⟩
      have hj:j<sz:=by grind
      obtain⟨vs,hvs⟩:∃vs,vss[i]?=some vs:=⟨_,List.getElem?_eq_getElem (by grind)⟩
      have e':vss.getD i []=vs:=by grind
      rw[e'] at hu;rw[Nat.zero_add];exact Mem.add_get (by rw[h6.at hvs j hj];exact hu)
     ·obtain⟨q1,q2,q3,q4⟩:=hel i x hx;exact(q4.2 j c u hc hu).mono hle2 (Le.refl _)
  ·exact same h.symm
 ·exact same h.symm
end
end Go.Am
