/- Slices that are written out, and what is handed over, in the plain machine: the model does the same. Plain lemmas, no statement of the seat. -/
import Derived.Test.YtnfbeplfnblgjaaGreatDoorZAt
set_option linter.all false
namespace Go.Am
open Go Go.Hb
open Go.Gw (tk tf tz tsl tar tpl isAggD)
section
variable{P:Program}{E:Entry}{m:Mem}{φ:Ph}{μ:Own}{st:Sto}{ρ:AEnv}{a:Act}{w:World}{dst:Option Nat}{ty:TypeId}{pos:String}{after:Array Edge}{gd:Option (Nat×Bool)}
theorem rep_len{α:Type}(zs:List α)(len:Nat):((List.range len).flatMap fun _=>zs).length=len*zs.length:=by
 induction len with
 |zero=>simp
 |succ k ih=>rw[List.range_succ,List.flatMap_append,List.length_append,ih];simp[Nat.succ_mul]
theorem rep_get{α:Type}(zs:List α):∀(len i:Nat),((List.range len).flatMap fun _=>zs)[i]?=if i<len*zs.length then zs[i%zs.length]? else none
 |0,i=>by simp
 |len+1,i=>by
  have hl:=rep_len zs len;rw[List.range_succ,List.flatMap_append];simp only[List.flatMap_cons,List.flatMap_nil,List.append_nil]
  by_cases h:i<len*zs.length
  ·rw[List.getElem?_append_left (by omega),rep_get zs len i,if_pos h,if_pos (by rw[Nat.succ_mul];omega)]
  ·rw[List.getElem?_append_right (by omega),hl]
   by_cases h2:i<(len+1)*zs.length
   ·rw[if_pos h2];congr 1;rw[Nat.succ_mul] at h2;have hz:0<zs.length:=by omega
    have e:i=(i-len*zs.length)+len*zs.length:=by omega
    rw[e,Nat.add_mul_mod_self_right,Nat.add_sub_cancel,Nat.mod_eq_of_lt (by omega)]
   ·rw[if_neg h2];rw[Nat.succ_mul] at h2;exact List.getElem?_eq_none_iff.2 (by omega)
theorem rep_R{zs:List PV}{zv:List Value}(h:Rl m φ zs zv)(hc:zs.all cell=true)(len:Nat):Rl m φ ((List.range len).flatMap fun _=>zs) ((List.range len).flatMap fun _=>zv)∧((List.range len).flatMap fun _=>zs).all cell=true:=by
 refine⟨⟨?_,fun i c v hc hv=>?_⟩,?_⟩
 ·simp[List.length_flatMap,h.1]
 ·rw[rep_get] at hc hv;split at hc
  ·rename_i hi;rw[←h.1,if_pos hi] at hv;exact h.2 _ c v hc hv
  ·cases hc
 ·simp only[List.all_flatMap];exact List.all_eq_true.2 fun _ _=>hc
variable{r:AR}{ws:List Value}{len sz:Nat}{T:TypeId}
theorem cuts_flat:∀{len:Nat},ws.length=len*sz→((List.range len).map fun i=>Gw.cut ws (i*sz) sz).flatten=ws:=by
 intro len
 induction len generalizing ws with
 |zero=>intro h;have:ws=[]:=List.eq_nil_of_length_eq_zero (by simpa using h);subst this;simp
 |succ k ih=>
  intro h;rw[Nat.succ_mul] at h;have h1:=ih (ws:=ws.take (k*sz)) (by simp;omega)
  rw[List.range_succ,List.map_append,List.flatten_append];have h2:((List.range k).map fun i=>Gw.cut ws (i*sz) sz)=((List.range k).map fun i=>Gw.cut (ws.take (k*sz)) (i*sz) sz):=by
   apply List.map_congr_left
   intro i hi;have hi:=List.mem_range.1 hi;unfold Gw.cut;rw[List.drop_take,List.take_take];congr 1;have:(i+1)*sz≤k*sz:=Nat.mul_le_mul_right _ hi;rw[Nat.succ_mul] at this;omega
  rw[h2,h1];simp only[List.map_cons,List.map_nil,List.flatten_cons,List.flatten_nil,List.append_nil,Gw.cut];rw[List.take_of_length_le (l:=ws.drop (k*sz)) (by simp;omega),List.take_append_drop]
theorem elems_R{ag:Bool}{cs xs:List PV}(h:elems ag cs sz len=some xs)(hr:Rl m φ cs ws)(hc:cs.all cell=true)(hsz:xs.all (fun x=>Nat.beq x.cells.length sz)=true)(hl:ws.length=len*sz):xs.length=len∧RowR m φ sz xs ((List.range len).map fun i=>Gw.cut ws (i*sz) sz):=by
 unfold elems at h;have hxl:xs.length=len:=by rw[mapO_length h,List.length_range]
 refine⟨hxl,by simp[hxl],fun i x vs hx hv=>?_⟩
 obtain⟨i',h1,h2⟩:=mapO_back h hx;have hlt:i<len:=by have:=(List.getElem?_eq_some_iff.1 hx).1;omega
 rw[List.getElem?_range hlt] at h1;cases h1;rw[List.getElem?_map,List.getElem?_range hlt] at hv;simp only[Option.map_some,Option.some.injEq] at hv;subst hv;have hxs:=Nat.eq_of_beq_eq_true (List.all_eq_true.1 hsz x (List.mem_of_getElem? hx));have hle:(i+1)*sz≤len*sz:=Nat.mul_le_mul_right _ hlt;rw[Nat.succ_mul] at hle;have hcl:(Gw.cut ws (i*sz) sz).length=sz:=by unfold Gw.cut;simp;omega
 have hcut:=(hr.drop (i*sz)).take sz;unfold loadP at h2;cases ag with
 |true=>
  simp only at h2;split at h2
  ·cases h2;exact⟨hxs,hcl,all_take (all_drop hc _) _,hcut⟩
  ·cases h2
 |false=>
  simp only at h2;have hcx:=List.all_eq_true.1 hc x (List.mem_of_getElem? h2);have hcells:x.cells=[x]:=by cases x<;>simp[cell] at hcx<;>rfl
  rw[hcells] at hxs⊢;simp only[List.length_cons,List.length_nil,Nat.zero_add] at hxs;subst hxs;refine⟨rfl,hcl,by simp[hcx],?_⟩
  have e:(cs.drop (i*1)).take 1=[x]:=by
   apply List.ext_getElem?
   intro j;rw[List.getElem?_take,List.getElem?_drop];cases j with
   |zero=>simpa using h2
   |succ j=>simp
  rw[e] at hcut;exact hcut
theorem acts_makeSlice{n c:Operand}(hs:Sit E m φ μ st w)(h:EnvR m φ ρ a)(hx:sMakeSlice P ρ st T n c=some r):Acts P E m φ st w a ⟨dst,.makeSlice T n c,ty,pos,after,gd⟩ r:=by
 unfold sMakeSlice at hx;split at hx
 ·rename_i t sz n c ht hn hc0;split at hx
  ·rename_i zs ag k by_ hz hk hby;split at hx
   ·rename_i hb;simp only[Bool.and_eq_true,decide_eq_true_eq] at hb;obtain⟨rfl,hb1,hb2,hb3,hb4,hb5⟩:=hb;have hpn:0<n.toNat:=by simpa[Nat.blt_eq] using hb1
    have hl1:=Nat.le_of_ble_eq_true hb2;have hl2:=Nat.le_of_ble_eq_true hb3;have hzl:=Nat.eq_of_beq_eq_true hb4;have hpos:0<sz:=by simpa[Nat.blt_eq] using hb5
    split at hx
    ·rename_i xs hel;split at hx
     ·rename_i hsz;cases hx;obtain⟨ti,z,hi,hzz,hbb,hsz2,_⟩:=elemBytes_R hby;unfold zeroP at hz;have htz:tz P t=some z:=by simp[tz,hi,hzz]
      rw[htz] at hz;have hz:mapO ofCell z.cells.toList=some zs:=hz;obtain⟨hr,hc⟩:=ofCells_R (m:=m) (φ:=φ) hz;obtain⟨hr2,hc2⟩:=rep_R hr hc n.toNat;have hwl:((List.range n.toNat).flatMap fun _=>z.cells.toList).length=n.toNat*sz:=by rw[rep_len];simp[hsz2]
      obtain⟨hxl,hrow⟩:=elems_R hel hr2 hc2 hsz hwl;have hflat:=cuts_flat hwl;have hnn:(n.toNat:Int)=n:=by omega
      have hT:P.underlying T=some (.slice t)∧ti.size=sz:=by
       unfold tsl at ht;split at ht
       ·rename_i e' he;cases hi':P.info? e' with
        |none=>simp[hi'] at ht
        |some ii=>
         simp[hi'] at ht;obtain⟨rfl,rfl⟩:=ht;rw[hi] at hi';cases hi';exact⟨he,rfl⟩
       ·cases ht
      have hnm:n.toNat≤n.toNat*sz:=Nat.le_mul_of_pos_right _ hpos;have h1:=run_make (P:=P) w T t ti z hT.1 hi hzz .i64 .i64 n n (by omega) (Int.le_refl _) (by
       have:((ti.bytes*n.toNat:Nat):Int)≤281474976710656:=by rw[hbb,Nat.mul_comm];omega
       rwa [Int.natCast_mul,hnn] at this) (by omega)
      have hcells:(madeCells z.cells (n.toNat*sz)).toList=(List.range n.toNat).flatMap fun _=>z.cells.toList:=by
       apply List.ext_getElem?
       intro i;rw[rep_get];simp only[madeCells,Array.toList_map,Array.toList_range,List.getElem?_map];have e1:z.cells.toList.length=sz:=by simpa using hsz2
       rw[e1]
       by_cases hi':i<n.toNat*sz
       ·rw[List.getElem?_range hi',if_pos hi'];have hm:=Nat.mod_lt i hpos;simp only[Option.map_some,hsz2];have hlt:i%sz<z.cells.size:=by omega
        rw[Array.getElem!_eq_getD,Array.getD_eq_getD_getElem?,Array.getElem?_eq_getElem hlt];simp[hlt]
       ·rw[List.getElem?_eq_none_iff.2 (by simp;omega),if_neg hi']
        rfl
      have e1:=(aval_R h hn).sc_eq;have e2:=(aval_R h hc0).sc_eq;have hcells2:madeCells z.cells (n.toNat*ti.size)=((List.range n.toNat).flatMap fun _=>z.cells.toList).toArray:=by
       rw[hT.2];apply Array.ext';rw[hcells]
      rw[hcells2] at h1;generalize((List.range n.toNat).flatMap fun _=>z.cells.toList)=ws at *
      have hg:=hs.good.new (.cells ws.toArray t (0,0));have hown:({ w with heap:=w.heap.push (.cells ws.toArray t (0,0)) }:World).ownsRow 0 t sz (.slice (some ⟨w.heap.size,0,none⟩) n.toNat n.toNat) n.toNat ws:=by
       refine⟨hwl,.inr ⟨w.heap.size,n.toNat,ws.toArray,rfl,Nat.zero_le _,by simp,Nat.le_refl _,by simp only[maxLen];omega,by simpa using hwl,?_⟩⟩
       rw[List.toList_toArray,←hwl,List.take_length]
      have hg1:=hg.turn (w':={ w with heap:=w.heap.push (.cells ws.toArray t (0,0)) }) (r':=.row false (.slice (some ⟨w.heap.size,0,none⟩) n.toNat n.toNat) t sz n.toNat ws) rfl rfl rfl (Nat.le_refl _) (fun _ _ _=>rfl) (fun b' o u hf hm=>hg.sub b' o u hm) (rowM_of hown)
       (fun b' hf=>.inl ⟨hf,by simp[Res.lim]⟩)
      have hle':Le φ (more φ st.length (.row (.slice (some ⟨w.heap.size,0,none⟩) n.toNat n.toNat) n.toNat sz)):=le_more (hs.dom _ (Nat.le_refl _));obtain⟨hsit,hext⟩:=hs.push (o:=.row false t sz xs) hg1 ⟨some ⟨w.heap.size,0,none⟩,n.toNat,(List.range n.toNat).map fun i=>Gw.cut ws (i*sz) sz,by rw[more_self,hxl],by rw[hxl,hflat],hpos,hrow.mono (Mem.le.refl m) hle'⟩
      refine⟨_,_,m,_,_,?_,Mem.le.refl m,hext,hsit,.ms (more_self _ _ _) (Nat.le_refl _) (fun _=>rfl) ⟨_,_,_,rfl⟩⟩
      simp only[execOp,e1,e2,Sem.run_bind,h1,Result.andThen_ok,Sem.run_pure];rfl
     ·cases hx
    ·cases hx
   ·cases hx
  ·cases hx
 ·cases hx
theorem acts_buildSlice{lit:Bool}{parts:Array (Nat×Operand)}(hs:Sit E m φ μ st w)(h:EnvR m φ ρ a)(hx:sBuildSlice P lit ρ st T len parts=some r):Acts P E m φ st w a ⟨dst,.buildSlice T len parts,ty,pos,after,gd⟩ r:=by
 unfold sBuildSlice at hx;split at hx
 ·rename_i t sz ht;split at hx
  ·rename_i zs pv ag k hz hpv hk;split at hx
   ·rename_i hb;simp only[Bool.and_eq_true] at hb;have hlen:=Nat.le_of_ble_eq_true hb.1.1;have hzl:=Nat.eq_of_beq_eq_true hb.1.2;have hpos':0<sz:=by simpa[Nat.blt_eq] using hb.2
    have hlm:len≤len*sz:=Nat.le_mul_of_pos_right _ hpos';split at hx
    ·rename_i cs hf;split at hx
     ·rename_i xs hel;split at hx
      ·rename_i hsz;unfold zeroP at hz;split at hz
       ·rename_i z hzz;obtain⟨hr,hc⟩:=ofCells_R (m:=m) (φ:=φ) hz;obtain⟨hr2,hc2⟩:=rep_R hr hc len;obtain⟨ws,h1,h2,h3⟩:=fillP_R hf hr2 hc2 (avalP_R h hpv);have hfl:cs.length=len*sz:=by
         have hfp:∀{place:Nat→Option (Nat×Nat)}{pv:List (Nat×PV)}{c d:List PV},fillP place c pv=some d→d.length=c.length:=by
          intro place pv
          induction pv with
          |nil=>intro c d h;simp[fillP] at h;rw[h]
          |cons p r ih=>
           intro c d h;obtain⟨i,x⟩:=p;simp only[fillP] at h;split at h
           ·split at h
            ·rename_i hbb;simp only[Bool.and_eq_true] at hbb;have e1:=Nat.eq_of_beq_eq_true hbb.1.1;have e2:=Nat.le_of_ble_eq_true hbb.1.2;rw[ih h];unfold updP;simp;omega
            ·cases h
           ·cases h
         rw[hfp hf,rep_len,hzl]
        have hwl:ws.length=len*sz:=by rw[←h2.1];exact hfl
        obtain⟨hxl,hrow⟩:=elems_R hel h2 h3 hsz hwl;have hflat:=cuts_flat hwl
        -- the run
        have hrun:(execOp a.eval ⟨dst,.buildSlice T len parts,ty,pos,after,gd⟩).run P w=.ok (.value (.slice (some ⟨w.heap.size,0,none⟩) len len)) { w with heap:=w.heap.push (.cells ws.toArray t (0,0)) }:=by
         unfold tsl at ht;split at ht
         ·rename_i e' he;cases hi:P.info? e' with
          |none=>simp[hi] at ht
          |some ii=>
           simp[hi] at ht;obtain⟨rfl,rfl⟩:=ht;simp[tz,hi] at hzz;have hzv:z.cells.toList.length=ii.size:=by rw[←hr.1];exact hzl
           have hzv':z.cells.size=ii.size:=by simpa using hzv
           have hfill:=Gw.fill_of_fillL _ _ _ _ h1;have hs1:(sizeOf e').run P w=.ok ii.size w:=by simp[sizeOf,typeInfo,hi]
           have hz2:(zeroValue e').run P w=.ok z w:=by simp[zeroValue,typeInfo,hi,hzz]
           have hsmall:¬(len*ii.size>2^24):=by omega
           have hpm:(parts.map fun x=>(x.1,a.eval x.2)).toList=parts.toList.map fun p=>(p.1,a.eval p.2):=by simp
           by_cases h0:len*ii.size=0
           ·have e0:((List.range len).flatMap fun _=>z.cells.toList)=[]:=List.eq_nil_of_length_eq_zero (by rw[rep_len,hzv,h0])
            rw[e0] at hfill;have hrg:(Array.range (len*ii.size)).map (fun i=>(#[]:Array Value)[i%(#[]:Array Value).size]!)=([]:List Value).toArray:=by simp[h0]
            simp only[execOp,Instr.buildSlice,Sem.run_bind,run_underlying he,Result.andThen_ok,hs1,if_neg hsmall,Sem.run_pure,if_pos h0,hrg,hpm,hfill,newRow,newObj,Sem.run]
           ·have hcells:(Array.range (len*ii.size)).map (fun i=>z.cells[i%z.cells.size]!)=((List.range len).flatMap fun _=>z.cells.toList).toArray:=by
             apply Array.ext';apply List.ext_getElem?
             intro i;rw[List.toList_toArray,rep_get,hzv];simp only[Array.toList_map,Array.toList_range,List.getElem?_map]
             by_cases hi':i<len*ii.size
             ·rw[List.getElem?_range hi',if_pos hi'];have hpos:0<ii.size:=Nat.pos_of_ne_zero (fun e=>h0 (by rw[e];simp))
              have hm:=Nat.mod_lt i hpos;simp only[Option.map_some,hzv'];have hlt:i%ii.size<z.cells.size:=by omega
              rw[Array.getElem!_eq_getD,Array.getD_eq_getD_getElem?,Array.getElem?_eq_getElem hlt];simp[hlt]
             ·rw[List.getElem?_eq_none_iff.2 (by simp;omega),if_neg hi']
              rfl
            simp only[execOp,Instr.buildSlice,Sem.run_bind,run_underlying he,Result.andThen_ok,hs1,if_neg hsmall,Sem.run_pure,if_neg h0,hz2,hcells,hpm,hfill,newRow,newObj,Sem.run]
         ·cases ht
        have hg:=hs.good.new (.cells ws.toArray t (0,0));split at hx
        ·rename_i hpur0;have hpur:=(Bool.and_eq_true _ _▸hpur0:xs.all (pur 6)=true∧(!lit)=true).1;cases hx
         -- known for good at once
         have hold:∀(o:Nat) u,ws[o]?=some u→∃c T fr,({ w with heap:=w.heap.push (.cells ws.toArray t (0,0)) }:World).heap[w.heap.size]?=some (.cells c T fr)∧c[o]?=some u:=fun o u ho=>⟨ws.toArray,t,(0,0),by simp,by simpa using ho⟩
         obtain⟨hg2,hle2⟩:=hg.tell (b:=w.heap.size) (cs:=ws) rfl hold (μ':=μ) (fun s hs'=>.inl hs') hs.good.apart
         refine⟨_,_,m.add w.heap.size ws,φ,μ,hrun,hle2,Ext.refl st φ,⟨hg2,hs.sto.mono hle2 (Le.refl φ) (fun _ _ _=>rfl),hs.dom⟩,?_⟩
         rw[←hxl];have hmax':xs.length≤maxLen:=by simp only[maxLen];omega
         refine .sl w.heap.size 0 (fun i=>Gw.cut ws (i*sz) sz) (fun _=>rfl) (Nat.le_refl _) hmax' (fun _=>rfl) (fun i x hxi=>?_) (fun i x j c u hxi hc' hu=>?_) (fun _ e=>absurd e (by omega))
         ·have hlt:i<len:=by have:=(List.getElem?_eq_some_iff.1 hxi).1;omega
          obtain⟨q1,q2,q3,q4⟩:=hrow.2 i x (Gw.cut ws (i*sz) sz) hxi (by rw[List.getElem?_map,List.getElem?_range hlt];rfl)
          refine⟨q1,q2,fun j u hu=>?_,q3⟩
          rw[Nat.zero_add];exact Mem.add_get (Gw.cut_get hu)
         ·have hlt:i<len:=by have:=(List.getElem?_eq_some_iff.1 hxi).1;omega
          obtain⟨q1,q2,q3,q4⟩:=hrow.2 i x (Gw.cut ws (i*sz) sz) hxi (by rw[List.getElem?_map,List.getElem?_range hlt];rfl)
          have hpx:=List.all_eq_true.1 hpur x (List.mem_of_getElem? hxi);have:pur 6 c=true:=by
           unfold PV.cells at hc';split at hc'
           ·simp only[pur] at hpx;exact pur_up (List.all_eq_true.1 hpx c (List.mem_of_getElem? hc'))
           ·cases j with
            |zero=>simp at hc';subst hc';exact hpx
            |succ j=>simp at hc'
          exact(R.pure 6 this (q4.2 j c u hc' hu)).mono hle2 (Le.refl _)
        ·cases hx;have hown:({ w with heap:=w.heap.push (.cells ws.toArray t (0,0)) }:World).ownsRow 0 t sz (.slice (some ⟨w.heap.size,0,none⟩) len len) len ws:=by
          refine⟨hwl,.inr ⟨w.heap.size,len,ws.toArray,rfl,Nat.zero_le _,by simp,Nat.le_refl _,by simp only[maxLen];omega,by simpa using hwl,?_⟩⟩
          rw[List.toList_toArray,←hwl,List.take_length]
         have hg1:=hg.turn (w':={ w with heap:=w.heap.push (.cells ws.toArray t (0,0)) }) (r':=.row false (.slice (some ⟨w.heap.size,0,none⟩) len len) t sz len ws) rfl rfl rfl (Nat.le_refl _) (fun _ _ _=>rfl) (fun b' o u hf hm=>hg.sub b' o u hm) (rowM_of hown)
          (fun b' hf=>.inl ⟨hf,by simp[Res.lim]⟩)
         have hle':Le φ (more φ st.length (.row (.slice (some ⟨w.heap.size,0,none⟩) len len) len sz)):=le_more (hs.dom _ (Nat.le_refl _));obtain⟨hsit,hext⟩:=hs.push (o:=.row false t sz xs) hg1 ⟨some ⟨w.heap.size,0,none⟩,len,(List.range len).map fun i=>Gw.cut ws (i*sz) sz,by rw[more_self,hxl],by rw[hxl,hflat],hpos',hrow.mono (Mem.le.refl m) hle'⟩
         exact⟨_,_,m,_,_,hrun,Mem.le.refl m,hext,hsit,.ms (more_self _ _ _) (Nat.le_refl _) (fun _=>rfl) ⟨_,_,_,rfl⟩⟩
       ·cases hz
      ·cases hx
     ·cases hx
    ·cases hx
   ·cases hx
  ·cases hx
 ·cases hx
end
end Go.Am
