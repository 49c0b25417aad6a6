/- Operations of the plain machine that ask nothing of the store (the rest): the model's do the same. Plain lemmas, no statement of the seat. -/
import Derived.Test.YtnfbeplfnblgjaaGreatDoorZAo
import Derived.Lib.UnsafeStr
set_option linter.all false
namespace Go.Am
open Go Go.Hb
open Go.Gw (tk tf tz tsl tar tpl isAggD)
section
variable{P:Program}{m:Mem}{φ:Ph}{ρ:AEnv}{a:Act}{w:World}{dst:Option Nat}{ty:TypeId}{pos:String}{after:Array Edge}{gd:Option (Nat×Bool)}
variable{ag:Bool}{cs ds:List PV}{vs:List Value}{b f k off:Nat}{i x:Operand}{u:PV}{α:Type}{T:TypeId}{v:Value}
theorem all_drop{p:α→Bool}{l:List α}(h:l.all p=true)(k:Nat):(l.drop k).all p=true:=List.all_eq_true.2 fun x hx=>List.all_eq_true.1 h x (List.mem_of_mem_drop hx)
theorem all_take{p:α→Bool}{l:List α}(h:l.all p=true)(k:Nat):(l.take k).all p=true:=List.all_eq_true.2 fun x hx=>List.all_eq_true.1 h x (List.mem_of_mem_take hx)
theorem RdN.drop{m:Mem}(h:RdN m b off vs)(k:Nat):RdN m b (off+k) (vs.drop k):=fun j v hv=>by
 rw[List.getElem?_drop] at hv;have:=h _ v hv
 rwa [←Nat.add_assoc] at this
theorem shift_R{p q:PV}{o:Nat}(h:shiftP o p=some q)(hr:R m φ p v):∃b off,v=.pointer (some ⟨b,off,none⟩)∧R m φ q (.pointer (some ⟨b,off+o,none⟩)):=by
 unfold shiftP at h;split at h
 ·cases h;cases hr with
  |bp hφ=>exact⟨_,_,rfl,.bp hφ⟩
 ·cases h;cases hr with
  |rp hφ hle hv hp=>
   obtain⟨b,off,rfl⟩:=hp;refine⟨b,off,rfl,.rp hφ hle (fun e=>?_) ⟨_,_,rfl⟩⟩
   obtain⟨b',cap,h1,h2⟩:=hv e;cases h2;exact⟨b,cap,h1,by rw[Nat.add_assoc]⟩
 ·cases h;cases hr with
  |cp hl hrd hc hi=>
   have h1:=(Rl.drop ⟨hl,hi⟩ o);exact⟨_,_,rfl,.cp h1.1 (hrd.drop o) (all_drop hc o) h1.2⟩
 ·cases h;cases hr with
  |ci hl hrd hc hi=>
   have h1:=(Rl.drop ⟨hl,hi⟩ o);exact⟨_,_,rfl,.ci h1.1 (hrd.drop o) (all_drop hc o) h1.2⟩
 ·cases h
theorem does_fieldAddr(h:EnvR m φ ρ a)(hx:aFieldAddr P ρ T x f=some u):Does P w a m φ ⟨dst,.fieldAddr T x f,ty,pos,after,gd⟩ u:=by
 unfold aFieldAddr at hx;split at hx
 ·rename_i o p ht hp;obtain⟨b,off,e,hr⟩:=shift_R hx (aval_R h hp);refine⟨_,?_,hr⟩;unfold tf at ht;split at ht
  ·rename_i fs hfs;split at ht
   ·rename_i fd hfd;split at ht
    ·rename_i i hi;split at ht
     ·cases ht
     ·rename_i hne;cases ht;simp[execOp,Instr.fieldAt,e,run_underlying hfs,hfd,Instr.sureAddr,fieldPlace,sizeOf,typeInfo,hi,hne,Addr.add_lit]
    ·cases ht
   ·cases ht
  ·cases ht
 ·cases hx
theorem loadP_R(h:loadP ag cs off k=some u)(hr:Rl m φ cs vs)(hc:cs.all cell=true):∃v,Gw.loadV ag vs off k=some v∧R m φ u v:=by
 unfold loadP at h;unfold Gw.loadV;cases ag with
 |true=>
  simp only at h⊢;split at h
  ·rename_i hle;cases h;rw[hr.1] at hle;rw[hle];have h1:=(hr.drop off).take k;exact⟨_,rfl,.ag h1.1 (all_take (all_drop hc off) k) h1.2⟩
  ·cases h
 |false=>
  simp only at h⊢;exact hr.get h
theorem run_part(ht:tk P T=some (ag,k))(hv:Gw.loadV ag vs off k=some v):(part T vs.toArray off).run P w=.ok v w:=by
 unfold tk at ht;split at ht
 ·rename_i dd ii hdd hii;simp only[Option.some.injEq,Prod.mk.injEq] at ht;obtain⟨h1,h2⟩:=ht;unfold part;cases ag with
  |true=>
   have hagg:(isAgg T).run P w=.ok true w:=by
    unfold isAgg;cases dd<;>simp[isAggD] at h1<;>simp[run_underlying hdd]
   simp only[Gw.loadV] at hv;split at hv
   ·cases hv;simp only[Sem.run_bind,hagg,Result.andThen_ok,if_true,sizeOf,typeInfo,program,hii,h2,Sem.run_pure,Sem.run];have e:vs.toArray.extract off (off+k)=(Gw.cut vs off k).toArray:=by
     apply Array.ext';simp[Gw.cut,List.extract_eq_take_drop]
    rw[e]
   ·cases hv
  |false=>
   have hagg:(isAgg T).run P w=.ok false w:=by
    unfold isAgg;cases dd<;>simp[isAggD] at h1<;>simp[run_underlying hdd]
   simp only[Gw.loadV] at hv;simp[hagg,hv]
 ·cases ht
theorem does_field(h:EnvR m φ ρ a)(hx:aField P ρ T x f=some u):Does P w a m φ ⟨dst,.field T x f,ty,pos,after,gd⟩ u:=by
 unfold aField at hx;split at hx
 ·rename_i ag off k cs hf hv;have hr:=aval_R h hv;generalize he:a.eval x=ev at hr;cases hr with
  | @ag _ _ vs hl hc hi=>
   obtain⟨v,h1,h2⟩:=loadP_R hx ⟨hl,hi⟩ hc;refine⟨v,?_,h2⟩;unfold fieldAt at hf;split at hf
   ·rename_i fs hfs;split at hf
    ·rename_i fd hfd;split at hf
     ·rename_i ag' k' hk;cases hf;have h3:(part fd.type vs.toArray fd.offset).run P w=.ok v w:=run_part hk h1;have h4:(Instr.field T (.agg vs.toArray) f).run P w=.ok v w:=by
       unfold Instr.field;simp[run_underlying hfs,hfd,asAgg,h3]
      simp[execOp,he,h4]
     ·cases hf
    ·cases hf
   ·cases hf
 ·cases hx
theorem does_indexAddr(h:EnvR m φ ρ a)(hx:aIndexAddr P ρ T x i=some u):Does P w a m φ ⟨dst,.indexAddr T x i,ty,pos,after,gd⟩ u:=by
 unfold aIndexAddr at hx;split at hx
 ·rename_i p pi hp hi;split at hx
  ·rename_i q hq;obtain⟨k,ek⟩:=nat_int hq (aval_R h hi);have hr:=aval_R h hp;unfold idxAddr at hx;split at hx
   ·rename_i full sz xs;split at hx
    ·rename_i el hel;split at hx
     ·rename_i hs;cases hx;generalize he:a.eval x=ev at hr;cases hr with
      | @sl _ _ _ _ ad cap b off g ha hcap hmax hfull hell hrr hnil=>
       obtain⟨e,z,ht,hz⟩:=szOk_R hs;have hlt:=(List.getElem?_eq_some_iff.1 hel).1;have hne:xs≠[]:=fun e=>by rw[e] at hlt;simp at hlt
       obtain rfl:z=sz:=hz.resolve_right hne;have ha':=ha hne;obtain⟨h1,h2,h3,h4⟩:=hell q el hel;refine⟨.pointer (some ⟨b,off+q*z,none⟩),?_,.cp (by rw[h1,h2]) h3 h4 (fun j c v hc hv=>hrr q el j c v hel hc hv)⟩
       unfold tsl at ht;split at ht
       ·rename_i e' hee;cases hii:P.info? e' with
        |none=>simp[hii] at ht
        |some ii=>
         simp[hii] at ht;obtain⟨rfl,rfl⟩:=ht;simp[execOp,Instr.indexAt,he,ek,asIntOf,run_underlying hee,hlt,sizeOf,typeInfo,hii,Addr.add_lit,ha']
       ·cases ht
     ·cases hx
    ·cases hx
   ·cases hx
   ·split at hx
    ·rename_i n e z ht;split at hx
     ·rename_i hlt;have hlt':q<n:=by simpa[Nat.blt_eq] using hlt
      obtain⟨b,off,e1,hr'⟩:=shift_R hx hr;refine⟨_,?_,hr'⟩;unfold tar at ht;split at ht
      ·rename_i l' e' hee;cases hii:P.info? e' with
       |none=>simp[hii] at ht
       |some ii=>
        simp[hii] at ht;obtain⟨rfl,rfl,rfl⟩:=ht;simp[execOp,Instr.indexAt,e1,ek,asIntOf,run_underlying hee,hlt',sizeOf,typeInfo,hii,Addr.add_lit,Instr.sureAddr]
      ·cases ht
     ·cases hx
    ·cases hx
  ·cases hx
 ·cases hx
theorem does_index(h:EnvR m φ ρ a)(hx:aIndex P ρ T x i=some u):Does P w a m φ ⟨dst,.index T x i,ty,pos,after,gd⟩ u:=by
 unfold aIndex at hx;split at hx
 ·rename_i v j hv hj;have e1:=(aval_R h hv).sc_eq;have e2:=(aval_R h hj).sc_eq;cases hq:qrun P (Instr.index T v j) with
  |none=>simp[hq] at hx
  |some r=>
   rw[hq] at hx;exact⟨r,by simp[execOp,e1,e2,qrun_run w hq],ofVal_R hx⟩
 ·rename_i cs pi hv hi;split at hx
  ·rename_i n e z q ht hq;split at hx
   ·rename_i ag k hk hlt;obtain⟨ki,ek⟩:=nat_int hq (aval_R h hi);have hlt':q<n:=by simpa[Nat.blt_eq] using hlt
    have hr:=aval_R h hv;generalize he:a.eval x=ev at hr;cases hr with
    | @ag _ _ vs hl hc hi'=>
     unfold tar at ht;split at ht
     ·rename_i l' e' hee;cases hii:P.info? e' with
      |none=>simp[hii] at ht
      |some ii=>
       simp[hii] at ht;obtain⟨rfl,rfl,rfl⟩:=ht;obtain rfl:k=ii.size:=by
        unfold tk at hk;rw[hii] at hk;split at hk
        ·rename_i dd ii' _ hd';cases hd';simp only[Option.some.injEq,Prod.mk.injEq] at hk;exact hk.2.symm
        ·cases hk
       obtain⟨v,h1,h2⟩:=loadP_R hx ⟨hl,hi'⟩ hc;have h3:=run_part (P:=P) (w:=w) hk h1;refine⟨v,?_,h2⟩;simp[execOp,Instr.index,he,ek,asIntOf,run_underlying hee,hlt',sizeOf,typeInfo,hii,h3]
     ·cases ht
   ·cases hx
  ·cases hx
 ·cases hx
theorem does_assert{U:TypeId}{ok:Bool}(h:EnvR m φ ρ a)(hx:aAssert P ρ x T ok=some u):Does P w a m φ ⟨dst,.typeAssert x U T ok,ty,pos,after,gd⟩ u:=by
 unfold aAssert at hx;split at hx
 ·cases hx
 ·rename_i d hne hT;split at hx
  ·rename_i t p hp;split at hx
   ·rename_i hb;obtain rfl:=Nat.eq_of_beq_eq_true hb;have hr:=aval_R h hp;generalize he:a.eval x=ev at hr;cases hr with
    | @ifc _ _ _ v hi=>
     have key:∀r,(if ok then(.tuple #[v,.bool true]:Value) else v)=r→(Instr.typeAssert (.iface t v) U t ok).run P w=.ok r w:=fun r hr'=>by
      unfold Instr.typeAssert;simp only[Sem.run_bind,run_underlying hT,Result.andThen_ok];cases d<;>first
       |exact absurd rfl (hne _)
       |(simp[hr'];done)
     split at hx
     ·cases hx;refine⟨.tuple #[v,.bool true],by simp[execOp,he,key (.tuple #[v,.bool true]) rfl],?_⟩
      have hl:Rl m φ [p,.sc (.bool true)] [v,.bool true]:=.cons hi (.cons (.sc rfl) .nil);simpa using R.tu hl.1 hl.2
     ·cases hx;exact⟨v,by simp[execOp,he,key v rfl],hi⟩
   ·cases hx
  ·cases hx
 ·cases hx
theorem updP_R{us:List Value}(h:Rl m φ cs us)(k:Rl m φ ds vs):Rl m φ (updP cs off ds) (Gw.upd us off vs):=by
 unfold updP Gw.upd;rw[k.1];exact(h.take off).append (k.append (h.drop _))
theorem updP_all(h:cs.all cell=true)(k:ds.all cell=true):(updP cs off ds).all cell=true:=by
 unfold updP;rw[List.all_append,List.all_append,all_take h,k,all_drop h];rfl
theorem cells_R{x:PV}(h:R m φ x v):Rl m φ x.cells v.cells.toList:=by
 cases h with
 |yl hp=>simp only[PV.cells,Value.cells];exact .cons (.yl hp) .nil
 |mr hp=>simp only[PV.cells,Value.cells];exact .cons (.mr hp) .nil
 |cr hp=>simp only[PV.cells,Value.cells];exact .cons (.cr hp) .nil
 |un h=>
  have e:v.cells.toList=[v]:=by cases v<;>simp_all[Value.oneCell',Value.cells]
  rw[e];exact .cons (.un h) .nil
 |ag hl hc hi=>simp only[PV.cells,Value.cells];exact⟨hl,hi⟩
 | @sc _ v h=>
  have:v.cells.toList=[v]:=by cases v<;>simp[isSc] at h<;>simp[Value.cells]
  rw[this];exact .cons (.sc h) .nil
 |tu hl hi=>simp only[PV.cells,Value.cells];exact .cons (.tu hl hi) .nil
 |sl b off g ha hcap hmax hfull hel hr hnil=>simp only[PV.cells,Value.cells];exact .cons (.sl b off g ha hcap hmax hfull hel hr hnil) .nil
 |ms hφ hle hv hs=>
  obtain⟨_,_,_,rfl⟩:=hs;simp only[PV.cells,Value.cells];exact .cons (.ms hφ hle hv ⟨_,_,_,rfl⟩) .nil
 |bp hφ=>simp only[PV.cells,Value.cells];exact .cons (.bp hφ) .nil
 |rp hφ hle hv hp=>
  obtain⟨_,_,rfl⟩:=hp;simp only[PV.cells,Value.cells];exact .cons (.rp hφ hle hv ⟨_,_,rfl⟩) .nil
 |cp hl hrd hc hi=>simp only[PV.cells,Value.cells];exact .cons (.cp hl hrd hc hi) .nil
 |ci hl hrd hc hi=>simp only[PV.cells,Value.cells];exact .cons (.ci hl hrd hc hi) .nil
 |fn hl hl' hi hi'=>simp only[PV.cells,Value.cells];exact .cons (.fn hl hl' hi hi') .nil
 |ifc hi=>simp only[PV.cells,Value.cells];exact .cons (.ifc hi) .nil
theorem fillP_R{place:Nat→Option (Nat×Nat)}:∀{pv:List (Nat×PV)}{vv:List (Nat×Value)}{cs ds:List PV}{us:List Value},fillP place cs pv=some ds→Rl m φ cs us→cs.all cell=true →
  (pv.length=vv.length∧∀(i:Nat) p v,pv[i]?=some p→vv[i]?=some v→p.1=v.1∧R m φ p.2 v.2)→∃ws,Gw.fillL place us vv=some ws∧Rl m φ ds ws∧ds.all cell=true
 |[],vv,cs,ds,us,h,hr,hc,hp=>by
  cases vv with
  |nil=>simp[fillP] at h;subst h;exact⟨us,by simp[Gw.fillL],hr,hc⟩
  |cons _ _=>exact absurd hp.1 (by simp)
 |(i,x)::pv,vv,cs,ds,us,h,hr,hc,hp=>by
  cases vv with
  |nil=>exact absurd hp.1 (by simp)
  |cons v0 vv=>
   obtain⟨i',v⟩:=v0;obtain⟨rfl,hxv⟩:=hp.2 0 (i,x) (i',v) rfl rfl;simp only at hxv;have hp':pv.length=vv.length∧∀(j:Nat) p v,pv[j]?=some p→vv[j]?=some v→p.1=v.1∧R m φ p.2 v.2:=⟨by have:=hp.1;simpa using this,fun j p v h1 h2=>hp.2 (j+1) p v (by simpa using h1) (by simpa using h2)⟩
   have hcl:=cells_R hxv;simp only[fillP] at h;simp only[Gw.fillL];split at h
   ·rename_i off size hpl;split at h
    ·rename_i hb;simp only[Bool.and_eq_true] at hb;rw[hcl.1] at hb;rw[hr.1] at hb;simp only[hpl,hb.1.1,hb.1.2];exact fillP_R h (updP_R hr hcl) (updP_all hc hb.2) hp'
    ·cases h
   ·cases h
theorem avalP_R(h:EnvR m φ ρ a):∀{xs:List (Nat×Operand)}{us:List (Nat×PV)},avalP ρ xs=some us→us.length=(xs.map fun p=>(p.1,a.eval p.2)).length∧∀(i:Nat) p v,us[i]?=some p→(xs.map fun p=>(p.1,a.eval p.2))[i]?=some v→p.1=v.1∧R m φ p.2 v.2
 |[],us,hx=>by simp[avalP] at hx;subst hx;simp
 |(j,x)::xs,us,hx=>by
  simp only[avalP] at hx;cases h1:aval ρ x with
  |none=>simp[h1] at hx
  |some u=>
   cases h2:avalP ρ xs with
   |none=>simp[h1,h2] at hx
   |some l=>
    simp only[h1,h2,Option.some.injEq] at hx;subst hx;obtain⟨h3,h4⟩:=avalP_R h h2;refine⟨by simpa using h3,fun i p v hp hv=>?_⟩
    cases i with
    |zero=>simp at hp hv;subst hp;subst hv;exact⟨rfl,aval_R h h1⟩
    |succ i=>exact h4 i p v (by simpa using hp) (by simpa using hv)
theorem does_build{parts:Array (Nat×Operand)}(h:EnvR m φ ρ a)(hx:aBuild P ρ T parts=some u):Does P w a m φ ⟨dst,.build T parts,ty,pos,after,gd⟩ u:=by
 unfold aBuild at hx;split at hx
 ·rename_i pv zs hpv hz;split at hx
  ·rename_i pl ht;cases hf:fillP (fun i=>pl[i]?) zs pv with
   |none=>simp[hf] at hx
   |some cs=>
    simp only[hf,Option.map_some,Option.some.injEq] at hx;subst hx;unfold zeroP at hz;split at hz
    ·rename_i z hzz;obtain⟨hr,hc⟩:=ofCells_R (m:=m) (φ:=φ) hz;obtain⟨ws,h1,h2,h3⟩:=fillP_R hf hr hc (avalP_R h hpv);refine⟨.agg ws.toArray,?_,.ag h2.1 h3 h2.2⟩;have hfill:=Gw.fill_of_fillL _ _ _ _ h1;unfold tpl at ht;split at ht
     ·rename_i fs hfs;cases hi:P.info? T with
      |none=>simp[tz,hi] at hzz
      |some ii=>
       simp[tz,hi] at hzz;have hm:=Gw.mapM_places ht w;have hm2:(fs.mapM (m:=Sem) fun f=>do pure (f.offset,←sizeOf f.type)).run P w=.ok pl.toArray w:=by
        rw[Array.mapM_eq_mapM_toList,Sem.run_map,hm];rfl
       simp only[Array.toArray_toList] at hfill;have hz2:(zeroValue T).run P w=.ok z w:=by simp[zeroValue,typeInfo,hi,hzz]
       have hpm:(parts.map fun x=>(x.1,a.eval x.2)).toList=parts.toList.map fun p=>(p.1,a.eval p.2):=by simp
       simp only[execOp,Instr.build,Sem.run_bind,hz2,Result.andThen_ok,run_underlying hfs,hm2,Sem.run_pure,List.getElem?_toArray,hpm,hfill]
     ·cases ht
    ·cases hz
  ·cases hx
 ·cases hx
theorem run_loadVar{cs:List Value}(ht:tk P T=some (ag,k))(hc:∀(j:Nat) u,cs[j]?=some u→w.cell? ⟨b,off+j,none⟩=some u)(hv:Gw.loadV ag cs 0 k=some v):
  (loadVar T ⟨b,off,none⟩).run P w=.ok v w:=by
 unfold tk at ht;split at ht
 ·rename_i dd ii hdd hii;simp only[Option.some.injEq,Prod.mk.injEq] at ht;obtain⟨h1,h2⟩:=ht;cases ag with
  |true=>
   simp only[Gw.loadV] at hv;split at hv
   ·rename_i hle;simp only[Option.some.injEq] at hv;subst hv;have hle':0+k≤cs.length:=Nat.le_of_ble_eq_true hle;have hl:(loadCells ⟨b,off,none⟩ k).run P w=.ok (Gw.cut cs 0 k).toArray w:=by
     have:=run_loadCells_list (P:=P) w ⟨b,off,none⟩ (Gw.cut cs 0 k) (fun j u hu=>by
      rw[Addr.add_lit];have:=Gw.cut_get hu;rw[Nat.zero_add] at this;exact hc _ _ this)
     rwa [Gw.cut_length hle'] at this
    have hagg:(isAgg T).run P w=.ok true w:=by
     unfold isAgg;cases dd<;>simp[isAggD] at h1<;>simp[run_underlying hdd]
    simp[loadVar,hagg,sizeOf,typeInfo,hii,h2,hl]
   ·cases hv
  |false=>
   simp only[Gw.loadV] at hv;have hagg:(isAgg T).run P w=.ok false w:=by
    unfold isAgg;cases dd<;>simp[isAggD] at h1<;>simp[run_underlying hdd]
   have:=hc 0 v hv;simp only[Nat.add_zero] at this;simp[loadVar,hagg,load,Sem.run,this]
 ·cases ht
theorem does_loadC(hm:MemW m w)(h:EnvR m φ ρ a)(hx:aLoadC P ρ T x=some u):Does P w a m φ ⟨dst,.load T x,ty,pos,after,gd⟩ u:=by
 unfold aLoadC at hx;split at hx
 ·rename_i ag k cs ht hp;have hr:=aval_R h hp;generalize he:a.eval x=ev at hr;cases hr with
  | @cp _ _ b off vs hl hrd hc hi=>
   obtain⟨v,h1,h2⟩:=loadP_R hx ⟨hl,hi⟩ hc;have:=run_loadVar (P:=P) (w:=w) (b:=b) (off:=off) ht (fun j u hu=>hm _ _ _ (hrd j u hu)) h1
   exact⟨v,by simp[execOp,Instr.loadAt,he,Instr.sureAddr,this],h2.any⟩
 ·rename_i ag k cs ht hp;have hr:=aval_R h hp;generalize he:a.eval x=ev at hr;cases hr with
  | @ci _ _ b off vs hl hrd hc hi=>
   obtain⟨v,h1,h2⟩:=loadP_R hx ⟨hl,hi⟩ hc;have:=run_loadVar (P:=P) (w:=w) (b:=b) (off:=off) ht (fun j u hu=>hm _ _ _ (hrd j u hu)) h1
   exact⟨v,by simp[execOp,Instr.loadAt,he,Instr.sureAddr,this],h2⟩
 ·cases hx
theorem does_builtin{b:Builtin}{xs:Array Operand}{ts:Array TypeId}(h:EnvR m φ ρ a)(hx:aBuiltin P ρ b xs.toList ts.toList=some u):Does P w a m φ ⟨dst,.call ⟨.builtin b,xs,ts⟩,ty,pos,after,gd⟩ u:=by
 unfold aBuiltin at hx;split at hx
 ·rename_i x T hxs hts;obtain rfl:xs = #[x]:=by apply Array.ext';simpa using hxs
  obtain rfl:ts = #[T]:=by apply Array.ext';simpa using hts
  cases hv:aval ρ x with
  |none=>simp[hv] at hx
  |some v=>
   simp only[hv,Option.bind_some] at hx;have hr:=aval_R h hv;unfold lenP at hx;split at hx
   ·rename_i full sz ys;split at hx
    ·rename_i e ht;cases hx;generalize he:a.eval x=ev at hr;cases hr with
     | @sl _ _ _ _ ad cap b off g ha hcap hmax hfull hel hrr hnil=>
      refine⟨_,?_,.sc rfl⟩;unfold tsl at ht;split at ht
      ·rename_i e' hee;simp[execOp,resolve,invoke,builtin,Builtin.len_,he,run_underlying hee,goInt]
      ·cases ht
    ·cases hx
   ·rename_i v;have e:=hr.sc_eq;cases hq:qrun P (Builtin.len_ #[T] 0 #[v]) with
    |none=>simp[hq] at hx
    |some r=>
     rw[hq] at hx;have h1:(Builtin.len_ #[T] ty #[v]).run P w=.ok r w:=qrun_run w hq;exact⟨r,by simp[execOp,resolve,invoke,builtin,e,h1],ofVal_R hx⟩
   ·cases hx
 ·rename_i x y T U hxs hts;obtain rfl:xs = #[x,y]:=by apply Array.ext';simpa using hxs
  obtain rfl:ts = #[T,U]:=by apply Array.ext';simpa using hts
  split at hx
  ·rename_i v1 v2 h1 h2;have e1:=(aval_R h h1).sc_eq;have e2:=(aval_R h h2).sc_eq;cases hq:qrun P (Builtin.max_ #[T,U] 0 #[v1,v2]) with
   |none=>simp[hq] at hx
   |some r=>
    rw[hq] at hx;have h1:(Builtin.max_ #[T,U] ty #[v1,v2]).run P w=.ok r w:=qrun_run w hq;exact⟨r,by simp[execOp,resolve,invoke,builtin,e1,e2,h1],ofVal_R hx⟩
  ·cases hx
 ·rename_i x y T U hxs hts;obtain rfl:xs = #[x,y]:=by apply Array.ext';simpa using hxs
  obtain rfl:ts = #[T,U]:=by apply Array.ext';simpa using hts
  split at hx
  ·rename_i v1 v2 h1 h2;have e1:=(aval_R h h1).sc_eq;have e2:=(aval_R h h2).sc_eq;cases hq:qrun P (Builtin.min_ #[T,U] 0 #[v1,v2]) with
   |none=>simp[hq] at hx
   |some r=>
    rw[hq] at hx;have h1:(Builtin.min_ #[T,U] ty #[v1,v2]).run P w=.ok r w:=qrun_run w hq;exact⟨r,by simp[execOp,resolve,invoke,builtin,e1,e2,h1],ofVal_R hx⟩
  ·cases hx
 ·rename_i x hxs;obtain rfl:xs = #[x]:=by apply Array.ext';simpa using hxs
  split at hx
  ·rename_i f z ys hv;split at hx
   ·split at hx
    ·rename_i hb;cases hx;rw[Bool.and_eq_true] at hb;have hr:=aval_R h hv;generalize he:a.eval x=ev at hr;cases hr with
     | @sl _ _ _ _ ad cap b off g ha hcap hmax hfull hel hrr hnil=>
      obtain rfl:=hnil hb.1 (Nat.eq_of_beq_eq_true hb.2);exact⟨.pointer none,by simp[execOp,resolve,invoke,builtin,he,Lib.run_unsafeSliceData_nil],.sc rfl⟩
    ·cases hx
   ·cases hx
  ·cases hx
 ·rename_i x y T U hxs hts;obtain rfl:xs = #[x,y]:=by apply Array.ext';simpa using hxs
  obtain rfl:ts = #[T,U]:=by apply Array.ext';simpa using hts
  split at hx
  ·rename_i v1 v2 h1 h2;have e1:=(aval_R h h1).sc_eq;have e2:=(aval_R h h2).sc_eq;cases hq:qrun P (Builtin.unsafeString_ #[T,U] 0 #[v1,v2]) with
   |none=>simp[hq] at hx
   |some r=>
    rw[hq] at hx;have h1:(Builtin.unsafeString_ #[T,U] ty #[v1,v2]).run P w=.ok r w:=qrun_run w hq;exact⟨r,by simp[execOp,resolve,invoke,builtin,e1,e2,h1],ofVal_R hx⟩
  ·cases hx
 ·cases hx
theorem does_P{op:Op}(hm:MemW m w)(h:EnvR m φ ρ a)(hx:aP P ρ op=some u):Does P w a m φ ⟨dst,op,ty,pos,after,gd⟩ u:=by
 unfold aP at hx;split at hx
 ·exact does_move h hx
 ·exact does_assign h hx
 ·exact does_pick h hx
 ·exact does_nil h hx
 ·exact does_extract h hx
 ·exact does_bin h hx
 ·exact does_un h hx
 ·exact does_conv hm h hx
 ·exact does_iface h hx
 ·exact does_fn h hx
 ·exact does_slice h hx
 ·exact does_fieldAddr h hx
 ·exact does_field h hx
 ·exact does_indexAddr h hx
 ·exact does_index h hx
 ·exact does_assert h hx
 ·exact does_build h hx
 ·exact does_loadC hm h hx
 ·exact does_builtin h hx
 ·cases hx
end
end Go.Am
