/- What is handed over, and calls, in the plain machine: the model does the same. Plain lemmas, no statement of the seat. -/
import Derived.Test.YtnfbeplfnblgjaaGreatDoorZAu
set_option linter.all false
namespace Go.Am
open Go Go.Hb
open Go.Gw (tk tf tz tsl tar tpl isAggD)
section
variable{P:Program}{E:Entry}{m:Mem}{φ:Ph}{μ:Own}{st:Sto}{ρ:AEnv}{a:Act}{w:World}{dst:Option Nat}{ty:TypeId}{pos:String}{after:Array Edge}{gd:Option (Nat×Bool)}{C:Cfg}
theorem frzV_cell(cs:List PV):cell (frzV cs)=true:=by unfold frzV;split<;>rfl
theorem pubV_cell:∀{n:Nat}{x y:PV}{st st':Sto},pubV C n x st=some (y,st')→cell x=true→cell y=true
 |0,_,_,_,_,h,_=>by simp[pubV] at h
 |n+1,x,y,st,st',h,hc=>by
  simp only[pubV] at h;split at h
  ·rename_i id len;simp only[Option.some.injEq] at h;unfold pubRow at h;split at h
   ·split at h
    ·cases h;rfl
    ·cases h;rfl
   ·cases h;rfl
  ·rename_i id;split at h
   ·split at h
    ·split at h
     ·split at h
      ·cases h;exact frzV_cell _
      ·cases h
     ·cases h
    ·cases h;exact hc
   ·cases h;exact frzV_cell _
   ·cases h;exact hc
  ·simp[cell] at hc
  ·simp[cell] at hc
  ·split at h
   ·split at h
    ·cases h;rfl
    ·cases h
   ·cases h
  ·split at h
   ·cases h;rfl
   ·cases h
  ·cases h;exact hc
theorem mapS_ok{f:PV→Sto→Option (PV×Sto)}(hf:∀{x y:PV}{st st':Sto}{m:Mem}{μ:Own}{v:Value},f x st=some (y,st')→Sit E m φ μ st w→R m φ x v→∃m' μ',Mem.le m m'∧Ext st st' φ φ∧Sit E m' φ μ' st' w∧R m' φ y v):
  ∀{xs ys:List PV}{st st':Sto}{m:Mem}{μ:Own}{vs:List Value},mapS f xs st=some (ys,st')→Sit E m φ μ st w→Rl m φ xs vs→∃m' μ',Mem.le m m'∧Ext st st' φ φ∧Sit E m' φ μ' st' w∧Rl m' φ ys vs
 |[],ys,st,st',m,μ,vs,h,hs,hr=>by
  simp only[mapS,Option.some.injEq,Prod.mk.injEq] at h;obtain⟨rfl,rfl⟩:=h;exact⟨m,μ,Mem.le.refl m,Ext.refl _ _,hs,hr⟩
 |x::xs,ys,st,st',m,μ,vs,h,hs,hr=>by
  obtain⟨v,vs',rfl,h1,h2⟩:=hr.uncons;simp only[mapS] at h;split at h
  ·rename_i y st1 hy;split at h
   ·rename_i l st2 hl;cases h;obtain⟨m1,μ1,e1,e2,e3,e4⟩:=hf hy hs h1;obtain⟨m2,μ2,e5,e6,e7,e8⟩:=mapS_ok hf hl e3 (h2.mono e1 (Le.refl φ));exact⟨m2,μ2,e1.trans e5,e2.trans e6,e7,.cons (e4.mono e5 (Le.refl φ)) e8⟩
   ·cases h
  ·cases h
theorem mapS_all{f:PV→Sto→Option (PV×Sto)}{p:PV→Bool}(hf:∀{x y:PV}{st st':Sto},f x st=some (y,st')→p x=true→p y=true):∀{xs ys:List PV}{st st':Sto},mapS f xs st=some (ys,st')→xs.all p=true→ys.all p=true
 |[],ys,st,st',h,_=>by
  simp only[mapS,Option.some.injEq,Prod.mk.injEq] at h;obtain⟨rfl,rfl⟩:=h;rfl
 |x::xs,ys,st,st',h,hp=>by
  simp only[mapS] at h;simp only[List.all_cons,Bool.and_eq_true] at hp;split at h
  ·rename_i y st1 hy;split at h
   ·rename_i l st2 hl;cases h;simp only[List.all_cons,Bool.and_eq_true];exact⟨hf hy hp.1,mapS_all hf hl hp.2⟩
   ·cases h
  ·cases h
variable{r:AEnd}{π:List Nat}{args xs:List PV}{call:List PV→Sto→Option (AEnd×Sto)}{vs:List Value}{D:List Value→World→(Ending→World→Prop)→Prop}{i n:Nat}{f:Nat→Bool}{g:Nat→Nat}{φ2:Ph}{st':Sto}
theorem frzV_R{cs:List PV}{b:Nat}(hr:Rl m φ cs vs)(hrd:RdN m b 0 vs)(hc:cs.all cell=true):R m φ (frzV cs) (.pointer (some ⟨b,0,none⟩)):=by
 unfold frzV;split
 ·rename_i hp;exact .cp hr.1 hrd hc (hr.pure hp).2
 ·exact .ci hr.1 hrd hc hr.2
theorem pubV_ok:∀{C:Cfg}{n:Nat}{x y:PV}{st st':Sto}{m:Mem}{μ:Own}{v:Value},pubV C n x st=some (y,st')→Sit E m φ μ st w→R m φ x v→∃m' μ',Mem.le m m'∧Ext st st' φ φ∧Sit E m' φ μ' st' w∧R m' φ y v
 |_,0,_,_,_,_,_,_,_,h,_,_=>by simp[pubV] at h
 |C,n+1,x,y,st,st',m,μ,v,h,hs,hr=>by
  have same:(x,st)=(y,st')→∃m' μ',Mem.le m m'∧Ext st st' φ φ∧Sit E m' φ μ' st' w∧R m' φ y v:=fun e=>by
   cases e;exact⟨m,μ,Mem.le.refl m,Ext.refl _ _,hs,hr⟩
  have hl:=fun{C xs ys st st' m μ vs}=>mapS_ok (E:=E) (w:=w) (φ:=φ) (f:=pubV C n) (fun h hs hr=>pubV_ok h hs hr) (xs:=xs) (ys:=ys) (st:=st) (st':=st') (m:=m) (μ:=μ) (vs:=vs)
  simp only[pubV] at h;split at h
  ·simp only[Option.some.injEq] at h;exact pubRow_ok hs h hr
  ·rename_i id;cases hr with
   | @bp _ _ _ b hφ=>
    split at h
    ·rename_i T cs ho;split at h
     ·split at h
      ·rename_i cs' st1 hm;split at h
       ·rename_i T2 cs2 ho2;cases h;obtain⟨μ1,rs,μ2,h1,h2,_⟩:=hs.sto.get ho;obtain⟨b',vs,h3,h4,h5,h6⟩:=h2;rw[Nat.zero_add,hφ] at h3;cases h3;have hb1:w.heap[b]?=some (.cells vs.toArray T (0,0)):=hs.good.own (r:=bx b T vs) (by rw[h1,h4];simp)
        obtain⟨m1,μ',e1,e2,e3,e4⟩:=hl hm hs h5;have hcell:=mapS_all (fun h hc=>pubV_cell h hc) hm h6
        obtain⟨ν1,rs2,ν2,g1,g2,g3⟩:=e3.sto.get ho2;obtain⟨b2,us,g4,g5,g6,g7⟩:=g2;rw[Nat.zero_add,hφ] at g4;cases g4;subst g5;have hb2:w.heap[b]?=some (.cells us.toArray T2 (0,0)):=e3.good.own (r:=bx b T2 us) (by rw[g1];simp)
        obtain rfl:vs=us:=by
         rw[hb1] at hb2;simp only[Option.some.injEq,Obj.cells.injEq] at hb2;simpa using hb2.1
        have hg:Hb.Good E w m1 (bx b T2 vs::(ν1++ν2)):=e3.good.perm (by rw[g1];simp)
        obtain⟨hg2,hle2⟩:=hg.tell (b:=b) (cs:=vs) rfl (fun o u ho'=>⟨vs.toArray,T2,(0,0),hb2,by simpa using ho'⟩) (μ':=ν1++ν2) (fun s hs'=>.inl hs') (List.pairwise_cons.1 hg.apart).2
        have hrd:RdN (m1.add b vs) b 0 vs:=fun j u hu=>by rw[Nat.zero_add];exact Mem.add_get hu
        have hrl:=e4.mono hle2 (Le.refl φ);refine⟨_,ν1++ν2,e1.trans hle2,⟨e2.le,by rw[List.length_set];exact e2.len,fun j hj=>?_⟩,⟨hg2,?_,fun j hj=>e3.dom j (by simpa using hj)⟩,frzV_R hrl hrd hcell⟩
        ·have hne:j≠id:=fun e=>by subst e;rw[ho] at hj;cases hj
         rw[List.getElem?_set_ne (Ne.symm hne)];exact e2.dead j hj
        ·have:=g3 (o':=.frz cs') (rs':=[]) hle2 (Le.refl φ) (fun _ _=>rfl) ⟨rfl,b,vs,by rw[Nat.zero_add];exact hφ,hrd,hrl,hcell⟩
         simpa using this
       ·cases h
      ·cases h
     ·exact same (Option.some.inj h)
    ·rename_i cs ho;cases h;obtain⟨μ1,rs,μ2,h1,h2,_⟩:=hs.sto.get ho;obtain⟨_,b',vs,h3,h4,h5,h6⟩:=h2;rw[Nat.zero_add,hφ] at h3;cases h3;exact⟨m,μ,Mem.le.refl m,Ext.refl _ _,hs,frzV_R h5 h4 h6⟩
    ·exact same (Option.some.inj h)
  ·rename_i cs;split at h
   ·rename_i cs' st1 hm;cases h;cases hr with
    |ag hln hc hi=>
     obtain⟨m1,μ',e1,e2,e3,e4⟩:=hl hm hs ⟨hln,hi⟩;exact⟨m1,μ',e1,e2,e3,.ag e4.1 (mapS_all (fun h hc=>pubV_cell h hc) hm hc) e4.2⟩
   ·cases h
  ·rename_i cs;split at h
   ·rename_i cs' st1 hm;cases h;cases hr with
    |tu hln hi=>
     obtain⟨m1,μ',e1,e2,e3,e4⟩:=hl hm hs ⟨hln,hi⟩;exact⟨m1,μ',e1,e2,e3,.tu e4.1 e4.2⟩
   ·cases h
  ·rename_i f as bs;split at h
   ·rename_i as' st1 hm;split at h
    ·rename_i bs' st2 hm2;cases h;cases hr with
     |fn hln hln' hi hi'=>
      obtain⟨m1,μ',e1,e2,e3,e4⟩:=hl hm hs ⟨hln,hi⟩;obtain⟨m2,μ'',e5,e6,e7,e8⟩:=hl hm2 e3 (Rl.mono e1 (Le.refl φ) ⟨hln',hi'⟩);have e4':=e4.mono e5 (Le.refl φ);exact⟨m2,μ'',e1.trans e5,e2.trans e6,e7,.fn e4'.1 e8.1 e4'.2 e8.2⟩
    ·cases h
   ·cases h
  ·rename_i t x';split at h
   ·rename_i y' st1 hm;cases h;cases hr with
    |ifc hi=>
     obtain⟨m1,μ',e1,e2,e3,e4⟩:=pubV_ok hm hs hi;exact⟨m1,μ',e1,e2,e3,.ifc e4⟩
   ·cases h
  ·exact same (Option.some.inj h)
theorem pubL_ok{ys:List PV}{st:Sto}{m:Mem}{μ:Own}(h:pubL C xs st=some (ys,st'))(hs:Sit E m φ μ st w)(hr:Rl m φ xs vs):∃m' μ',Mem.le m m'∧Ext st st' φ φ∧Sit E m' φ μ' st' w∧Rl m' φ ys vs:=
 mapS_ok (fun h hs hr=>pubV_ok h hs hr) h hs hr
theorem renPV_cell:∀{n:Nat}{x:PV},cell (renPV g n x)=cell x
 |0,x=>rfl
 |n+1,x=>by cases x<;>rfl
theorem R.ren{m:Mem}{f:Nat→Bool}{g:Nat→Nat}{φ φ2:Ph}(hφ:∀i,f i=true→φ2 (g i)=φ i):∀{n:Nat}{x:PV}{v:Value},inIds f n x=true→R m φ x v→R m φ2 (renPV g n x) v
 |0,x,v,h,_=>by simp[inIds] at h
 |n+1,x,v,h,hr=>by
  have hall:∀{l:List PV}{ws:List Value},l.all (inIds f n)=true→(∀(i:Nat) c v,l[i]?=some c→ws[i]?=some v→R m φ c v)→∀(i:Nat) c v,(l.map (renPV g n))[i]?=some c→ws[i]?=some v→R m φ2 c v:=fun hl hi i c v h1 h2=>by
   rw[List.getElem?_map] at h1;cases hc:(_:List PV)[i]? with
   |none=>rw[hc] at h1;simp at h1
   |some c0=>
    rw[hc] at h1;simp only[Option.map_some,Option.some.injEq] at h1;subst h1;exact R.ren hφ (List.all_eq_true.1 hl c0 (List.mem_of_getElem? hc)) (hi i c0 v hc h2)
  have hcell:∀{l:List PV},l.all cell=true→(l.map (renPV g n)).all cell=true:=fun hl=>List.all_eq_true.2 fun y hy=>by
   obtain⟨z,hz,rfl⟩:=List.mem_map.1 hy;rw[renPV_cell];exact List.all_eq_true.1 hl z hz
  cases hr with
  |sc h1=>exact .sc h1
  |ag hl hc hi=>simp only[inIds] at h;exact .ag (by simpa using hl) (hcell hc) (hall h hi)
  |tu hl hi=>simp only[inIds] at h;exact .tu (by simpa using hl) (hall h hi)
  |sl b off g ha hcap hmax hfull hel hr hnil=>exact .sl b off g ha hcap hmax hfull hel hr hnil
  |ms hp hle hv hs=>simp only[inIds] at h;exact .ms ((hφ _ h).trans hp) hle hv hs
  |bp hp=>simp only[inIds] at h;exact .bp ((hφ _ h).trans hp)
  |rp hp hle hv hs=>simp only[inIds] at h;exact .rp ((hφ _ h).trans hp) hle hv hs
  |cp hl hrd hc hi=>exact .cp hl hrd hc hi
  |ci hl hrd hc hi=>simp only[inIds] at h;exact .ci (by simpa using hl) hrd (hcell hc) (hall h hi)
  |fn hl hl' hi hi'=>simp only[inIds,Bool.and_eq_true] at h;exact .fn (by simpa using hl) (by simpa using hl') (hall h.1 hi) (hall h.2 hi')
  |ifc hi=>simp only[inIds] at h;exact .ifc (R.ren hφ h hi)
  |yl hp=>simp only[inIds] at h;exact .yl ((hφ _ h).trans hp)
  |mr hp=>simp only[inIds] at h;exact .mr ((hφ _ h).trans hp)
  |cr hp=>simp only[inIds] at h;exact .cr ((hφ _ h).trans hp)
  |un h=>exact .un h
theorem Rl.ren{m:Mem}{φ:Ph}(hφ:∀i,f i=true→φ2 (g i)=φ i)(h:xs.all (inIds f n)=true)(hr:Rl m φ xs vs):Rl m φ2 (xs.map (renPV g n)) vs:=by
 refine⟨by simpa using hr.1,fun i c v h1 h2=>?_⟩
 rw[List.getElem?_map] at h1;cases hc:xs[i]? with
 |none=>rw[hc] at h1;simp at h1
 |some c0=>
  rw[hc] at h1;simp only[Option.map_some,Option.some.injEq] at h1;subst h1;exact R.ren hφ (List.all_eq_true.1 h c0 (List.mem_of_getElem? hc)) (hr.2 i c0 v hc h2)
theorem all_cell_ren{l:List PV}(hl:l.all cell=true):(l.map (renPV g n)).all cell=true:=List.all_eq_true.2 fun y hy=>by
 obtain⟨z,hz,rfl⟩:=List.mem_map.1 hy;rw[renPV_cell];exact List.all_eq_true.1 hl z hz
theorem aget_map{h:PV→PV}{t:Nat}:∀{ρ:AEnv},aget (ρ.map fun p=>(p.1,h p.2)) t=(aget ρ t).map h
 |[]=>rfl
 |(k,v)::r=>by
  simp only[List.map_cons,aget];cases Nat.beq k t with
  |true=>rfl
  |false=>exact aget_map (ρ:=r)
theorem aget_mem:∀{ρ:AEnv}{t:Nat}{x:PV},aget ρ t=some x→∃p∈ρ,p.2=x
 |[],t,x,h=>by simp[aget] at h
 |(k,y)::r,t,x,h=>by
  simp only[aget] at h;split at h
  ·cases h;exact⟨(k,_),List.mem_cons_self,rfl⟩
  ·obtain⟨p,h1,h2⟩:=aget_mem h;exact⟨p,List.mem_cons_of_mem _ h1,h2⟩
theorem SRo.ren{m:Mem}{φ:Ph}(hφ:∀i,f i=true→φ2 (g i)=φ i){j:Nat}{o:SO}{rs:Own}(h:SRo m φ i o rs)(ho:soIn f o=true)(hj:φ2 j=φ i):SRo m φ2 j (renSO g o) rs:=by
 cases o with
 |dead=>exact h
 |box T cs=>obtain⟨b,vs,h1,h2,h3,h4⟩:=h;exact⟨b,vs,hj.trans h1,h2,h3.ren hφ ho,all_cell_ren h4⟩
 |frz cs=>obtain⟨h0,b,vs,h1,h2,h3,h4⟩:=h;exact⟨h0,b,vs,hj.trans h1,h2,h3.ren hφ ho,all_cell_ren h4⟩
 |lp ρ ps a b s=>
  obtain⟨l,r,h1,h2,h3,h4,h5,h6,h7,h8,h9,h10⟩:=h;refine⟨l,r,hj.trans h1,h2,h3,h4,h5,h6,h7,h8,h9,fun t x ht=>?_⟩
  rw[aget_map] at ht;cases ht0:aget ρ t with
  |none=>rw[ht0] at ht;simp at ht
  |some x0=>
  rw[ht0] at ht;simp only[Option.map_some,Option.some.injEq] at ht;subst ht;obtain⟨v,q1,q2⟩:=h10 t x0 ht0;obtain⟨p,hp,hpe⟩:=aget_mem ht0;exact⟨v,q1,q2.ren hφ (by rw[←hpe];exact List.all_eq_true.1 ho p hp)⟩
 |mp ks vs=>obtain⟨b,en,clock,h1,h2,h3,h4⟩:=h;exact⟨b,en,clock,hj.trans h1,h2,h3,h4.ren hφ ho⟩
 |ch c q=>obtain⟨b,us,s,r,h1,h2,h3⟩:=h;exact⟨b,us,s,r,hj.trans h1,h2,h3.ren hφ ho⟩
 |row p e sz xs=>
  obtain⟨a,cap,vss,h1,h2,h3,h4,h5⟩:=h;refine⟨a,cap,vss,by rw[List.length_map];exact hj.trans h1,by rw[List.length_map];exact h2,h3,by rw[List.length_map];exact h4,fun k y vs hy hv=>?_⟩
  rw[List.getElem?_map] at hy;cases hx:xs[k]? with
  |none=>rw[hx] at hy;simp at hy
  |some x=>
   rw[hx] at hy;simp only[Option.map_some,Option.some.injEq] at hy;subst hy;obtain⟨q1,q2,q3,q4⟩:=h5 k x vs hx hv;have hxi:inIds f 8 x=true:=List.all_eq_true.1 ho x (List.mem_of_getElem? hx);have key:∃n,(renPV g 8 x).cells=x.cells.map (renPV g n)∧x.cells.all (inIds f n)=true:=by
    cases x with
    |ag cs=>exact⟨7,rfl,hxi⟩
    |_=>exact⟨8,rfl,by simp only[PV.cells,List.all_cons,List.all_nil,Bool.and_true];exact hxi⟩
   obtain⟨n,k1,k2⟩:=key;rw[k1];exact⟨by simpa using q1,q2,all_cell_ren q3,q4.ren hφ k2⟩
theorem SR.list{m:Mem}{φ:Ph}:∀{k:Nat}{st:Sto}{μ:Own},SR m φ k st μ→∃L:List Own,L.length=st.length∧L.flatten=μ∧∀(i:Nat) o rs,st[i]?=some o→L[i]?=some rs→SRo m φ (k+i) o rs
 |_,[],μ,h=>⟨[],rfl,by have h:μ=[]:=h;simp[h],fun i o rs h=>by simp at h⟩
 |k,o::r,μ,h=>by
  obtain⟨rs,μ',rfl,h2,h3⟩:=h;obtain⟨L,h4,h5,h6⟩:=SR.list h3;refine⟨rs::L,by simp[h4],by simp[h5],fun i o' rs' h7 h8=>?_⟩
  cases i with
  |zero=>simp at h7 h8;subst h7;subst h8;exact h2
  |succ i=>rw[show k+(i+1)=k+1+i by omega];exact h6 i o' rs' (by simpa using h7) (by simpa using h8)
theorem SR.ofList{m:Mem}{φ:Ph}:∀{k:Nat}{st:Sto}{L:List Own},L.length=st.length→(∀(i:Nat) o rs,st[i]?=some o→L[i]?=some rs→SRo m φ (k+i) o rs)→SR m φ k st L.flatten
 |_,[],L,h,_=>by obtain rfl:L=[]:=List.eq_nil_of_length_eq_zero h;rfl
 |k,o::r,[],h,_=>by simp at h
 |k,o::r,rs::L,h,hd=>⟨rs,L.flatten,rfl,hd 0 o rs rfl rfl,SR.ofList (by simpa using h) fun i o' rs' h1 h2=>by
   rw[show k+1+i=k+(i+1) by omega]
   exact hd (i+1) o' rs' (by simpa using h1) (by simpa using h2)⟩
def setAll{α:Type}:List Nat→List α→List α→List α
 |i::π,x::xs,l=>setAll π xs (l.set i x)
 |_,_,l=>l
theorem setAll_length{α:Type}:∀{π:List Nat}{xs l:List α},(setAll π xs l).length=l.length
 |[],_,_=>rfl
 |i::π,[],_=>rfl
 |i::π,x::xs,l=>by simp[setAll,setAll_length]
theorem setAll_other{α:Type}{i:Nat}:∀{π:List Nat}{xs l:List α},i∉π→(setAll π xs l)[i]?=l[i]?
 |[],_,_,_=>rfl
 |k::π,[],_,_=>rfl
 |k::π,x::xs,l,h=>by
  rw[setAll,setAll_other (fun e=>h (List.mem_cons_of_mem _ e)),List.getElem?_set_ne (fun e=>h (by rw[e];exact List.mem_cons_self))]
theorem setAll_at{α:Type}{i j:Nat}{x:α}:∀{π:List Nat}{xs l:List α},π.Nodup→i<l.length→π[j]?=some i→xs[j]?=some x→(setAll π xs l)[i]?=some x
 |[],_,_,_,_,h,_=>by simp at h
 |k::π,[],_,_,_,_,h=>by simp at h
 |k::π,y::xs,l,hn,hl,h1,h2=>by
  rw[List.nodup_cons] at hn;cases j with
  |zero=>
   simp at h1 h2;subst h1;subst h2;rw[setAll,setAll_other hn.1,List.getElem?_set_self hl]
  |succ j=>
   show(setAll π xs (l.set k y))[i]?=some x
   exact setAll_at (j:=j) hn.2 (by simpa using hl) (by simpa using h1) (by simpa using h2)
theorem putAll_eq{g:Nat→Nat}:∀{π:List Nat}{os st:Sto},putAll g π os st=setAll π (os.map (renSO g)) st
 |[],_,_=>by simp[putAll,setAll]
 |i::π,[],_=>by simp[putAll,setAll]
 |i::π,o::os,st=>by simp[putAll,setAll,putAll_eq]
section
open Classical
theorem set_perm{L:List Own}{i:Nat}{r:Own}(h:i<L.length):((L.set i r).flatten++L.getD i []).Perm (r++L.flatten):=by
 rw[List.perm_iff_count]
 intro a;have e:L=L.take i++L[i]::L.drop (i+1):=by rw[←List.drop_eq_getElem_cons h,List.take_append_drop]
 have e2:(L.set i r)=L.take i++r::L.drop (i+1):=by rw[List.set_eq_take_append_cons_drop,if_pos h]
 have e3:L.getD i []=L[i]:=by simp[List.getD_eq_getElem?_getD,List.getElem?_eq_getElem h]
 rw[e2,e3];have e4:List.count a L.flatten=List.count a (L.take i).flatten+(List.count a L[i]+List.count a (L.drop (i+1)).flatten):=by
  have:=congrArg (fun l:List Own=>List.count a l.flatten) e
  simp only[List.flatten_append,List.flatten_cons,List.count_append] at this;exact this
 simp only[List.flatten_append,List.flatten_cons,List.count_append,e4];omega
theorem setAll_perm:∀{π:List Nat}{rss L:List Own},π.Nodup→(∀i∈π,i<L.length)→rss.length=π.length→((setAll π rss L).flatten++(π.map fun i=>L.getD i []).flatten).Perm (rss.flatten++L.flatten)
 |[],[],L,_,_,_=>by simp[setAll]
 |[],_::_,_,_,_,h=>by simp at h
 |i::π,[],L,_,_,h=>by simp at h
 |i::π,r::rss,L,hn,hl,hlen=>by
  rw[List.nodup_cons] at hn;have hi:=hl i List.mem_cons_self;have ih:=setAll_perm (π:=π) (rss:=rss) (L:=L.set i r) hn.2 (fun k hk=>by simpa using hl k (List.mem_cons_of_mem _ hk)) (by simpa using hlen)
  have hmap:(π.map fun k=>(L.set i r).getD k [])=π.map fun k=>L.getD k []:=List.map_congr_left fun k hk=>by
   have hne:i≠k:=fun e=>hn.1 (by rw[e];exact hk)
   simp[List.getD_eq_getElem?_getD,List.getElem?_set_ne hne]
  rw[hmap] at ih;have hs:=set_perm (r:=r) hi;rw[List.perm_iff_count] at ih hs ⊢
  intro a;have h1:=ih a;have h2:=hs a;simp only[setAll,List.map_cons,List.flatten_cons,List.count_append] at h1 h2⊢;omega
end
theorem place_at:∀{k:Nat},i∈π→∃j,place i k π=k+j∧π[j]?=some i:=by
 induction π with
 |nil=>intro k h;simp at h
 |cons x r ih=>
  intro k h;simp only[place];split
  ·rename_i hb;exact⟨0,rfl,by simp[Nat.eq_of_beq_eq_true hb]⟩
  ·rename_i hb;have hne:i≠x:=fun e=>by subst e;simp at hb
   obtain⟨j,h1,h2⟩:=ih (k:=k+1) ((List.mem_cons.1 h).resolve_left hne);exact⟨j+1,by rw[h1];omega,by simpa using h2⟩
theorem nodup_get:∀{π:List Nat},π.Nodup→∀{i j k:Nat},π[j]?=some i→π[k]?=some i→j=k
 |[],_,i,j,k,h,_=>by simp at h
 |x::r,hn,i,j,k,h1,h2=>by
  rw[List.nodup_cons] at hn;cases j with
  |zero=>
   cases k with
   |zero=>rfl
   |succ k=>
    simp at h1 h2;subst h1;exact absurd (List.mem_of_getElem? h2) hn.1
  |succ j=>
   cases k with
   |zero=>
    simp at h1 h2;subst h2;exact absurd (List.mem_of_getElem? h1) hn.1
   |succ k=>exact congrArg (· + 1) (nodup_get (π:=r) (i:=i) hn.2 (by simpa using h1) (by simpa using h2))
theorem close_nodup{st:Sto}:∀{n:Nat}{work acc:List Nat},acc.Nodup→(close st n work acc).Nodup
 |0,_,_,h=>h
 |n+1,[],_,h=>h
 |n+1,w::r,acc,h=>by
  simp only[close];split
  ·exact close_nodup h
  ·rename_i he;refine close_nodup (List.nodup_cons.2 ⟨fun hm=>?_,h⟩)
   have:acc.elem w=true:=by simpa using hm
   rw[he] at this;cases this
theorem fetch_ok{g:Nat→Nat}{f:Nat→Bool}{st:Sto}:∀{π:List Nat}{st0:Sto},fetch g f st π=some st0→st0.length=π.length∧∀(j i:Nat),π[j]?=some i→∃o,st[i]?=some o∧soIn f o=true∧st0[j]?=some (renSO g o)
 |[],st0,h=>by
  simp only[fetch,mapO,Option.some.injEq] at h;subst h;exact⟨rfl,fun j i h=>by simp at h⟩
 |i::π,st0,h=>by
  unfold fetch at h;obtain⟨y,l,rfl,h1,h2⟩:=mapO_cons h;obtain⟨h3,h4⟩:=fetch_ok (π:=π) h2;refine⟨by simp[h3],fun j k hj=>?_⟩
  cases j with
  |zero=>
   simp at hj;subst hj;split at h1
   ·rename_i o ho;split at h1
    ·rename_i hso;cases h1;exact⟨o,ho,hso,rfl⟩
    ·cases h1
   ·cases h1
  |succ j=>
   obtain⟨o,q1,q2,q3⟩:=h4 j k (by simpa using hj)
   exact⟨o,q1,q2,by simpa using q3⟩
def PanL(v:Value)(c:List PanicEntry):Prop:=∃ol,c=⟨v,false,false⟩::ol∧∀p∈ol,p.goexit=false
theorem PanL.one(v:Value):PanL v [⟨v,false,false⟩]:=⟨[],rfl,fun p h=>by simp at h⟩
def PanE(v:Value)(e:Ending):Prop:=∃c,e=.panicked c∧PanL v c
def EndR(m:Mem)(φ:Ph):AEnd→Ending→Prop
 | .ret rs,e=>∃us,e=.returned (Gw.tup us)∧Rl m φ rs us
 | .pan x,e=>∃u,PanE u e∧R m φ x u
theorem EndR.mono{m':Mem}{φ':Ph}{e:Ending}(h:EndR m φ r e)(hm:Mem.le m m')(hle:Le φ φ'):EndR m' φ' r e:=by
 cases r with
 |ret rs=>obtain⟨us,h1,h2⟩:=h;exact⟨us,h1,h2.mono hm hle⟩
 |pan x=>obtain⟨u,h1,h2⟩:=h;exact⟨u,h1,h2.mono hm hle⟩
def CallOk(P:Program)(call:FuncId→List PV→Sto→Option (AEnd×Sto)):Prop:=
 ∀f args st r st',call f args st=some (r,st')→∀w m φ μ vs,Sit ⟨w,m,feetOf μ⟩ m φ μ st w→Rl m φ args vs →
  Calls P f vs.toArray w fun en w'=>∃m' φ' μ',Ext st st' φ φ'∧Sit ⟨w,m,feetOf μ⟩ m' φ' μ' st' w'∧EndR m' φ' r en
theorem endPur_R{en:Ending}(h:endPur r=true)(hr:EndR m φ r en):EndR m noPh r en:=by
 cases r with
 |ret rs=>obtain⟨us,h1,h2⟩:=hr;exact⟨us,h1,h2.pure h⟩
 |pan x=>obtain⟨u,h1,h2⟩:=hr;exact⟨u,h1,R.pure 8 h h2⟩
def DoesOk(D:List Value→World→(Ending→World→Prop)→Prop)(call:List PV→Sto→Option (AEnd×Sto)):Prop:=
 ∀args st r st',call args st=some (r,st')→∀w m φ μ vs,Sit ⟨w,m,feetOf μ⟩ m φ μ st w→Rl m φ args vs →
  D vs w fun en w'=>∃m' φ' μ',Ext st st' φ φ'∧Sit ⟨w,m,feetOf μ⟩ m' φ' μ' st' w'∧EndR m' φ' r en
def CallD(P:Program)(f:FuncId)(vs:List Value)(w:World)(R:Ending→World→Prop):Prop:=Calls P f vs.toArray w R
def SeesOk(D:List Value→World→(Ending→World→Prop)→Prop)(E:Entry)(m:Mem)(φ:Ph)(st:Sto)(w:World)(vs:List Value)(r:AEnd)(st':Sto):Prop:=
 D vs w fun en w'=>∃m' φ' μ',Mem.le m m'∧Ext st st' φ φ'∧Sit E m' φ' μ' st' w'∧EndR m' φ' r en
def CallerOk(P:Program)(E:Entry)(m:Mem)(φ:Ph)(st:Sto)(w:World)(f:FuncId)(vs:List Value)(r:AEnd)(st':Sto):Prop:=
 Calls P f vs.toArray w fun en w'=>∃m' φ' μ',Mem.le m m'∧Ext st st' φ φ'∧Sit E m' φ' μ' st' w'∧EndR m' φ' r en
theorem comeBack_ok(hD:∀vs w R R',D vs w R→(∀e w',R e w'→R' e w')→D vs w R')(he:DoesOk D call){st st0 st1:Sto}{r':AEnd}(hs:Sit E m φ μ st w)(hn:π.Nodup)
  (hst:st0.length=π.length∧∀(j i:Nat),π[j]?=some i→∃o,st[i]?=some o∧soIn (fun i=>π.elem i) o=true∧st0[j]?=some (renSO (fun i=>place i 0 π) o))
  (hr:Rl m (fun j=>match π[j]? with
   |some i=>φ i
   |none=>none) args vs) (hc:call args st0=some (r,st1)) (hb:comeBack π st r st1=some (r',st')):SeesOk D E m φ st w vs r' st':=by
 unfold comeBack at hb;split at hb
 ·rename_i hin;rw[Bool.and_eq_true] at hin;cases hb;obtain⟨φ0,hφ0⟩:∃φ0:Ph,φ0=fun j=>match π[j]? with
   |some i=>φ i
   |none=>none:=⟨_,rfl⟩
  rw[←hφ0] at hr;have hφ0':∀{j i:Nat},π[j]?=some i→φ0 j=φ i:=fun{j i} h=>by rw[hφ0];simp only[h]
  have hel:∀{i:Nat},(π.elem i)=true→i∈π:=fun h=>by simpa using h
  have hg0:∀i,(fun i=>π.elem i) i=true→φ0 ((fun i=>place i 0 π) i)=φ i:=fun i hi=>by
   obtain⟨j,h1,h2⟩:=place_at (k:=0) (hel hi);rw[Nat.zero_add] at h1;simp only[h1];exact hφ0' h2
  have hlt:∀i∈π,i<st.length:=fun i hi=>by
   obtain⟨j,h2⟩:=List.getElem?_of_mem hi;obtain⟨o,q1,_⟩:=hst.2 j i h2;exact(List.getElem?_eq_some_iff.1 q1).1
  obtain⟨L,hL1,hL2,hL3⟩:=hs.sto.list;have hltL:∀i∈π,i<L.length:=fun i hi=>by rw[hL1];exact hlt i hi
  obtain⟨Ls,hLs⟩:∃Ls:List Own,Ls=π.map fun i=>L.getD i []:=⟨_,rfl⟩
  have hLsl:Ls.length=π.length:=by simp[hLs]
  have hsr0:SR m φ0 0 st0 Ls.flatten:=SR.ofList (by rw[hLsl,hst.1]) fun j o rs h1 h2=>by
   have hj:j<π.length:=by have:=(List.getElem?_eq_some_iff.1 h2).1;omega
   have hpj:π[j]?=some π[j]:=List.getElem?_eq_getElem hj;obtain⟨o0,q1,q2,q3⟩:=hst.2 j _ hpj;rw[h1] at q3;cases q3;rw[hLs,List.getElem?_map,hpj] at h2;simp only[Option.map_some,Option.some.injEq] at h2;have hlj:=hltL _ (List.getElem_mem hj);have hLg:L[π[j]]?=some rs:=by rw[←h2,List.getD_eq_getElem?_getD,List.getElem?_eq_getElem hlj];rfl
   have:=hL3 _ o0 rs q1 hLg;rw[Nat.zero_add] at this⊢;exact this.ren hg0 q2 (hφ0' hpj)
  obtain⟨μr,hμr⟩:∃μr,μr=(setAll π (π.map fun _=>([]:Own)) L).flatten:=⟨_,rfl⟩
  have hperm:μ.Perm (Ls.flatten++μr):=by
   have:=setAll_perm (π:=π) (rss:=π.map fun _=>([]:Own)) (L:=L) hn hltL (by simp)
   have hz:(π.map fun _=>([]:Own)).flatten=[]:=by simp
   rw[hz,List.nil_append,hL2,←hμr,←hLs] at this;exact this.symm.trans List.perm_append_comm
  have hgood:=hs.good.perm hperm;have hsit:Sit ⟨w,m,feetOf Ls.flatten⟩ m φ0 Ls.flatten st0 w:=⟨hgood.start,hsr0,fun id hid=>by
   rw[hφ0];have:π[id]?=none:=List.getElem?_eq_none (by rw[←hst.1];exact hid)
   simp only[this]⟩
  refine hD _ _ _ _ (he args _ r st1 hc w m φ0 Ls.flatten vs hsit hr) fun en w' ⟨m',φ1,μ1',h1,h2,h3⟩=>?_
  have hlen1:π.length≤st1.length:=by have:=h1.len;rwa [hst.1] at this
  obtain⟨b,hbdef⟩:∃b,b=back π st.length:=⟨_,rfl⟩;have hb1:∀{j i:Nat},π[j]?=some i→b j=i:=fun{j i} h=>by rw[hbdef];simp only[back,h]
  have hb2:∀{j:Nat},π.length≤j→b j=st.length+(j-π.length):=fun{j} h=>by
   rw[hbdef];have:π[j]?=none:=List.getElem?_eq_none h;simp only[back,this]
  obtain⟨φ',hφ'⟩:∃φ':Ph,φ'=fun id=>match π.elem id with
   |true=>φ1 (place id 0 π)
   |false=>match Nat.blt id st.length with
    |true=>φ id
    |false=>φ1 (π.length+(id-st.length)):=⟨_,rfl⟩
  have hφ'1:∀{j i:Nat},π[j]?=some i→φ' i=φ1 j:=fun{j i} h=>by
   have hi:i∈π:=List.mem_of_getElem? h;have hei:π.elem i=true:=by simpa using hi
   obtain⟨k,h5,h6⟩:=place_at (k:=0) hi;rw[Nat.zero_add] at h5;have:k=j:=nodup_get hn h6 h;subst this;rw[hφ'];simp only[hei,h5]
  have hφ'2:∀{i:Nat},i∉π→i<st.length→φ' i=φ i:=fun{i} h hl=>by
   have hei:π.elem i=false:=by rw[Bool.eq_false_iff];intro e;exact h (hel e)
   have hbl:Nat.blt i st.length=true:=by rw[Nat.blt_eq];exact hl
   rw[hφ'];simp only[hei,hbl]
  have hφ'3:∀{i:Nat},st.length≤i→φ' i=φ1 (π.length+(i-st.length)):=fun{i} hl=>by
   have hei:π.elem i=false:=by rw[Bool.eq_false_iff];intro e;have:=hlt i (hel e);omega
   have hbl:Nat.blt i st.length=false:=by rw[Bool.eq_false_iff];intro e;rw[Nat.blt_eq] at e;omega
   rw[hφ'];simp only[hei,hbl]
  have hbφ:∀j,(fun j=>Nat.blt j st1.length) j=true→φ' (b j)=φ1 j:=fun j hj=>by
   rcases Nat.lt_or_ge j π.length with h5|h5
   ·have hpj:π[j]?=some π[j]:=List.getElem?_eq_getElem h5;rw[hb1 hpj];exact hφ'1 hpj
   ·rw[hb2 h5,hφ'3 (by omega)]
    congr 1
    omega
  have hblt:∀{j:Nat},j<st1.length→(fun j=>Nat.blt j st1.length) j=true:=fun{j} h=>by simp only[Nat.blt_eq];exact h
  have hle:Le φ φ':=fun id=>by
   by_cases hid:id∈π
   ·obtain⟨j,h5⟩:=List.getElem?_of_mem hid;rw[hφ'1 h5,←hφ0' h5];exact h1.le j
   ·rcases Nat.lt_or_ge id st.length with h5|h5
    ·rw[hφ'2 hid h5];exact Le.refl φ id
    ·rw[hs.dom id h5];exact⟨fun b hb=>(by cases hb),fun sv n sz hb=>(by cases hb)⟩
  obtain⟨L1,hK1,hK2,hK3⟩:=h2.sto.list;obtain⟨L',hL'⟩:∃L':List Own,L'=setAll π (L1.take π.length) L++L1.drop π.length:=⟨_,rfl⟩;have hst':putAll (back π st.length) π st1 st++(st1.drop π.length).map (renSO (back π st.length))=setAll π (st1.map (renSO b)) st++(st1.drop π.length).map (renSO b):=by rw[putAll_eq,hbdef]
  rw[hst',←hbdef];have hsr':SR m' φ' 0 (setAll π (st1.map (renSO b)) st++(st1.drop π.length).map (renSO b)) L'.flatten:=SR.ofList (by simp[hL',setAll_length,hL1,hK1]) fun id o rs h5 h6=>by
   rw[Nat.zero_add];rw[hL'] at h6;rcases Nat.lt_or_ge id st.length with hid|hid
   ·rw[List.getElem?_append_left (by rw[setAll_length];exact hid)] at h5
    rw[List.getElem?_append_left (by rw[setAll_length,hL1];exact hid)] at h6
    by_cases hm:id∈π
    ·obtain⟨j,hj⟩:=List.getElem?_of_mem hm;have hjl:j<π.length:=(List.getElem?_eq_some_iff.1 hj).1;have ho:st1[j]?=some st1[j]:=List.getElem?_eq_getElem (by omega)
     have hl:L1[j]?=some L1[j]:=List.getElem?_eq_getElem (by omega)
     rw[setAll_at hn hid hj (show(st1.map (renSO b))[j]?=some (renSO b st1[j]) by rw[List.getElem?_map,ho];rfl)] at h5
     rw[setAll_at hn (by rw[hL1];exact hid) hj (show(L1.take π.length)[j]?=some L1[j] by rw[List.getElem?_take,if_pos hjl,hl])] at h6
     cases h5;cases h6;have:=hK3 j _ _ ho hl;rw[Nat.zero_add] at this;exact this.ren hbφ (List.all_eq_true.1 hin.2 _ (List.mem_of_getElem? ho)) (hφ'1 hj)
    ·rw[setAll_other hm] at h5 h6;have:=hL3 id o rs h5 h6;rw[Nat.zero_add] at this;exact this.mono h2.good.mem hle (hφ'2 hm hid)
   ·rw[List.getElem?_append_right (by rw[setAll_length];exact hid),setAll_length,List.getElem?_map,List.getElem?_drop] at h5
    rw[List.getElem?_append_right (by rw[setAll_length,hL1];exact hid),setAll_length,hL1,List.getElem?_drop] at h6
    cases ho:st1[π.length+(id-st.length)]? with
    |none=>rw[ho] at h5;simp at h5
    |some o0=>
     rw[ho] at h5;simp only[Option.map_some,Option.some.injEq] at h5;subst h5;have:=hK3 _ _ _ ho h6;rw[Nat.zero_add] at this;exact this.ren hbφ (List.all_eq_true.1 hin.2 _ (List.mem_of_getElem? ho)) (hφ'3 hid)
  have hperm':(μ1'++μr).Perm L'.flatten:=by
   have hq:=setAll_perm (π:=π) (rss:=L1.take π.length) (L:=L) hn hltL (by simp;omega)
   rw[hL2,←hLs] at hq;have hq2:((setAll π (L1.take π.length) L).flatten++Ls.flatten).Perm (((L1.take π.length).flatten++μr)++Ls.flatten):=
    hq.trans ((hperm.append_left _).trans (by
     rw[List.append_assoc];exact(List.perm_append_comm).append_left _))
   have hq3:=(List.perm_append_right_iff _).1 hq2;rw[hL',List.flatten_append,←hK2];have e:L1.flatten=(L1.take π.length).flatten++(L1.drop π.length).flatten:=by rw[←List.flatten_append,List.take_append_drop]
   rw[e];refine List.Perm.trans ?_ (hq3.symm.append_right _);rw[List.append_assoc,List.append_assoc];exact(List.perm_append_comm).append_left _
  have hlen':(setAll π (st1.map (renSO b)) st++(st1.drop π.length).map (renSO b)).length=st.length+(st1.length-π.length):=by simp[setAll_length]
  refine⟨m',φ',L'.flatten,h2.good.mem,⟨hle,by rw[hlen'];omega,fun id hid=>?_⟩,⟨(hgood.back h2.good).perm hperm',hsr',fun id hid=>?_⟩,?_⟩
  ·have hl:=(List.getElem?_eq_some_iff.1 hid).1;rw[List.getElem?_append_left (by rw[setAll_length];exact hl)]
   by_cases hm:id∈π
   ·obtain⟨j,hj⟩:=List.getElem?_of_mem hm;obtain⟨o,q1,_,q3⟩:=hst.2 j id hj;rw[hid] at q1;cases q1;obtain⟨d1,d2⟩:=h1.dead j q3;exact⟨setAll_at hn hl hj (by rw[List.getElem?_map,d1];rfl),by rw[hφ'1 hj,d2,hφ0' hj]⟩
   ·rw[setAll_other hm];exact⟨hid,hφ'2 hm hl⟩
  ·rw[hlen'] at hid;rw[hφ'3 (by omega)]
   exact h2.dom _ (by omega)
  ·unfold renEnd;split
   ·rename_i hp;exact(endPur_R hp h3).mono (Mem.le.refl _) (Le.none _)
   ·cases r with
    |ret rs=>obtain⟨us,k1,k2⟩:=h3;exact⟨us,k1,k2.ren hbφ hin.1⟩
    |pan v=>obtain⟨u,k1,k2⟩:=h3;exact⟨u,k1,k2.ren hbφ hin.1⟩
 ·cases hb
theorem acallM_ok(hD:∀vs w R R',D vs w R→(∀e w',R e w'→R' e w')→D vs w R')(he:DoesOk D call){st:Sto}(hn:π.Nodup)(hs:Sit E m φ μ st w)(hr:Rl m φ args vs)(h:acallM call args π st=some (r,st')):SeesOk D E m φ st w vs r st':=by
 unfold acallM at h;split at h
 ·rename_i st0 hargs hf;split at h
  ·rename_i r1 st1 hc;refine comeBack_ok hD he hs hn (fetch_ok hf) (hr.ren (fun i hi=>?_) hargs) hc h
   obtain⟨j,h1,h2⟩:=place_at (k:=0) (show i∈π by simpa using hi)
   rw[Nat.zero_add] at h1;simp only[h1,h2]
  ·cases h
 ·cases h
theorem CallOk.does{call:FuncId→List PV→Sto→Option (AEnd×Sto)}(he:CallOk P call)(f:FuncId):DoesOk (CallD P f) (call f):=fun args st r st' h w m φ μ vs hs hr=>he f args st r st' h w m φ μ vs hs hr
theorem acallS_ok{e:Ev}(he:CallOk P e.call){f:FuncId}{st:Sto}(hs:Sit E m φ μ st w)(hr:Rl m φ args vs)(h:acallS C e f args st=some (r,st')):CallerOk P E m φ st w f vs r st':=by
 unfold acallS at h;split at h
 ·cases h
 ·rename_i args1 st1 hp;obtain⟨m1,μ1,e1,e2,e3,e4⟩:∃m' μ',Mem.le m m'∧Ext st st1 φ φ∧Sit E m' φ μ' st1 w∧Rl m' φ args1 vs:=by
   split at hp
   ·cases hp;exact⟨m,μ,Mem.le.refl m,Ext.refl _ _,hs,hr⟩
   ·exact pubL_ok hp hs hr
  have lift:∀{r:AEnd}{st':Sto},CallerOk P E m1 φ st1 w f vs r st'→CallerOk P E m φ st w f vs r st':=fun hc=>hc.mono fun en w' ⟨m',φ',μ',h1,h2,h3,h4⟩=>⟨m',φ',μ',e1.trans h1,e2.trans h2,h3,h4⟩
  split at h
  ·rename_i hpur;split at h
   ·rename_i r1 st2 hc;split at h
    ·rename_i hep;cases h;apply lift;have hg:Hb.Good E w m1 ([]++μ1):=e3.good;have hsit:Sit ⟨w,m1,feetOf []⟩ m1 noPh [] [] w:=⟨hg.start,rfl,fun _ _=>rfl⟩
     refine(he f args1 [] r st2 hc w m1 noPh [] vs hsit (e4.pure hpur)).mono fun en w' ⟨m',φ',μ',h1,h2,h3⟩=>?_
     have hg2:=hg.back h2.good;refine⟨m',φ,μ1,h2.good.mem,Ext.refl _ _,⟨hg2.drop (List.sublist_append_right _ _),e3.sto.mono h2.good.mem (Le.refl φ) (fun _ _ _=>rfl),e3.dom⟩,(endPur_R hep h3).mono (Mem.le.refl _) (Le.none φ)⟩
    ·refine lift (comeBack_ok (D:=CallD P f) (fun _ _ _ _ h hr=>Calls.mono h hr) (he.does f) e3 (π:=[]) List.nodup_nil ⟨rfl,fun j i h=>by simp at h⟩ ?_ hc h)
     have hz:(fun j=>match([]:List Nat)[j]? with
      |some i=>φ i
      |none=>none)=noPh:=by funext j;simp[noPh]
     rw[hz];exact e4.pure hpur
   ·cases h
  ·exact lift (acallM_ok (D:=CallD P f) (fun _ _ _ _ h hr=>Calls.mono h hr) (he.does f) ((List.reverse_perm _).nodup_iff.2 (close_nodup List.nodup_nil)) e3 e4 h)
end
end Go.Am
