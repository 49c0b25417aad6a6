/- The plain machine's store, and what lies in memory for it. Plain lemmas, no statement of the seat. -/
import Derived.Test.YtnfbeplfnblgjaaGreatDoorZAp
set_option linter.all false
namespace Go.Am
open Go Go.Hb
open Go.Gw (tk tf tz tsl tar tpl isAggD)
def RowR(m:Mem)(φ:Ph)(sz:Nat)(xs:List PV)(vss:List (List Value)):Prop:=
 xs.length=vss.length∧∀(i:Nat) x vs,xs[i]?=some x→vss[i]?=some vs→x.cells.length=sz∧vs.length=sz∧x.cells.all cell=true∧Rl m φ x.cells vs
def LpS.is(s:LpS)(r:Loop):Prop:=match s with
 | .ready=>r.state=.ready∧r.pending=none
 | .busy=>r.state=.busy
 | .done none=>r.state=.done∧r.pending=some .ret
 | .done (some i)=>r.state=.done∧r.pending=some (.exit i)
def dstOk(n:Nat):Option Nat→Bool
 |some d=>Nat.blt d n
 |none=>true
def noDefer:Op→Bool
 | .defer _=>false
 |_=>true
def slots(n:Nat):Code→Bool
 | .seq a b=>slots n a&&slots n b
 | .region _ ops _=>ops.toList.all fun o=>dstOk n o.dst&&noDefer o.op
 | .cond _ a b=>slots n a&&slots n b
 | .block _ c=>slots n c
 | .loop c=>slots n c
 | .rangeFunc _ ps a b=>ps.toList.all (fun t=>Nat.blt t n)&&slots n a&&slots n b
 |_=>true
def SRo(m:Mem)(φ:Ph)(id:Nat):SO→Own→Prop
 | .dead,rs=>rs=[]
 | .box T cs,rs=>∃b vs,φ id=some (.blk b)∧rs=[bx b T vs]∧Rl m φ cs vs∧cs.all cell=true
 | .frz cs,rs=>rs=[]∧∃b vs,φ id=some (.blk b)∧RdN m b 0 vs∧Rl m φ cs vs∧cs.all cell=true
 | .row p e sz xs,rs=>∃a cap vss,φ id=some (.row (.slice a xs.length cap) xs.length sz)∧rs=[.row p (.slice a xs.length cap) e sz xs.length vss.flatten]∧0<sz∧RowR m φ sz xs vss
 | .lp ρ ps a b s,rs=>∃l r,φ id=some (.blk l)∧rs=[.blk l (.loop r)]∧s.is r∧r.params=ps.toArray∧r.assign=a∧r.body=b∧slots r.tmps.size a=true∧slots r.tmps.size b=true∧ps.all (fun t=>Nat.blt t r.tmps.size)=true ∧
  ∀t x,aget ρ t=some x→∃v,r.tmps[t]?=some v∧R m φ x v
 | .mp ks vs,rs=>∃b en clock,φ id=some (.blk b)∧rs=[.blk b (.map en clock)]∧en.toList.map (·.key)=ks∧Rl m φ vs (en.toList.map (·.val))
 | .ch cap q,rs=>∃b us s r,φ id=some (.blk b)∧rs=[.blk b (.chan cap us false s r false)]∧Rl m φ q us.toList
def SR(m:Mem)(φ:Ph):Nat→Sto→Own→Prop
 |_,[],μ=>μ=[]
 |k,o::r,μ=>∃rs μ',μ=rs++μ'∧SRo m φ k o rs∧SR m φ (k+1) r μ'
section
variable{m m':Mem}{φ φ':Ph}
variable{xs:List PV}{sz:Nat}
theorem RowR.mono{vss:List (List Value)}(h:RowR m φ sz xs vss)(hm:Mem.le m m')(hle:Le φ φ'):RowR m' φ' sz xs vss:=
 ⟨h.1,fun i x vs h1 h2=>⟨(h.2 i x vs h1 h2).1,(h.2 i x vs h1 h2).2.1,(h.2 i x vs h1 h2).2.2.1,(h.2 i x vs h1 h2).2.2.2.mono hm hle⟩⟩
theorem RowR.flat:∀{xs:List PV}{vss:List (List Value)},RowR m φ sz xs vss→vss.flatten.length=xs.length*sz
 |[],[],_=>by simp
 |x::xs,vs::vss,h=>by
  have h0:=h.2 0 x vs rfl rfl;have hr:RowR m φ sz xs vss:=⟨by have:=h.1;simpa using this,fun i x vs h1 h2=>h.2 (i+1) x vs (by simpa using h1) (by simpa using h2)⟩
  rw[List.flatten_cons,List.length_append,hr.flat,h0.2.1,List.length_cons,Nat.succ_mul,Nat.add_comm]
 |[],_::_,h=>absurd h.1 (by simp)
 |_::_,[],h=>absurd h.1 (by simp)
theorem RowR.at{sz:Nat}:∀{xs:List PV}{vss:List (List Value)},RowR m φ sz xs vss→∀{i:Nat}{vs:List Value},vss[i]?=some vs→∀(j:Nat),j<sz→vss.flatten[i*sz+j]?=vs[j]?
 |[],[],_,i,vs,h,_,_=>by simp at h
 |x::xs,us::vss,h,i,vs,hv,j,hj=>by
  have h0:=h.2 0 x us rfl rfl;have hr:RowR m φ sz xs vss:=⟨by have:=h.1;simpa using this,fun i x vs h1 h2=>h.2 (i+1) x vs (by simpa using h1) (by simpa using h2)⟩
  cases i with
  |zero=>
   simp at hv;subst hv;rw[List.flatten_cons,Nat.zero_mul,Nat.zero_add,List.getElem?_append_left (by rw[h0.2.1];exact hj)]
  |succ i=>
   have:=hr.at (i:=i) (by simpa using hv) j hj
   rw[←this,List.flatten_cons,List.getElem?_append_right (by rw[h0.2.1,Nat.succ_mul];omega),h0.2.1,Nat.succ_mul]
   congr 1
   omega
 |[],_::_,h,_,_,_,_,_=>absurd h.1 (by simp)
 |_::_,[],h,_,_,_,_,_=>absurd h.1 (by simp)
theorem RowR.append{ys:List PV}{us vs:List (List Value)}(h:RowR m φ sz xs us)(k:RowR m φ sz ys vs):RowR m φ sz (xs++ys) (us++vs):=by
 refine⟨by simp[h.1,k.1],fun i x v h1 h2=>?_⟩
 by_cases hi:i<xs.length
 ·rw[List.getElem?_append_left hi] at h1;rw[List.getElem?_append_left (by have:=h.1;omega)] at h2
  exact h.2 i x v h1 h2
 ·rw[List.getElem?_append_right (by omega)] at h1
  rw[List.getElem?_append_right (by have:=h.1;omega),←h.1] at h2
  exact k.2 _ x v h1 h2
theorem SRo.mono{id:Nat}{o:SO}{rs:Own}(h:SRo m φ id o rs)(hm:Mem.le m m')(hle:Le φ φ')(he:φ' id=φ id):SRo m' φ' id o rs:=by
 cases o with
 |dead=>exact h
 |box T cs=>obtain⟨b,vs,h1,h2,h3,h4⟩:=h;exact⟨b,vs,he.trans h1,h2,h3.mono hm hle,h4⟩
 |frz cs=>obtain⟨h0,b,vs,h1,h2,h3,h4⟩:=h;exact⟨h0,b,vs,he.trans h1,h2.mono hm,h3.mono hm hle,h4⟩
 |row p e sz xs=>obtain⟨a,cap,vss,h1,h2,h3,h4⟩:=h;exact⟨a,cap,vss,he.trans h1,h2,h3,h4.mono hm hle⟩
 |lp ρ ps a b s=>
  obtain⟨l,r,h1,h2,h3,h4,h5,h6,h7,h8,h9,h10⟩:=h;exact⟨l,r,he.trans h1,h2,h3,h4,h5,h6,h7,h8,h9,fun t x ht=>(let⟨v,q1,q2⟩:=h10 t x ht;⟨v,q1,q2.mono hm hle⟩)⟩
 |mp ks vs=>obtain⟨b,en,clock,h1,h2,h3,h4⟩:=h;exact⟨b,en,clock,he.trans h1,h2,h3,h4.mono hm hle⟩
 |ch cap q=>obtain⟨b,us,s,r,h1,h2,h3⟩:=h;exact⟨b,us,s,r,he.trans h1,h2,h3.mono hm hle⟩
theorem SR.mono(hm:Mem.le m m')(hle:Le φ φ'):∀{k:Nat}{st:Sto}{μ:Own},SR m φ k st μ→(∀id,k≤id→id<k+st.length→φ' id=φ id)→SR m' φ' k st μ
 |_,[],_,h,_=>h
 |k,o::r,μ,h,he=>by
  obtain⟨rs,μ',h1,h2,h3⟩:=h;exact⟨rs,μ',h1,h2.mono hm hle (he k (Nat.le_refl k) (by simp)),SR.mono hm hle h3 fun id h4 h5=>he id (by omega) (by simp only[List.length_cons];omega)⟩
theorem SR.get:∀{k:Nat}{st:Sto}{μ:Own}{i:Nat}{o:SO},SR m φ k st μ→st[i]?=some o→∃μ1 rs μ2,μ=μ1++(rs++μ2)∧SRo m φ (k+i) o rs ∧
  ∀{m':Mem}{φ':Ph}{o':SO}{rs':Own},Mem.le m m'→Le φ φ'→(∀id,id≠k+i→φ' id=φ id)→SRo m' φ' (k+i) o' rs'→SR m' φ' k (st.set i o') (μ1++(rs'++μ2))
 |_,[],_,i,o,_,h=>by simp at h
 |k,q::r,μ,i,o,h,hi=>by
  obtain⟨rs,μ',h1,h2,h3⟩:=h;cases i with
  |zero=>
   simp at hi;subst hi;refine⟨[],rs,μ',by simpa using h1,h2,fun{m' φ' o' rs'} hm hle he ho=>?_⟩
   exact⟨rs',μ',rfl,ho,h3.mono hm hle fun id h4 _=>he id (by omega)⟩
  |succ i=>
   obtain⟨μ1,rs2,μ2,h4,h5,h6⟩:=SR.get h3 (show r[i]?=some o by simpa using hi)
   refine⟨rs++μ1,rs2,μ2,by rw[h1,h4];simp,by rw[show k+(i+1)=k+1+i by omega];exact h5,fun{m' φ' o' rs'} hm hle he ho=>?_⟩
   exact⟨rs,μ1++(rs'++μ2),by simp,h2.mono hm hle (he k (by omega)),h6 hm hle (fun id hne=>he id (by omega)) (by rw[show k+1+i=k+(i+1) by omega];exact ho)⟩
theorem SR.snoc:∀{k:Nat}{st:Sto}{μ:Own}{o:SO}{rs:Own},SR m φ k st μ→SRo m φ (k+st.length) o rs→SR m φ k (st++[o]) (μ++rs)
 |k,[],μ,o,rs,h,ho=>by
  have h:μ=[]:=h;subst h;exact⟨rs,[],by simp,ho,rfl⟩
 |k,q::r,μ,o,rs,h,ho=>by
  obtain⟨rs1,μ',h1,h2,h3⟩:=h;exact⟨rs1,μ'++rs,by rw[h1];simp,h2,SR.snoc h3 (by rw[show k+1+r.length=k+(q::r).length by simp;omega];exact ho)⟩
structure Sit (E:Entry) (m:Mem) (φ:Ph) (μ:Own) (st:Sto) (w:World):Prop where
 good:Hb.Good E w m μ
 sto:SR m φ 0 st μ
 dom:∀id,st.length≤id→φ id=none
structure Ext (st st':Sto) (φ φ':Ph):Prop where
 le:Le φ φ'
 len:st.length≤st'.length
 dead:∀id,st[id]?=some .dead→st'[id]?=some .dead∧φ' id=φ id
theorem Ext.refl(st:Sto)(φ:Ph):Ext st st φ φ:=⟨Le.refl φ,Nat.le_refl _,fun _ h=>⟨h,rfl⟩⟩
theorem Ext.trans{st st' st'':Sto}{φ φ' φ'':Ph}(h:Ext st st' φ φ')(k:Ext st' st'' φ' φ''):Ext st st'' φ φ'':=
 ⟨h.le.trans k.le,Nat.le_trans h.len k.len,fun id e=>⟨(k.dead id (h.dead id e).1).1,(k.dead id (h.dead id e).1).2.trans (h.dead id e).2⟩⟩
theorem Good.memW{E:Entry}{w:World}{μ:Own}(h:Hb.Good E w m μ):MemW m w:=fun _ _ _ e=>h.cell e
end
section
variable{P:Program}{E:Entry}{m:Mem}{φ:Ph}{μ:Own}{st:Sto}{ρ:AEnv}{a:Act}{w:World}{dst:Option Nat}{ty:TypeId}{pos:String}{after:Array Edge}{gd:Option (Nat×Bool)}
variable{ok:Bool}{b id:Nat}{u x:PV}{d:TypeDesc}{T e kt:TypeId}{k v:Value}
theorem loadS_run{ag:Bool}{k:Nat}{p:PV}(hs:Sit E m φ μ st w)(ht:tk P T=some (ag,k))(h:loadS st ag k p=some u)(hp:R m φ p v):∃b off r,v=.pointer (some ⟨b,off,none⟩)∧(loadVar T ⟨b,off,none⟩).run P w=.ok r w∧R m φ u r:=by
 unfold loadS at h;split at h
 ·rename_i id off;cases hp with
  | @bp _ _ _ b hφ=>
   split at h
   ·rename_i T' cs ho;obtain⟨μ1,rs,μ2,h1,h2,_⟩:=hs.sto.get ho;obtain⟨b',vs,h3,h4,h5,h6⟩:=h2;rw[Nat.zero_add,hφ] at h3;cases h3;obtain⟨r,h7,h8⟩:=loadP_R h h5 h6;have hb:w.heap[b]?=some (.cells vs.toArray T' (0,0)):=hs.good.own (r:=bx b T' vs) (by rw[h1,h4];simp)
    exact⟨b,off,r,rfl,Gw.run_loadVar_cells (w:=w) (b:=b) ht (fun j u hu=>Gw.cell_of_cells hb hu) h7,h8⟩
   ·rename_i cs ho;obtain⟨μ1,rs,μ2,h1,h2,_⟩:=hs.sto.get ho;obtain⟨_,b',vs,h3,h4,h5,h6⟩:=h2;rw[Nat.zero_add,hφ] at h3;cases h3;obtain⟨r,h7,h8⟩:=loadP_R h h5 h6;exact⟨b,off,r,rfl,Gw.run_loadVar_cells (w:=w) (b:=b) ht (fun j u hu=>by
     have:=hs.good.cell (h4 j u hu)
     rwa [Nat.zero_add] at this) h7,h8⟩
   ·cases h
 ·rename_i id len i off;cases hp with
  | @rp _ _ _ _ _ n sz sv v hφ hle hv hpp=>
   split at h
   ·rename_i p' e sz0 xs ho;obtain⟨μ1,rs,μ2,h1,h2,_⟩:=hs.sto.get ho;obtain⟨ad,cap,vss,h3,h4,hsz,h5⟩:=h2;rw[Nat.zero_add,hφ] at h3;cases h3;split at h
    ·rename_i x hlen hx;obtain⟨b,cap',e1,rfl⟩:=hv (Nat.eq_of_beq_eq_true hlen);cases e1;obtain⟨vs,hvs⟩:∃vs,vss[i]?=some vs:=⟨_,List.getElem?_eq_getElem (by have:=h5.1;have:=(List.getElem?_eq_some_iff.1 hx).1;omega)⟩
     obtain⟨q1,q2,q3,q4⟩:=h5.2 i x vs hx hvs;obtain⟨r,h7,h8⟩:=loadP_R h q4 q3;have hown:rowM w e sz (.slice (some ⟨b,0,none⟩) xs.length cap) xs.length vss.flatten:=hs.good.own (r:=.row p' (.slice (some ⟨b,0,none⟩) xs.length cap) e sz xs.length vss.flatten) (by rw[h1,h4];simp)
     have hcells:=hown.cells (g:=b) rfl;have hc:∀(j:Nat) u,vs[j]?=some u→w.cell? ⟨b,i*sz+j,none⟩=some u:=fun j u hu=>by
      have hj:j<sz:=by have:=(List.getElem?_eq_some_iff.1 hu).1;omega
      have:=hcells (i*sz+j) u (by rw[h5.at hvs j hj];exact hu)
      rwa [Addr.add_lit,Nat.zero_add] at this
     refine⟨b,i*sz+off,r,rfl,?_,h8⟩;have hd:Gw.loadV ag (vs.drop off) 0 k=some r:=by
      unfold Gw.loadV at h7⊢;cases ag with
      |true=>
       simp only at h7⊢;split at h7
       ·rename_i hle';have hle'':=Nat.le_of_ble_eq_true hle';have:Nat.ble (0+k) (vs.drop off).length=true:=Nat.ble_eq_true_of_le (by simp;omega)
        rw[this];simpa[Gw.cut] using h7
       ·cases h7
      |false=>simpa using h7
     exact run_loadVar (w:=w) ht (fun j u hu=>by
      rw[List.getElem?_drop] at hu;have:=hc _ u hu
      rwa [←Nat.add_assoc] at this) hd
    ·cases h
   ·cases h
 ·cases h
theorem mapT_R(h:mapT P T=some (d,e)):∃kt,P.underlying T=some (.map kt e)∧P.underlying kt=some d∧((∃q,d=.int q)∨d=.string):=by
 unfold mapT at h;split at h
 ·rename_i k e' hT;split at h
  ·rename_i q hk;cases h;exact⟨k,hT,hk,.inl ⟨q,rfl⟩⟩
  ·rename_i hk;cases h;exact⟨k,hT,hk,.inr rfl⟩
  ·cases h
 ·cases h
theorem findK_none{d:TypeDesc}{k:Value}:∀{l:List MapEntry}{i:Nat},findK d k (l.map (·.key)) i=some none→Instr.findNow d k l i=some none
 |[],i,h=>rfl
 |x::r,i,h=>by
  simp only[List.map_cons,findK] at h;simp only[Instr.findNow];split at h
  ·cases h
  ·rename_i hh;rw[hh];exact findK_none h
  ·cases h
theorem findK_some{d:TypeDesc}{k:Value}:∀{l:List MapEntry}{i j:Nat},findK d k (l.map (·.key)) i=some (some j)→∃e,l[j-i]?=some e∧i≤j∧Instr.findNow d k l i=some (some (j,e.val))∧Instr.sameNow d k e.key=some true
 |[],i,j,h=>by simp[findK] at h
 |x::r,i,j,h=>by
  simp only[List.map_cons,findK] at h;simp only[Instr.findNow];split at h
  ·rename_i hh;cases h;exact⟨x,by simp,Nat.le_refl _,by rw[hh],hh⟩
  ·rename_i hh;obtain⟨e,h1,h2,h3,h4⟩:=findK_some h;refine⟨e,?_,by omega,by rw[hh];exact h3,h4⟩
   rw[show j-i=(j-(i+1))+1 by omega]
   simpa using h1
  ·cases h
theorem bytes_beq'(a b:ByteArray):(a == b)=true↔a=b:=by
 obtain⟨x⟩:=a;obtain⟨y⟩:=b;constructor
 ·intro h;have e:x=y:=by simpa using(show(x == y)=true from h)
  rw[e]
 ·intro h;cases h;show(x == x)=true
  simp
theorem sameNow_eq{x:Value}(h:Instr.sameNow d k x=some true):x=k∧Instr.sameBits 10000 x k=true:=by
 unfold Instr.sameNow at h;split at h
 ·split at h
  ·rename_i hk;subst hk;simp only[Option.some.injEq,beq_iff_eq] at h;subst h;exact⟨rfl,by simp[Instr.sameBits]⟩
  ·cases h
 ·simp only[Option.some.injEq] at h;have h1:=(bytes_beq' _ _).1 h;subst h1;exact⟨rfl,by simpa[Instr.sameBits] using h⟩
 ·simp only[Option.some.injEq,beq_iff_eq] at h;subst h;exact⟨rfl,by simp[Instr.sameBits]⟩
 ·cases h
theorem checkKey_plain(hk:P.underlying kt=some d)(hd:(∃q,d=.int q)∨d=.string)(em:Bool)(k:Value):(Instr.checkKey em 10000 kt k).run P w=.ok () w:=by
 show(Instr.checkKey em (9999+1) kt k).run P w=.ok () w
 unfold Instr.checkKey;simp only[Sem.run_bind,run_underlying hk,Result.andThen_ok];rcases hd with⟨q,rfl⟩|rfl<;>cases k<;>simp[Sem.run_pure]
theorem findKey_plain{l:List MapEntry}{r:Option (Nat×Value)}(hk:P.underlying kt=some d)(h:Instr.findNow d k l 0=some r):(Instr.findKey kt k l).run P w=.ok r w:=by
 simp[Instr.findKey,run_underlying hk,h]
theorem getObj_plain{o:Obj}(h:w.heap[b]?=some o)(hc:∀c t f,o≠.cells c t f):(getObj b).run P w=.ok o w:=by
 simp only[getObj,Sem.run,h];try(cases o<;>simp_all[Sem.run])
theorem zeroE_R{z:PV}(h:zeroE P e=some z):∃v,(zeroValue e).run P w=.ok v w∧R m φ z v:=by
 unfold zeroE at h;cases hz:tz P e with
 |none=>simp[hz] at h
 |some v=>
  simp only[hz,Option.bind_some] at h;refine⟨v,?_,ofVal_R h⟩;cases hi:P.info? e with
  |none=>simp[tz,hi] at hz
  |some i=>
   simp[tz,hi] at hz;simp[zeroValue,typeInfo,hi,hz]
theorem okV_R{b:Bool}(h:R m φ x v):R m φ (okV ok x b) (if ok then .tuple #[v,.bool b] else v):=by
 cases ok with
 |false=>exact h
 |true=>
  refine .tu (vs:=[v,.bool b]) rfl fun i c u h1 h2=>?_
  match i with
  |0=>simp at h1 h2;subst h1;subst h2;exact h
  |1=>simp at h1 h2;subst h1;subst h2;exact .sc rfl
  |i+2=>simp at h1
theorem objAt{ks:List Value}{vs:List PV}(hs:Sit E m φ μ st w)(ho:st[id]?=some (.mp ks vs))(hφ:φ id=some (.blk b)):∃en clock,w.heap[b]?=some (.map en clock)∧en.toList.map (·.key)=ks∧Rl m φ vs (en.toList.map (·.val)):=by
 obtain⟨μ1,rs,μ2,h1,h2,_⟩:=hs.sto.get ho;obtain⟨b',en,clock,h3,h4,h5,h6⟩:=h2;rw[Nat.zero_add,hφ] at h3;cases h3;exact⟨en,clock,hs.good.own (r:=.blk b (.map en clock)) (by rw[h1,h4];simp),h5,h6⟩
theorem chanAt{cap:Nat}{q:List PV}(hs:Sit E m φ μ st w)(ho:st[id]?=some (.ch cap q))(hφ:φ id=some (.blk b)):∃us s r,w.heap[b]?=some (.chan cap us false s r false)∧Rl m φ q us.toList:=by
 obtain⟨μ1,rs,μ2,h1,h2,_⟩:=hs.sto.get ho;obtain⟨b',us,s,r,h3,h4,h5⟩:=h2;rw[Nat.zero_add,hφ] at h3;cases h3;exact⟨us,s,r,hs.good.own (r:=.blk b (.chan cap us false s r false)) (by rw[h1,h4];simp),h5⟩
theorem objLen_run(hs:Sit E m φ μ st w)(h:objLen P st T x=some u)(hr:R m φ x v):∃n:Nat,u=.sc (.int .i64 n)∧(Builtin.len_ #[T] ty #[v]).run P w=.ok (.int .i64 n) w:=by
 unfold objLen at h;split at h
 ·rename_i id;split at h
  ·rename_i k e ks vs hT ho;cases h;cases hr with
   | @mr _ _ b hφ=>
    obtain⟨en,clock,hb,h5,_⟩:=objAt hs ho hφ;refine⟨_,rfl,?_⟩;have hl:ks.length=en.size:=by rw[←h5];simp
    simp[Builtin.len_,run_underlying hT,getObj_plain hb,goInt,hl]
  ·cases h
 ·rename_i id;split at h
  ·rename_i d e cap q hT ho;cases h;cases hr with
   | @cr _ _ b hφ=>
    obtain⟨us,s,r,hb,h5⟩:=chanAt hs ho hφ;refine⟨_,rfl,?_⟩;have hl:q.length=us.size:=by rw[h5.1];simp
    simp[Builtin.len_,run_underlying hT,getObj_plain hb,goInt,hl]
  ·cases h
 ·cases h
theorem mapGet_run{i:PV}{xv iv:Value}(hs:Sit E m φ μ st w)(h:mapGet P st T ok x i=some u)(hx:R m φ x xv)(hi:R m φ i iv):∃v,(Instr.lookup T xv iv ok).run P w=.ok v w∧R m φ u v:=by
 unfold mapGet at h;split at h
 ·rename_i d e id k hmt;obtain⟨kt,hT,hkt,hd⟩:=mapT_R hmt;have hk:=hi.sc_eq;subst hk;split at h
  ·rename_i ks vs ho;cases hx with
   | @mr _ _ b hφ=>
    obtain⟨en,clock,hb,h5,h6⟩:=objAt hs ho hφ;subst h5;split at h
    ·rename_i j hj;obtain⟨e0,q1,q2,q3,q4⟩:=findK_some hj;simp only[Nat.sub_zero] at q1;cases hv:vs[j]? with
     |none=>simp[hv] at h
     |some y=>
      simp only[hv,Option.map_some,Option.some.injEq] at h;subst h;have hy:=h6.2 j y e0.val hv (by rw[List.getElem?_map,q1];rfl)
      refine⟨_,?_,okV_R hy⟩;simp[Instr.lookup,run_underlying hT,getObj_plain hb,checkKey_plain hkt hd,findKey_plain hkt q3]
    ·rename_i hj;cases hz:zeroE P e with
     |none=>simp[hz] at h
     |some z=>
      simp only[hz,Option.map_some,Option.some.injEq] at h;subst h;obtain⟨v,hv1,hv2⟩:=zeroE_R (m:=m) (φ:=φ) (w:=w) hz;refine⟨_,?_,okV_R hv2⟩;simp[Instr.lookup,run_underlying hT,getObj_plain hb,checkKey_plain hkt hd,findKey_plain hkt (findK_none hj),hv1]
    ·cases h
  ·cases h
 ·cases h
theorem does_K{op:Op}(hs:Sit E m φ μ st w)(h:EnvR m φ ρ a)(hx:aK P ρ st op=some u):Does P w a m φ ⟨dst,op,ty,pos,after,gd⟩ u:=by
 unfold aK at hx;split at hx
 ·rename_i T x i;split at hx
  ·rename_i e z p pi ht hp hpi;split at hx
   ·rename_i q hq;obtain⟨k,ek⟩:=nat_int hq (aval_R h hpi);unfold rowIdx at hx;split at hx
    ·rename_i id len;split at hx
     ·rename_i p' e' sz xs ho;split at hx
      ·rename_i hb;cases hx;simp only[Bool.and_eq_true] at hb;have hlen:=Nat.eq_of_beq_eq_true hb.1.1;have hlt:q<len:=by simpa[Nat.blt_eq] using hb.1.2
       obtain rfl:=Nat.eq_of_beq_eq_true hb.2;have hr:=aval_R h hp;generalize he:a.eval x=ev at hr;cases hr with
       | @ms _ _ _ n sz sv v hφ hle hv hsl=>
        obtain⟨μ1,rs,μ2,h1,h2,_⟩:=hs.sto.get ho;obtain⟨ad,cap,vss,h3,h4,hsz,h5⟩:=h2;rw[Nat.zero_add,hφ] at h3;cases h3;obtain rfl:=hv hlen;have hown:rowM w e' z (.slice ad xs.length cap) xs.length vss.flatten:=hs.good.own (r:=.row p' (.slice ad xs.length cap) e' z xs.length vss.flatten) (by rw[h1,h4];simp)
        obtain⟨b,rfl⟩:∃b,ad=some ⟨b,0,none⟩:=by
         rcases hown.2 with⟨_,h0⟩|⟨g,cap',cur,fz,hv',_⟩
         ·omega
         ·cases hv';exact⟨g,rfl⟩
        refine⟨.pointer (some ⟨b,q*z+0,none⟩),?_,.rp hφ hle (fun _=>⟨b,cap,rfl,rfl⟩) ⟨_,_,rfl⟩⟩
        unfold tsl at ht;split at ht
        ·rename_i e'' hee;cases hii:P.info? e'' with
         |none=>simp[hii] at ht
         |some ii=>
          simp[hii] at ht;obtain⟨rfl,rfl⟩:=ht;have hlt':q<xs.length:=by omega
          simp[execOp,Instr.indexAt,he,ek,asIntOf,run_underlying hee,hlt',sizeOf,typeInfo,hii,Addr.add_lit]
        ·cases ht
      ·cases hx
     ·cases hx
    ·cases hx
   ·cases hx
  ·cases hx
 ·rename_i T x;split at hx
  ·rename_i ag k p ht hp;obtain⟨b,off,r,e,h1,h2⟩:=loadS_run hs ht hx (aval_R h hp);exact⟨r,by simp[execOp,Instr.loadAt,e,Instr.sureAddr,h1],h2⟩
  ·cases hx
 ·rename_i xs ts;split at hx
  ·rename_i x T hxs hts;obtain rfl:xs = #[x]:=by apply Array.ext';simpa using hxs
   obtain rfl:ts = #[T]:=by apply Array.ext';simpa using hts
   split at hx
   ·rename_i e v ht hv;unfold rowLen at hx;split at hx
    ·rename_i id len;split at hx
     ·rename_i p' e' sz xs ho;split at hx
      ·rename_i hlen;cases hx;have hr:=aval_R h hv;generalize he:a.eval x=ev at hr;cases hr with
       | @ms _ _ _ n sz sv v hφ hle hvv hsl=>
        obtain⟨μ1,rs,μ2,h1,h2,_⟩:=hs.sto.get ho;obtain⟨ad,cap,vss,h3,h4,hsz,h5⟩:=h2;rw[Nat.zero_add,hφ] at h3;cases h3;obtain rfl:=Nat.eq_of_beq_eq_true hlen;obtain rfl:=hvv rfl;refine⟨_,?_,.sc rfl⟩;unfold tsl at ht;split at ht
        ·rename_i e'' hee;simp[execOp,resolve,invoke,builtin,Builtin.len_,he,run_underlying hee,goInt]
        ·cases ht
      ·cases hx
     ·cases hx
    ·cases hx
   ·rename_i v ht hv;obtain⟨n,rfl,hrun⟩:=objLen_run (ty:=ty) hs hx (aval_R h hv);exact⟨_,by simp[execOp,resolve,invoke,builtin,hrun],.sc rfl⟩
   ·cases hx
  ·cases hx
 ·rename_i xs ts;split at hx
  ·rename_i x hxs;obtain rfl:xs = #[x]:=by apply Array.ext';simpa using hxs
   split at hx
   ·rename_i id len hv;have hr:=aval_R h hv;generalize he:a.eval x=ev at hr;split at hx
    ·rename_i p e sz xs ho;split at hx
     ·rename_i hb;rw[Bool.and_eq_true] at hb;have hpos:0<len:=by simpa[Nat.blt_eq] using hb.2
      have hlen:=Nat.eq_of_beq_eq_true hb.1;cases hx;cases hr with
      | @ms _ _ _ n sz' sv v hφ hle hvv hsl=>
       obtain⟨μ1,rs,μ2,h1,h2,_⟩:=hs.sto.get ho;obtain⟨ad,cap,vss,h3,h4,hsz,h5⟩:=h2;rw[Nat.zero_add,hφ] at h3;cases h3;obtain rfl:=hvv hlen;have hown:rowM w e sz (.slice ad xs.length cap) xs.length vss.flatten:=hs.good.own (r:=.row p (.slice ad xs.length cap) e sz xs.length vss.flatten) (by rw[h1,h4];simp)
       obtain⟨b,rfl,hcap⟩:∃b,ad=some ⟨b,0,none⟩∧xs.length≤cap:=by
        rcases hown.2 with⟨_,h0⟩|⟨g,cap',cur,fz,hv',_,_,hc,_⟩
        ·omega
        ·cases hv';exact⟨g,rfl,hc⟩
       refine⟨.pointer (some ⟨b,0,none⟩),?_,.rp hφ hle (fun _=>⟨b,cap,rfl,by rw[Nat.zero_mul]⟩) ⟨_,_,rfl⟩⟩
       simp[execOp,resolve,invoke,builtin,he,Lib.run_unsafeSliceData_row _ _ _ _ xs.length cap (by omega)]
     ·cases hx
    ·cases hx
   ·cases hx
  ·cases hx
 ·rename_i T x i ok;split at hx
  ·rename_i px pi hxx hii;obtain⟨v,h1,h2⟩:=mapGet_run hs hx (aval_R h hxx) (aval_R h hii);exact⟨v,by simp[execOp,h1],h2⟩
  ·cases hx
 ·rename_i s d x;split at hx
  ·rename_i id len hv;have hr:=aval_R h hv;generalize he:a.eval x=ev at hr;split at hx
   ·rename_i p e sz xs ho;split at hx
    ·rename_i hlen;cases hr with
     | @ms _ _ _ n sz' sv v hφ hle hvv hsl=>
      obtain⟨μ1,rs,μ2,h1,h2,_⟩:=hs.sto.get ho;obtain⟨ad,cap,vss,h3,h4,hsz,h5⟩:=h2;rw[Nat.zero_add,hφ] at h3;cases h3;obtain rfl:=hvv (Nat.eq_of_beq_eq_true hlen);have hown:rowM w e sz (.slice ad xs.length cap) xs.length vss.flatten:=hs.good.own (r:=.row p (.slice ad xs.length cap) e sz xs.length vss.flatten) (by rw[h1,h4];simp)
      obtain⟨b',h6,rfl⟩:=strB_run (w:=w) (ad:=ad) (cap:=cap) hx fun hne=>by
       obtain⟨b,rfl⟩:∃b,ad=some ⟨b,0,none⟩:=by
        rcases hown.2 with⟨_,h0⟩|⟨g,cap',cur,fz,hv',_⟩
        ·exact absurd (List.eq_nil_of_length_eq_zero h0) hne
        ·cases hv';exact⟨g,rfl⟩
       refine⟨b,0,rfl,fun i c hxi=>?_⟩
       have hi:=(List.getElem?_eq_some_iff.1 hxi).1;obtain⟨vs,hvs⟩:∃vs,vss[i]?=some vs:=⟨_,List.getElem?_eq_getElem (by have:=h5.1;omega)⟩
       obtain⟨q1,q2,q3,q4⟩:=h5.2 i _ vs hxi hvs;have hs1:sz=1:=by simpa[PV.cells] using q1.symm
       subst hs1;obtain⟨u,hu⟩:∃u,vs[0]?=some u:=⟨_,List.getElem?_eq_getElem (by omega)⟩
       have hue:=(q4.2 0 _ u rfl hu).sc_eq;subst hue;have:=hown.cells (g:=b) rfl i _ (by have:=h5.at hvs 0 (by omega);rw[Nat.mul_one,Nat.add_zero] at this;rw[this];exact hu)
       rwa [Addr.add_lit] at this
      exact⟨_,by simp[execOp,he,h6],.sc rfl⟩
    ·cases hx
   ·cases hx
  ·cases hx
 ·cases hx
end
end Go.Am
