/- The plain machine's store, and what lies in memory for it. Plain lemmas, no statement of the seat. -/
import Derived.Test.YtbnodhcijeaceaaGreatDoorXAp
import Derived.Conc.SmallLaws
set_option linter.all false
namespace Go.Am
open Go Go.Hb
open Go.Gw (tk tf tz tsl tar tpl isAggD)
def RowR(m:Mem)(φ:Ph)(sz:Nat)(xs:List PV)(vss:List (List Value)):Prop:=
 xs.length=vss.length∧∀(i:Nat) x vs,xs[i]?=some x→vss[i]?=some vs→x.cells.length=sz∧vs.length=sz∧x.cells.all cell=true∧Rl m φ x.cells vs
def LpS.is(s:LpS)(r:Loop):Prop:=match s with
 | .ready=>r.state=.ready∧r.pending=none
 | .busy=>r.state=.busy
 | .done none=>r.state=.done∧r.pending=some .ret
 | .done (some i)=>r.state=.done∧r.pending=some (.exit i)
def jaw(n:Nat):Option Nat→Bool
 |some d=>Nat.blt d n
 |none=>true
def j4L:Op→Bool
 | .defer _=>false
 |_=>true
def slots(n:Nat):Code→Bool
 | .seq a b=>slots n a&&slots n b
 | .region _ ops _=>ops.toList.all fun o=>jaw n o.dst&&j4L o.op
 | .cond _ a b=>slots n a&&slots n b
 | .block _ c=>slots n c
 | .loop c=>slots n c
 | .rangeFunc _ ps a b=>ps.toList.all (fun t=>Nat.blt t n)&&slots n a&&slots n b
 |_=>true
def SRo(m:Mem)(φ:Ph)(id:Nat):SO→Own→Prop
 | .dead,rs=>rs=[]
 | .box T cs,rs=>∃b vs,φ id=some (.blk b)∧rs=[bx b T vs]∧Rl m φ cs vs∧cs.all cell=true
 | .frz cs,rs=>rs=[]∧∃b vs,φ id=some (.blk b)∧RdN m b 0 vs∧Rl m φ cs vs∧cs.all cell=true
 | .row p e sz xs,rs=>∃a cap vss,φ id=some (.row (.slice a xs.length cap) xs.length sz)∧rs=[.row p (.slice a xs.length cap) e sz xs.length vss.flatten]∧0<sz∧RowR m φ sz xs vss
 | .lp ρ ps a b s,rs=>∃l r,φ id=some (.blk l)∧rs=[.blk l (.loop r)]∧s.is r∧r.params=ps.toArray∧r.assign=a∧r.body=b∧slots r.tmps.size a=true∧slots r.tmps.size b=true∧ps.all (fun t=>Nat.blt t r.tmps.size)=true ∧
  ∀t x,aget ρ t=some x→∃v,r.tmps[t]?=some v∧R m φ x v
 | .mp ks vs,rs=>∃b en clock,φ id=some (.blk b)∧rs=[.blk b (.map en clock)]∧en.toList.map (·.key)=ks∧Rl m φ vs (en.toList.map (·.val))
 | .ch cap q,rs=>∃b us s r,φ id=some (.blk b)∧rs=[.blk b (.chan cap us false s r false)]∧Rl m φ q us.toList
def SR(m:Mem)(φ:Ph):Nat→Sto→Own→Prop
 |_,[],μ=>μ=[]
 |k,o::r,μ=>∃rs μ',μ=rs++μ'∧SRo m φ k o rs∧SR m φ (k+1) r μ'
section
variable{m m':Mem}{φ φ':Ph}
variable{xs:List PV}{sz:Nat}
def RowR.mono{vss:List (List Value)}(h:RowR m φ sz xs vss)(hm:Mem.le m m')(hA:Le φ φ'):RowR m' φ' sz xs vss:=
 ⟨h.1,fun i x vs h1 h2=>⟨(h.2 i x vs h1 h2).1,(h.2 i x vs h1 h2).2.1,(h.2 i x vs h1 h2).2.2.1,(h.2 i x vs h1 h2).2.2.2.mono hm hA⟩⟩
def RowR.flat:∀{xs:List PV}{vss:List (List Value)},RowR m φ sz xs vss→vss.flatten.length=xs.length*sz
 |[],[],_=>by simp
 |x::xs,vs::vss,h=>by
  have h0:=h.2 0 x vs rfl rfl;have hr:RowR m φ sz xs vss:=⟨by have:=h.1;simpa using this,fun i x vs h1 h2=>h.2 (i+1) x vs (by simpa using h1) (by simpa using h2)⟩
  rw[CC,AL,hr.flat,h0.2.1,AC,DA,Nat.add_comm]
 |[],_::_,h=>absurd h.1 (by simp)
 |_::_,[],h=>absurd h.1 (by simp)
def RowR.at{sz:Nat}:∀{xs:List PV}{vss:List (List Value)},RowR m φ sz xs vss→∀{i:Nat}{vs:List Value},vss[i]?=some vs→∀(j:Nat),j<sz→vss.flatten[i*sz+j]?=vs[j]?
 |[],[],_,i,vs,h,_,_=>by simp at h
 |x::xs,us::vss,h,i,vs,hv,j,hj=>by
  have h0:=h.2 0 x us rfl rfl;have hr:RowR m φ sz xs vss:=⟨by have:=h.1;simpa using this,fun i x vs h1 h2=>h.2 (i+1) x vs (by simpa using h1) (by simpa using h2)⟩
  cases i with
  |zero=>
   simp at hv;subst hv;rw[CC,GY,AP,AW (by rw[h0.2.1];exact hj)]
  |succ i=>
   have:=hr.at (i:=i) (by simpa using hv) j hj
   rw[←this,CC,BK (by rw[h0.2.1,DA];omega),h0.2.1,DA]
   congr 1
   omega
 |[],_::_,h,_,_,_,_,_=>absurd h.1 (by simp)
 |_::_,[],h,_,_,_,_,_=>absurd h.1 (by simp)
def RowR.append{ys:List PV}{us vs:List (List Value)}(h:RowR m φ sz xs us)(k:RowR m φ sz ys vs):RowR m φ sz (xs++ys) (us++vs):=by
 refine⟨by simp[h.1,k.1],fun i x v h1 h2=>?_⟩
 by_cases hi:i<xs.length
 ·rw[AW hi] at h1;rw[AW (by have:=h.1;omega)] at h2
  exact h.2 i x v h1 h2
 ·rw[BK (by omega)] at h1
  rw[BK (by have:=h.1;omega),←h.1] at h2
  exact k.2 _ x v h1 h2
theorem SRo.mono{id:Nat}{o:SO}{rs:Own}(h:SRo m φ id o rs)(hm:Mem.le m m')(hA:Le φ φ')(he:φ' id=φ id):SRo m' φ' id o rs:=by
 cases o with
 |dead=>exact h
 |box T cs=>obtain⟨b,vs,h1,h2,h3,h4⟩:=h;exact⟨b,vs,he.trans h1,h2,h3.mono hm hA,h4⟩
 |frz cs=>obtain⟨h0,b,vs,h1,h2,h3,h4⟩:=h;exact⟨h0,b,vs,he.trans h1,h2.mono hm,h3.mono hm hA,h4⟩
 |row p e sz xs=>obtain⟨a,cap,vss,h1,h2,h3,h4⟩:=h;exact⟨a,cap,vss,he.trans h1,h2,h3,h4.mono hm hA⟩
 |lp ρ ps a b s=>
  obtain⟨l,r,h1,h2,h3,h4,h5,h6,h7,h8,h9,qA⟩:=h;exact⟨l,r,he.trans h1,h2,h3,h4,h5,h6,h7,h8,h9,fun t x ht=>(let⟨v,q1,q2⟩:=qA t x ht;⟨v,q1,q2.mono hm hA⟩)⟩
 |mp ks vs=>obtain⟨b,en,clock,h1,h2,h3,h4⟩:=h;exact⟨b,en,clock,he.trans h1,h2,h3,h4.mono hm hA⟩
 |ch cap q=>obtain⟨b,us,s,r,h1,h2,h3⟩:=h;exact⟨b,us,s,r,he.trans h1,h2,h3.mono hm hA⟩
theorem SR.mono(hm:Mem.le m m')(hA:Le φ φ'):∀{k:Nat}{st:Sto}{μ:Own},SR m φ k st μ→(∀id,k≤id→id<k+st.length→φ' id=φ id)→SR m' φ' k st μ
 |_,[],_,h,_=>h
 |k,o::r,μ,h,he=>by
  obtain⟨rs,μ',h1,h2,h3⟩:=h;exact⟨rs,μ',h1,h2.mono hm hA (he k (AU k) (by simp)),SR.mono hm hA h3 fun id h4 h5=>he id (by omega) (by simp only[AC];omega)⟩
theorem SR.get:∀{k:Nat}{st:Sto}{μ:Own}{i:Nat}{o:SO},SR m φ k st μ→st[i]?=some o→∃μ1 rs μ2,μ=μ1++(rs++μ2)∧SRo m φ (k+i) o rs ∧
  ∀{m':Mem}{φ':Ph}{o':SO}{rs':Own},Mem.le m m'→Le φ φ'→(∀id,id≠k+i→φ' id=φ id)→SRo m' φ' (k+i) o' rs'→SR m' φ' k (st.set i o') (μ1++(rs'++μ2))
 |_,[],_,i,o,_,h=>by simp at h
 |k,q::r,μ,i,o,h,hi=>by
  obtain⟨rs,μ',h1,h2,h3⟩:=h;cases i with
  |zero=>
   simp at hi;subst hi;refine⟨[],rs,μ',by simpa using h1,h2,fun{m' φ' o' rs'} hm hA he ho=>?_⟩
   exact⟨rs',μ',rfl,ho,h3.mono hm hA fun id h4 _=>he id (by omega)⟩
  |succ i=>
   obtain⟨μ1,rs2,μ2,h4,h5,h6⟩:=SR.get h3 (show r[i]?=some o by simpa using hi)
   refine⟨rs++μ1,rs2,μ2,by rw[h1,h4];simp,by rw[show k+(i+1)=k+1+i by omega];exact h5,fun{m' φ' o' rs'} hm hA he ho=>?_⟩
   exact⟨rs,μ1++(rs'++μ2),by simp,h2.mono hm hA (he k (by omega)),h6 hm hA (fun id qA=>he id (by omega)) (by rw[show k+1+i=k+(i+1) by omega];exact ho)⟩
def SR.snoc:∀{k:Nat}{st:Sto}{μ:Own}{o:SO}{rs:Own},SR m φ k st μ→SRo m φ (k+st.length) o rs→SR m φ k (st++[o]) (μ++rs)
 |k,[],μ,o,rs,h,ho=>by
  have h:μ=[]:=h;subst h;exact⟨rs,[],by simp,ho,rfl⟩
 |k,q::r,μ,o,rs,h,ho=>by
  obtain⟨rs1,μ',h1,h2,h3⟩:=h;exact⟨rs1,μ'++rs,by rw[h1];simp,h2,SR.snoc h3 (by rw[show k+1+r.length=k+(q::r).length by simp;omega];exact ho)⟩
structure Sit (E:Entry) (m:Mem) (φ:Ph) (μ:Own) (st:Sto) (w:World):Prop where
 good:Hb.Good E w m μ
 sto:SR m φ 0 st μ
 dom:∀id,st.length≤id→φ id=none
structure Ext (st st':Sto) (φ φ':Ph):Prop where
 le:Le φ φ'
 len:st.length≤st'.length
 dead:∀id,st[id]?=some .dead→st'[id]?=some .dead∧φ' id=φ id
def Ext.refl(st:Sto)(φ:Ph):Ext st st φ φ:=⟨Le.refl φ,AU _,fun _ h=>⟨h,rfl⟩⟩
theorem Ext.trans{st st' st'':Sto}{φ φ' φ'':Ph}(h:Ext st st' φ φ')(k:Ext st' st'' φ' φ''):Ext st st'' φ φ'':=
 ⟨h.le.trans k.le,BL h.len k.len,fun id e=>⟨(k.dead id (h.dead id e).1).1,(k.dead id (h.dead id e).1).2.trans (h.dead id e).2⟩⟩
theorem Good.memW{E:Entry}{w:World}{μ:Own}(h:Hb.Good E w m μ):MemW m w:=fun _ _ _ e=>h.cell e
end
section
variable{P:Program}{E:Entry}{m:Mem}{φ:Ph}{μ:Own}{st:Sto}{ρ:AEnv}{a:Act}{w:World}{dst:Option Nat}{ty:TypeId}{pos:String}{after:Array Edge}{gd:Option (Nat×Bool)}
variable{ok:Bool}{b id:Nat}{u x:PV}{d:TypeDesc}{T e kt:TypeId}{k v:Value}
theorem jgG{ag:Bool}{k:Nat}{p:PV}(hs:Sit E m φ μ st w)(ht:tk P T=some (ag,k))(h:jgF st ag k p=some u)(hp:R m φ p v):∃b off r,v=.pointer (some ⟨b,off,none⟩)∧(loadVar T ⟨b,off,none⟩).run P w=.ok r w∧R m φ u r:=by
 unfold jgF at h;split at h
 ·rename_i id off;cases hp with
  | @bp _ _ _ b hφ=>
   split at h
   ·rename_i T' cs ho;obtain⟨μ1,rs,μ2,h1,h2,_⟩:=hs.sto.get ho;obtain⟨b',vs,h3,h4,h5,h6⟩:=h2;rw[AP,hφ] at h3;cases h3;obtain⟨r,h7,h8⟩:=j7Z h h5 h6;have hb:w.heap[b]?=some (.cells vs.toArray T' (0,0)):=hs.good.own (r:=bx b T' vs) (by rw[h1,h4];simp)
    exact⟨b,off,r,rfl,Gw.run_loadVar_cells (w:=w) (b:=b) ht (fun j u hu=>Gw.cell_of_cells hb hu) h7,h8⟩
   ·rename_i cs ho;obtain⟨μ1,rs,μ2,h1,h2,_⟩:=hs.sto.get ho;obtain⟨_,b',vs,h3,h4,h5,h6⟩:=h2;rw[AP,hφ] at h3;cases h3;obtain⟨r,h7,h8⟩:=j7Z h h5 h6;exact⟨b,off,r,rfl,Gw.run_loadVar_cells (w:=w) (b:=b) ht (fun j u hu=>by
     have:=hs.good.cell (h4 j u hu)
     rwa [AP] at this) h7,h8⟩
   ·cases h
 ·rename_i id len i off;cases hp with
  | @rp _ _ _ _ _ n sz sv v hφ gB hv qB=>
   split at h
   ·rename_i p' e sz0 xs ho;obtain⟨μ1,rs,μ2,h1,h2,_⟩:=hs.sto.get ho;obtain⟨ad,cap,vss,h3,h4,hsz,h5⟩:=h2;rw[AP,hφ] at h3;cases h3;split at h
    ·rename_i x hlen hx;obtain⟨b,cap',e1,rfl⟩:=hv (AH hlen);cases e1;obtain⟨vs,wA⟩:∃vs,vss[i]?=some vs:=⟨_,AA (by have:=h5.1;have:=(AK.1 hx).1;omega)⟩
     obtain⟨q1,q2,q3,q4⟩:=h5.2 i x vs hx wA;obtain⟨r,h7,h8⟩:=j7Z h q4 q3;have qA:rowM w e sz (.slice (some ⟨b,0,none⟩) xs.length cap) xs.length vss.flatten:=hs.good.own (r:=.row p' (.slice (some ⟨b,0,none⟩) xs.length cap) e sz xs.length vss.flatten) (by rw[h1,h4];simp)
     have hA:=qA.cells (g:=b) rfl;have hc:∀(j:Nat) u,vs[j]?=some u→w.cell? ⟨b,i*sz+j,none⟩=some u:=fun j u hu=>by
      have hj:j<sz:=by have:=(AK.1 hu).1;omega
      have:=hA (i*sz+j) u (by rw[h5.at wA j hj];exact hu)
      rwa [Addr.add_lit,AP] at this
     refine⟨b,i*sz+off,r,rfl,?_,h8⟩;have hd:Gw.loadV ag (vs.drop off) 0 k=some r:=by
      unfold Gw.loadV at h7⊢;cases ag with
      |true=>
       simp only at h7⊢;split at h7
       ·rename_i gA;have hB:=AM gA;have:Nat.ble (0+k) (vs.drop off).length=true:=BN (by simp;omega)
        rw[this];simpa[Gw.cut] using h7
       ·cases h7
      |false=>simpa using h7
     exact j8f (w:=w) ht (fun j u hu=>by
      rw[CY] at hu;have:=hc _ u hu
      rwa [←DY] at this) hd
    ·cases h
   ·cases h
 ·cases h
def js9(h:mapT P T=some (d,e)):∃kt,P.underlying T=some (.map kt e)∧P.underlying kt=some d∧((∃q,d=.int q)∨d=.string):=by
 unfold mapT at h;split at h
 ·rename_i k e' hT;split at h
  ·rename_i q hk;cases h;exact⟨k,hT,hk,.inl ⟨q,rfl⟩⟩
  ·rename_i hk;cases h;exact⟨k,hT,hk,.inr rfl⟩
  ·cases h
 ·cases h
def j9D{d:TypeDesc}{k:Value}:∀{l:List MapEntry}{i:Nat},jgm d k (l.map (·.key)) i=some none→Instr.findNow d k l i=some none
 |[],i,h=>rfl
 |x::r,i,h=>by
  simp only[BC,jgm] at h;simp only[Instr.findNow];split at h
  ·cases h
  ·rename_i hh;rw[hh];exact j9D h
  ·cases h
def j9E{d:TypeDesc}{k:Value}:∀{l:List MapEntry}{i j:Nat},jgm d k (l.map (·.key)) i=some (some j)→∃e,l[j-i]?=some e∧i≤j∧Instr.findNow d k l i=some (some (j,e.val))∧Instr.sameNow d k e.key=some true
 |[],i,j,h=>by simp[jgm] at h
 |x::r,i,j,h=>by
  simp only[BC,jgm] at h;simp only[Instr.findNow];split at h
  ·rename_i hh;cases h;exact⟨x,by simp,AU _,by rw[hh],hh⟩
  ·rename_i hh;obtain⟨e,h1,h2,h3,h4⟩:=j9E h;refine⟨e,?_,by omega,by rw[hh];exact h3,h4⟩
   rw[show j-i=(j-(i+1))+1 by omega]
   simpa using h1
  ·cases h
def jkW(a b:ByteArray):(a == b)=true↔a=b:=by
 obtain⟨x⟩:=a;obtain⟨y⟩:=b;constructor
 ·intro h;have e:x=y:=by simpa using(show(x == y)=true from h)
  rw[e]
 ·intro h;cases h;show(x == x)=true
  simp
def jmk{x:Value}(h:Instr.sameNow d k x=some true):x=k∧Instr.sameBits 10000 x k=true:=by
 unfold Instr.sameNow at h;split at h
 ·split at h
  ·rename_i hk;subst hk;simp only[AD,beq_iff_eq] at h;subst h;exact⟨rfl,by simp[Instr.sameBits]⟩
  ·cases h
 ·simp only[AD] at h;have h1:=(jkW _ _).1 h;subst h1;exact⟨rfl,by simpa[Instr.sameBits] using h⟩
 ·simp only[AD,beq_iff_eq] at h;subst h;exact⟨rfl,by simp[Instr.sameBits]⟩
 ·cases h
def j3l(hk:P.underlying kt=some d)(hd:(∃q,d=.int q)∨d=.string)(em:Bool)(k:Value):(Instr.checkKey em 10000 kt k).run P w=.ok () w:=by
 show(Instr.checkKey em (9999+1) kt k).run P w=.ok () w
 unfold Instr.checkKey;simp only[Sem.run_bind,run_underlying hk,Result.andThen_ok];rcases hd with⟨q,rfl⟩|rfl<;>cases k<;>simp[Sem.run_pure]
def j3P{l:List MapEntry}{r:Option (Nat×Value)}(hk:P.underlying kt=some d)(h:Instr.findNow d k l 0=some r):(Instr.findKey kt k l).run P w=.ok r w:=by
 simp[Instr.findKey,run_underlying hk,h]
def j2F{o:Obj}(h:w.heap[b]?=some o)(hc:∀c t f,o≠.cells c t f):(getObj b).run P w=.ok o w:=by
 simp only[getObj,Sem.run,h];try(cases o<;>simp_all[Sem.run])
def jtM{z:PV}(h:zeroE P e=some z):∃v,(zeroValue e).run P w=.ok v w∧R m φ z v:=by
 unfold zeroE at h;cases hz:tz P e with
 |none=>simp[hz] at h
 |some v=>
  simp only[hz,EF] at h;refine⟨v,?_,j4s h⟩;cases hi:P.info? e with
  |none=>simp[tz,hi] at hz
  |some i=>
   simp[tz,hi] at hz;simp[zeroValue,typeInfo,hi,hz]
def juw{b:Bool}(h:R m φ x v):R m φ (okV ok x b) (if ok then .tuple #[v,.bool b] else v):=by
 cases ok with
 |false=>exact h
 |true=>
  refine .tu (vs:=[v,.bool b]) rfl fun i c u h1 h2=>?_
  match i with
  |0=>simp at h1 h2;subst h1;subst h2;exact h
  |1=>simp at h1 h2;subst h1;subst h2;exact .sc rfl
  |i+2=>simp at h1
theorem juv{ks:List Value}{vs:List PV}(hs:Sit E m φ μ st w)(ho:st[id]?=some (.mp ks vs))(hφ:φ id=some (.blk b)):∃en clock,w.heap[b]?=some (.map en clock)∧en.toList.map (·.key)=ks∧Rl m φ vs (en.toList.map (·.val)):=by
 obtain⟨μ1,rs,μ2,h1,h2,_⟩:=hs.sto.get ho;obtain⟨b',en,clock,h3,h4,h5,h6⟩:=h2;rw[AP,hφ] at h3;cases h3;exact⟨en,clock,hs.good.own (r:=.blk b (.map en clock)) (by rw[h1,h4];simp),h5,h6⟩
theorem ju3{cap:Nat}{q:List PV}(hs:Sit E m φ μ st w)(ho:st[id]?=some (.ch cap q))(hφ:φ id=some (.blk b)):∃us s r,w.heap[b]?=some (.chan cap us false s r false)∧Rl m φ q us.toList:=by
 obtain⟨μ1,rs,μ2,h1,h2,_⟩:=hs.sto.get ho;obtain⟨b',us,s,r,h3,h4,h5⟩:=h2;rw[AP,hφ] at h3;cases h3;exact⟨us,s,r,hs.good.own (r:=.blk b (.chan cap us false s r false)) (by rw[h1,h4];simp),h5⟩
theorem jlR(hs:Sit E m φ μ st w)(h:jkb P st T x=some u)(hr:R m φ x v):∃n:Nat,u=.sc (.int .i64 n)∧(Builtin.len_ #[T] ty #[v]).run P w=.ok (.int .i64 n) w:=by
 unfold jkb at h;split at h
 ·rename_i id;split at h
  ·rename_i k e ks vs hT ho;cases h;cases hr with
   | @mr _ _ b hφ=>
    obtain⟨en,clock,hb,h5,_⟩:=juv hs ho hφ;refine⟨_,rfl,?_⟩;have hl:ks.length=en.size:=by rw[←h5];simp
    simp[Builtin.len_,run_underlying hT,j2F hb,goInt,hl]
  ·cases h
 ·rename_i id;split at h
  ·rename_i d e cap q hT ho;cases h;cases hr with
   | @cr _ _ b hφ=>
    obtain⟨us,s,r,hb,h5⟩:=ju3 hs ho hφ;refine⟨_,rfl,?_⟩;have hl:q.length=us.size:=by rw[h5.1];simp
    simp[Builtin.len_,run_underlying hT,j2F hb,goInt,hl]
  ·cases h
 ·cases h
theorem jlI{i:PV}{xv iv:Value}(hs:Sit E m φ μ st w)(h:jk6 P st T ok x i=some u)(hx:R m φ x xv)(hi:R m φ i iv):∃v,(Instr.lookup T xv iv ok).run P w=.ok v w∧R m φ u v:=by
 unfold jk6 at h;split at h
 ·rename_i d e id k wA;obtain⟨kt,hT,hA,hd⟩:=js9 wA;have hk:=hi.sc_eq;subst hk;split at h
  ·rename_i ks vs ho;cases hx with
   | @mr _ _ b hφ=>
    obtain⟨en,clock,hb,h5,h6⟩:=juv hs ho hφ;subst h5;split at h
    ·rename_i j hj;obtain⟨e0,q1,q2,q3,q4⟩:=j9E hj;simp only[FH] at q1;cases hv:vs[j]? with
     |none=>simp[hv] at h
     |some y=>
      simp only[hv,AY,AD] at h;subst h;have hy:=h6.2 j y e0.val hv (by rw[BA,q1];rfl)
      refine⟨_,?_,juw hy⟩;simp[Instr.lookup,run_underlying hT,j2F hb,j3l hA hd,j3P hA q3]
    ·rename_i hj;cases hz:zeroE P e with
     |none=>simp[hz] at h
     |some z=>
      simp only[hz,AY,AD] at h;subst h;obtain⟨v,gA,qA⟩:=jtM (m:=m) (φ:=φ) (w:=w) hz;refine⟨_,?_,juw qA⟩;simp[Instr.lookup,run_underlying hT,j2F hb,j3l hA hd,j3P hA (j9D hj),gA]
    ·cases h
  ·cases h
 ·cases h
theorem jrY{op:Op}(hs:Sit E m φ μ st w)(h:EnvR m φ ρ a)(hx:aK P ρ st op=some u):Does P w a m φ ⟨dst,op,ty,pos,after,gd⟩ u:=by
 unfold aK at hx;split at hx
 ·rename_i T x i;split at hx
  ·rename_i e z p pi ht hp kE;split at hx
   ·rename_i q hq;obtain⟨k,ek⟩:=j9Q hq (j0j h kE);unfold jkl at hx;split at hx
    ·rename_i id len;split at hx
     ·rename_i p' e' sz xs ho;split at hx
      ·rename_i hb;cases hx;simp only[AB] at hb;have hlen:=AH hb.1.1;have hF:q<len:=by simpa[BW] using hb.1.2
       obtain rfl:=AH hb.2;have hr:=j0j h hp;generalize he:a.eval x=ev at hr;cases hr with
       | @ms _ _ _ n sz sv v hφ wA hv gB=>
        obtain⟨μ1,rs,μ2,h1,h2,_⟩:=hs.sto.get ho;obtain⟨ad,cap,vss,h3,h4,hsz,h5⟩:=h2;rw[AP,hφ] at h3;cases h3;obtain rfl:=hv hlen;have hA:rowM w e' z (.slice ad xs.length cap) xs.length vss.flatten:=hs.good.own (r:=.row p' (.slice ad xs.length cap) e' z xs.length vss.flatten) (by rw[h1,h4];simp)
        obtain⟨b,rfl⟩:∃b,ad=some ⟨b,0,none⟩:=by
         rcases hA.2 with⟨_,h0⟩|⟨g,cap',cur,fz,gA,_⟩
         ·omega
         ·cases gA;exact⟨g,rfl⟩
        refine⟨.pointer (some ⟨b,q*z+0,none⟩),?_,.rp hφ wA (fun _=>⟨b,cap,rfl,rfl⟩) ⟨_,_,rfl⟩⟩
        unfold tsl at ht;split at ht
        ·rename_i e'' qC;cases hB:P.info? e'' with
         |none=>simp[hB] at ht
         |some ii=>
          simp[hB] at ht;obtain⟨rfl,rfl⟩:=ht;have hC:q<xs.length:=by omega
          simp[execOp,Instr.indexAt,he,ek,asIntOf,run_underlying qC,hC,sizeOf,typeInfo,hB,Addr.add_lit]
        ·cases ht
      ·cases hx
     ·cases hx
    ·cases hx
   ·cases hx
  ·cases hx
 ·rename_i T x;split at hx
  ·rename_i ag k p ht hp;obtain⟨b,off,r,e,h1,h2⟩:=jgG hs ht hx (j0j h hp);exact⟨r,by simp[execOp,Instr.loadAt,e,Instr.sureAddr,h1],h2⟩
  ·cases hx
 ·rename_i xs ts;split at hx
  ·rename_i x T qB gD;obtain rfl:xs = #[x]:=by apply Array.ext';simpa using qB
   obtain rfl:ts = #[T]:=by apply Array.ext';simpa using gD
   split at hx
   ·rename_i e v ht hv;unfold rowLen at hx;split at hx
    ·rename_i id len;split at hx
     ·rename_i p' e' sz xs ho;split at hx
      ·rename_i hlen;cases hx;have hr:=j0j h hv;generalize he:a.eval x=ev at hr;cases hr with
       | @ms _ _ _ n sz sv v hφ wA qA gB=>
        obtain⟨μ1,rs,μ2,h1,h2,_⟩:=hs.sto.get ho;obtain⟨ad,cap,vss,h3,h4,hsz,h5⟩:=h2;rw[AP,hφ] at h3;cases h3;obtain rfl:=AH hlen;obtain rfl:=qA rfl;refine⟨_,?_,.sc rfl⟩;unfold tsl at ht;split at ht
        ·rename_i e'' qC;simp[execOp,resolve,invoke,builtin,Builtin.len_,he,run_underlying qC,goInt]
        ·cases ht
      ·cases hx
     ·cases hx
    ·cases hx
   ·rename_i v ht hv;obtain⟨n,rfl,wB⟩:=jlR (ty:=ty) hs hx (j0j h hv);exact⟨_,by simp[execOp,resolve,invoke,builtin,wB],.sc rfl⟩
   ·cases hx
  ·cases hx
 ·rename_i xs ts;split at hx
  ·rename_i x qB;obtain rfl:xs = #[x]:=by apply Array.ext';simpa using qB
   split at hx
   ·rename_i id len hv;have hr:=j0j h hv;generalize he:a.eval x=ev at hr;split at hx
    ·rename_i p e sz xs ho;split at hx
     ·rename_i hb;rw[AB] at hb;have hE:0<len:=by simpa[BW] using hb.2
      have hlen:=AH hb.1;cases hx;cases hr with
      | @ms _ _ _ n sz' sv v hφ wA qA gB=>
       obtain⟨μ1,rs,μ2,h1,h2,_⟩:=hs.sto.get ho;obtain⟨ad,cap,vss,h3,h4,hsz,h5⟩:=h2;rw[AP,hφ] at h3;cases h3;obtain rfl:=qA hlen;have hA:rowM w e sz (.slice ad xs.length cap) xs.length vss.flatten:=hs.good.own (r:=.row p (.slice ad xs.length cap) e sz xs.length vss.flatten) (by rw[h1,h4];simp)
       obtain⟨b,rfl,wE⟩:∃b,ad=some ⟨b,0,none⟩∧xs.length≤cap:=by
        rcases hA.2 with⟨_,h0⟩|⟨g,cap',cur,fz,gA,_,_,hc,_⟩
        ·omega
        ·cases gA;exact⟨g,rfl,hc⟩
       refine⟨.pointer (some ⟨b,0,none⟩),?_,.rp hφ wA (fun _=>⟨b,cap,rfl,by rw[GY]⟩) ⟨_,_,rfl⟩⟩
       simp[execOp,resolve,invoke,builtin,he,Lib.run_unsafeSliceData_row _ _ _ _ xs.length cap (by omega)]
     ·cases hx
    ·cases hx
   ·cases hx
  ·cases hx
 ·rename_i T x i ok;split at hx
  ·rename_i px pi hD hB;obtain⟨v,h1,h2⟩:=jlI hs hx (j0j h hD) (j0j h hB);exact⟨v,by simp[execOp,h1],h2⟩
  ·cases hx
 ·rename_i s d x;split at hx
  ·rename_i id len hv;have hr:=j0j h hv;generalize he:a.eval x=ev at hr;split at hx
   ·rename_i p e sz xs ho;split at hx
    ·rename_i hlen;cases hr with
     | @ms _ _ _ n sz' sv v hφ wA qA gB=>
      obtain⟨μ1,rs,μ2,h1,h2,_⟩:=hs.sto.get ho;obtain⟨ad,cap,vss,h3,h4,hsz,h5⟩:=h2;rw[AP,hφ] at h3;cases h3;obtain rfl:=qA (AH hlen);have hA:rowM w e sz (.slice ad xs.length cap) xs.length vss.flatten:=hs.good.own (r:=.row p (.slice ad xs.length cap) e sz xs.length vss.flatten) (by rw[h1,h4];simp)
      obtain⟨b',h6,rfl⟩:=jkx (w:=w) (ad:=ad) (cap:=cap) hx fun qE=>by
       obtain⟨b,rfl⟩:∃b,ad=some ⟨b,0,none⟩:=by
        rcases hA.2 with⟨_,h0⟩|⟨g,cap',cur,fz,gA,_⟩
        ·exact absurd (AJ h0) qE
        ·cases gA;exact⟨g,rfl⟩
       refine⟨b,0,rfl,fun i c gC=>?_⟩
       have hi:=(AK.1 gC).1;obtain⟨vs,wC⟩:∃vs,vss[i]?=some vs:=⟨_,AA (by have:=h5.1;omega)⟩
       obtain⟨q1,q2,q3,q4⟩:=h5.2 i _ vs gC wC;have wD:sz=1:=by simpa[PV.cells] using q1.symm
       subst wD;obtain⟨u,hu⟩:∃u,vs[0]?=some u:=⟨_,AA (by omega)⟩
       have qD:=(q4.2 0 _ u rfl hu).sc_eq;subst qD;have:=hA.cells (g:=b) rfl i _ (by have:=h5.at wC 0 (by omega);rw[FD,DB] at this;rw[this];exact hu)
       rwa [Addr.add_lit] at this
      exact⟨_,by simp[execOp,he,h6],.sc rfl⟩
    ·cases hx
   ·cases hx
  ·cases hx
 ·cases hx
end
open Go Go.Hb
open Go.Gw (tk tf tz tsl tar tpl isAggD)
def more(φ:Ph)(id:Nat)(p:Phi):Ph:=fun j=>if j=id then some p else φ j
theorem j0u(φ:Ph)(id:Nat)(p:Phi):more φ id p id=some p:=by simp[more]
variable{id:Nat}{φ:Ph}{p:Phi}
theorem j0X{j:Nat}(h:j≠id):more φ id p j=φ j:=by simp[more,h]
theorem j6I(h:φ id=none):Le φ (more φ id p):=fun j=>by
 by_cases e:j=id
 ·grind
 ·rw[j0X e];exact Le.refl φ j
section
variable{P:Program}{E:Entry}{m:Mem}{φ:Ph}{μ:Own}{st:Sto}{ρ:AEnv}{a:Act}{w:World}{dst:Option Nat}{ty:TypeId}{pos:String}{after:Array Edge}{gd:Option (Nat×Bool)}
def Acts(P:Program)(E:Entry)(m:Mem)(φ:Ph)(st:Sto)(w:World)(a:Act)(o:Oper):AR→Prop
 | .val x st'=>∃v w' m' φ' μ',(execOp a.eval o).run P w=.ok (.value v) w'∧Mem.le m m'∧Ext st st' φ φ'∧Sit E m' φ' μ' st' w'∧R m' φ' x v
 | .unit st'=>∃w' m' φ' μ',(execOp a.eval o).run P w=.ok .skip w'∧Mem.le m m'∧Ext st st' φ φ'∧Sit E m' φ' μ' st' w'
 | .pan x st'=>∃v w' m' φ' μ',(execOp a.eval o).run P w=.halt (.panic v) w'∧Mem.le m m'∧Ext st st' φ φ'∧Sit E m' φ' μ' st' w'∧R m' φ' x v
variable{r:AR}{n x y:Operand}{o:SO}{st':Sto}{T:TypeId}{v:Value}{w':World}
theorem Sit.push{p:Phi}{r:Res}(hs:Sit E m φ μ st w)(hg:Hb.Good E w' m (r::μ))(ho:SRo m (more φ st.length p) st.length o [r]):Sit E m (more φ st.length p) (μ++[r]) (st++[o]) w'∧Ext st (st++[o]) φ (more φ st.length p):=by
 have hA:Le φ (more φ st.length p):=j6I (hs.dom _ (AU _));refine⟨⟨hg.perm (List.perm_append_singleton r μ).symm,SR.snoc (hs.sto.mono (Mem.le.refl m) hA fun id _ h=>j0X (by omega)) (by grind),fun id h=>?_⟩,⟨hA,by simp,fun id h=>?_⟩⟩
 ·simp only[AL,AC,AG] at h;rw[j0X (by omega)]
  exact hs.dom id (by omega)
 ·have qA:=(AK.1 h).1;rw[AW qA,j0X (by omega)]
  exact⟨h,rfl⟩
def j9X:(newVar T v).run P w=.ok ⟨w.heap.size,0,none⟩ { w with heap:=w.heap.push (.cells v.cells T (0,0)) }:=by
 simp[newVar,newRow,newObj,Sem.run]
def jne{cs:List PV}(hs:Sit E m φ μ st w)(hr:Rl m φ cs v.cells.toList)(hc:cs.all cell=true):
  ∃φ' μ',Ext st (st++[.box T cs]) φ φ'∧Sit E m φ' μ' (st++[.box T cs]) { w with heap:=w.heap.push (.cells v.cells T (0,0)) }∧φ' st.length=some (.blk w.heap.size):=by
 have hg:=hs.good.new (.cells v.cells T (0,0));obtain⟨h1,h2⟩:=hs.push (p:=.blk w.heap.size) (o:=.box T cs) (r:=bx w.heap.size T v.cells.toList) (w':={ w with heap:=w.heap.push (.cells v.cells T (0,0)) }) (by simpa using hg)
  ⟨w.heap.size,v.cells.toList,j0u _ _ _,rfl,hr.mono (Mem.le.refl m) (j6I (hs.dom _ (AU _))),hc⟩
 exact⟨_,_,h2,h1,j0u _ _ _⟩
def jq1(hs:Sit E m φ μ st w)(h:EnvR m φ ρ a)(hx:sBox ρ st T x=some r):Acts P E m φ st w a ⟨dst,.box T x,ty,pos,after,gd⟩ r:=by
 unfold sBox at hx;split at hx
 ·rename_i v hv;split at hx
  ·rename_i hc;cases hx;obtain⟨φ',μ',h1,h2,h3⟩:=jne (T:=T) hs (jei (j0j h hv)) hc;refine⟨.pointer (some ⟨w.heap.size,0,none⟩),_,m,φ',μ',?_,Mem.le.refl m,h1,h2,.bp h3⟩;simp[execOp,Instr.box,j9X]
  ·cases hx
 ·cases hx
def jkN(hs:Sit E m φ μ st w)(hx:jh7 P st T=some r):Acts P E m φ st w a ⟨dst,.alloc T,ty,pos,after,gd⟩ r:=by
 unfold jh7 at hx;split at hx
 ·rename_i cs hz;cases hx;unfold jcC at hz;split at hz
  ·rename_i z hA;obtain⟨hr,hc⟩:=j4r (m:=m) (φ:=φ) hz;obtain⟨φ',μ',h1,h2,h3⟩:=jne (T:=T) hs hr hc;refine⟨.pointer (some ⟨w.heap.size,0,none⟩),_,m,φ',μ',?_,Mem.le.refl m,h1,h2,.bp h3⟩;cases hi:P.info? T with
   |none=>simp[tz,hi] at hA
   |some i=>
    simp_all[tz,execOp,Instr.alloc,zeroValue,typeInfo,j9X]
  ·cases hz
 ·cases hx
theorem Sit.turn{i:Nat}{o':SO}{r r':Res}(hs:Sit E m φ μ st w)(ho:st[i]?=some o)(qB:o≠.dead){μ1 μ2:Own}(hμ:μ=μ1++([r]++μ2))
  (gA:SR m φ 0 (st.set i o') (μ1++([r']++μ2))) (hB:w'.os=w.os) (hA:w'.tape=w.tape) (wA:w'.output=w.output) (qA:w.heap.size≤w'.heap.size)
  (hk:∀b,b<w.heap.size→r.foot≠some b→w'.heap[b]?=w.heap[b]?) (hc:∀b k v,r.foot=some b→m b k=some v→∃c T fr,w'.heap[b]?=some (.cells c T fr)∧c[k]?=some v) (hr:r'.holds w')
  (hf:∀b,r'.foot=some b→(r.foot=some b∧r.lim≤r'.lim)∨w.heap.size≤b):∃μ',Sit E m φ μ' (st.set i o') w'∧Ext st (st.set i o') φ φ:=by
 subst hμ;have h1:Hb.Good E w m (r::(μ1++μ2)):=hs.good.perm (by simp)
 have h2:=h1.turn hB hA wA qA hk hc hr hf;refine⟨_,⟨h2.perm (by simpa using DW.symm),gA,fun id h=>hs.dom id (by simpa using h)⟩,⟨Le.refl φ,by simp,fun id h=>?_⟩⟩
 grind
def j7W{sz:Nat}:∀{vss:List (List Value)},(∀us∈vss,us.length=sz)→∀(i j:Nat),j<sz→vss.flatten[i*sz+j]?=(vss[i]?).bind fun us=>us[j]?
 |[],_,i,j,_=>by simp
 |us::vss,h,i,j,hj=>by
  have h0:=h us BG;cases i with
  |zero=>grind
  |succ i=>
   rw[CC,BK (by grind),h0]
   have:=j7W (vss:=vss) (fun us hu=>h us (BE _ hu)) i j hj
   grind
def j4C:∀{vss:List (List Value)}{i:Nat}{vs us:List Value},vss[i]?=some vs→us.length=vs.length→(vss.set i us).flatten.length=vss.flatten.length
 |[],i,vs,us,h,_=>by simp at h
 |x::vss,i,vs,us,h,hl=>by
  cases i with
  |zero=>grind
  |succ i=>simp only[List.set_cons_succ,CC,AL];rw[j4C (by simpa using h) hl]
theorem jkQ(hs:Sit E m φ μ st w)(h:EnvR m φ ρ a)(hx:jc9 P ρ st T x y=some r):Acts P E m φ st w a ⟨dst,.store T x y,ty,pos,after,gd⟩ r:=by
 unfold jc9 at hx;split at hx
 ·rename_i ag k p v ht hp hv;split at hx
  ·rename_i hb;rw[AB] at hb;have hk:=AH hb.1;cases hA:jdQ st k v p with
   |none=>simp[hA] at hx
   |some st'=>
    simp only[hA,AY,AD] at hx;subst hx;unfold jdQ at hA;split at hA
    ·rename_i id off;split at hA
     ·rename_i T' cs ho;split at hA
      ·rename_i gH;cases hA;have kF:=AM gH;have hr:=j0j h hp;have qE:=j0j h hv;have gA:=jei qE;generalize he:a.eval x=ev at hr;cases hr with
       | @bp _ _ _ b hφ=>
        obtain⟨μ1,rs,μ2,h1,h2,h3⟩:=hs.sto.get ho;obtain⟨b',vs,h4,h5,h6,h7⟩:=h2;rw[AP,hφ] at h4;cases h4;subst h5;have qI:w.heap[b]?=some (.cells vs.toArray T' (0,0)):=hs.good.own (r:=bx b T' vs) (by rw[h1];simp)
        have qG:∀u∈(a.eval y).cells.toList,u.oneCell'=true:=fun u hu=>by
         obtain⟨i,hi⟩:=BX hu;obtain⟨c,hc⟩:∃c,v.cells[i]?=some c:=⟨_,AA (by have:=gA.1;grind)⟩
         exact(gA.2 i c u hc hi).one (AF.1 hb.2 c (AE hc))
        have hlen:off+(a.eval y).cells.toList.length≤vs.length:=by rw[←gA.1,←h6.1];omega
        have kE:=run_storeCells_at P b off T' (a.eval y).cells.toList 0 vs.toArray w qI (by simpa using hlen) qG
        obtain⟨μ',hB,qB⟩:=hs.turn (w':=w.setRow b (Gw.upd vs off (a.eval y).cells.toList).toArray) (r':=bx b T' (Gw.upd vs off (a.eval y).cells.toList)) (o':=.box T' (updP cs off v.cells)) ho (by simp) h1
         (h3 (Mem.le.refl m) (Le.refl φ) (fun _ _=>rfl) ⟨b,_,by grind,rfl,jpK h6 gA,jfs h7 hb.2⟩) rfl rfl rfl (by simp[World.setRow])
         (fun b' _ wD=>setRow_other w b b' _ (fun e=>wD (by simp[Res.foot,e])))
         (fun b' o u hf hm=>by
          have:=(hs.good.feet (bx b T' vs) (by rw[h1];simp) b' hf).2 o (DD _)
          grind)
         (setRow_heap w b _ _ T' (0,0) qI) (fun b' e=>.inl ⟨e,AU _⟩)
        refine⟨_,m,φ,μ',?_,Mem.le.refl m,qB,hB⟩;unfold tk at ht;split at ht
        ·rename_i dd ii wJ kJ;simp only[AD,BB] at ht;have qK:(a.eval y).cells.size=ii.size:=by rw[ht.2,←hk,gA.1];simp
         simp_all[DB,execOp,Instr.storeAt,Instr.sureAddr,storeVar,sizeOf,typeInfo,Gw.upd]
        ·cases ht
      ·cases hA
     ·cases hA
    ·rename_i id len i off;split at hA
     ·rename_i t sz xs ho;split at hA
      ·rename_i x0 hlen gG;split at hA
       ·rename_i kG;cases hA;rw[AB] at kG;have kF:=AM kG.1;have kI:=AH kG.2;have hr:=j0j h hp;have qE:=j0j h hv;have gA:=jei qE;generalize he:a.eval x=ev at hr;cases hr with
        | @rp _ _ _ _ _ n' sz' sv v' hφ gH gI hL=>
         obtain⟨μ1,rs,μ2,h1,h2,h3⟩:=hs.sto.get ho;obtain⟨ad,cap,vss,h4,h5,hsz,h6⟩:=h2;rw[AP,hφ] at h4;cases h4;subst h5;obtain⟨b,cap',e1,rfl⟩:=gI (AH hlen);cases e1;have hF:rowM w t sz (.slice (some ⟨b,0,none⟩) xs.length cap) xs.length vss.flatten:=hs.good.own (r:=.row false (.slice (some ⟨b,0,none⟩) xs.length cap) t sz xs.length vss.flatten) (by rw[h1];simp)
         obtain⟨cur,fz,wA,hI,qH,kK,hK,qC⟩:∃cur fz,w.heap[b]?=some (.cells cur t fz)∧(fz=(0,0)∨cur.size≤fz.1∧markT t=true)∧xs.length≤cap∧cap≤maxLen∧cur.size=cap*sz∧cur.toList.take (xs.length*sz)=vss.flatten:=by
          rcases hF.2 with⟨e2,_⟩|⟨g,cap2,cur,fz,e2,q1,q0,q2,q3,q4,q5⟩
          ·cases e2
          grind
         have qD:=(AK.1 gG).1;obtain⟨vs,wG⟩:∃vs,vss[i]?=some vs:=⟨_,AA (by have:=h6.1;omega)⟩
         obtain⟨q1,q2,q3,q4⟩:=h6.2 i x0 vs gG wG;have hH:(a.eval y).cells.toList.length=k:=by rw[←gA.1];exact hk
         have wI:(a.eval y).cells.size=k:=by simpa using hH
         have qG:∀u∈(a.eval y).cells.toList,u.oneCell'=true:=fun u hu=>by
          obtain⟨i,hi⟩:=BX hu;obtain⟨c,hc⟩:∃c,v.cells[i]?=some c:=⟨_,AA (by grind)⟩
          exact(gA.2 i c u hc hi).one (AF.1 hb.2 c (AE hc))
         have qF:(i+1)*sz≤xs.length*sz:=CZ _ qD;have wH:xs.length*sz≤cap*sz:=CZ _ qH;rw[DA] at qF;have wE:i*sz+off+k≤cur.size:=by rw[hK];omega
         have kE:=j2y P b (i*sz+off) t fz (a.eval y).cells.toList 0 cur w wA (hI.imp (fun e=>e) (fun e=>e.1)) (by rw[hH];omega) qG
         -- what the row holds then
         have gD:Gw.upd vss.flatten (i*sz+off) (a.eval y).cells.toList=(vss.set i (Gw.upd vs off (a.eval y).cells.toList)).flatten:=by
          have wF:=h6.flat;have wB:(Gw.upd vs off (a.eval y).cells.toList).length=sz:=by rw[Gw.upd_length (by omega)];exact q2
          have kH:RowR m φ sz xs vss:=h6;apply CU
          intro j;have hlen2:(vss.set i (Gw.upd vs off (a.eval y).cells.toList)).flatten.length=vss.flatten.length:=j4C wG (by rw[wB,q2])
          by_cases hj:j<vss.flatten.length
          ·rw[wF] at hj;have qJ:j/sz*sz+j%sz=j:=by rw[FV];exact Nat.div_add_mod j sz
           have hD:=GQ j hsz;have hG:j/sz<vss.length:=by rw[←h6.1];exact GR (by grind)
           have e3:=j7W (sz:=sz) (vss:=vss.set i (Gw.upd vs off (a.eval y).cells.toList)) (fun us hE=>by
            rcases List.mem_or_eq_of_mem_set hE with h'|h'
            ·obtain⟨i',gF⟩:=BX h';obtain⟨x',qA⟩:∃x',xs[i']?=some x':=⟨_,AA (by have:=h6.1;grind)⟩
             exact(h6.2 i' x' us qA gF).2.1
            ·rw[h'];exact wB) (j/sz) (j%sz) hD
           have e4:=j7W (sz:=sz) (vss:=vss) (fun us hE=>by
            obtain⟨i',gF⟩:=BX hE;obtain⟨x',qA⟩:∃x',xs[i']?=some x':=⟨_,AA (by have:=h6.1;grind)⟩
            exact(h6.2 i' x' us qA gF).2.1) (j/sz) (j%sz) hD
           rw[qJ] at e3 e4;rw[e3,Gw.upd_get (by rw[wF];omega),DZ]
           by_cases gB:i=j/sz
           ·subst gB;rw[if_pos rfl,if_pos hG];simp only[EF];rw[Gw.upd_get (by omega)]
            grind
           ·rw[if_neg gB];have wD:¬(i*sz+off≤j∧j<i*sz+off+(a.eval y).cells.toList.length):=fun⟨g1,g2⟩=>by
             apply gB;have:i*sz≤j:=by omega
             have h7:j<(i+1)*sz:=by grind
             exact(Nat.div_eq_of_lt_le (by omega) h7).symm
            grind
          ·rw[CS.2 (by rw[Gw.upd_length (by rw[wF];omega)];omega),CS.2 (by rw[hlen2];omega)]
         have wC:rowM (w.setRow b (cur.toList.take (i*sz+off)++(a.eval y).cells.toList++cur.toList.drop (i*sz+off+(a.eval y).cells.toList.length)).toArray) t sz (.slice (some ⟨b,0,none⟩) xs.length cap) xs.length (vss.set i (Gw.upd vs off (a.eval y).cells.toList)).flatten:=by
          rw[←gD];refine⟨by rw[Gw.upd_length (by rw[h6.flat];omega)];exact h6.flat,.inr ⟨b,cap,_,fz,rfl,setRow_heap w b cur _ t _ wA,hI.imp (fun e=>e) (fun e=>⟨BL (EE (by
           grind)) e.1,e.2⟩),qH,kK,?_,?_⟩⟩
          ·grind
          ·rw[DU];have e5:cur.toList.take (i*sz+off)++(a.eval y).cells.toList++cur.toList.drop (i*sz+off+(a.eval y).cells.toList.length)=Gw.upd cur.toList (i*sz+off) (a.eval y).cells.toList:=by simp[Gw.upd]
           rw[e5,←qC];apply CU
           intro j;rw[CQ];rw[Gw.upd_get (by simp;omega),Gw.upd_get (by simp;omega)]
           grind
         have gC:RowR m φ sz (xs.set i (j5V x0 v off)) (vss.set i (Gw.upd vs off (a.eval y).cells.toList)):=by
          refine⟨by simp[h6.1],fun j x' us qA hC=>?_⟩
          rw[DZ] at qA hC
          by_cases gB:i=j
          ·subst gB;rw[if_pos rfl,if_pos qD] at qA;rw[if_pos rfl,if_pos (by have:=h6.1;omega)] at hC
           cases qA;cases hC;have hJ:(j5V x0 v off).cells=updP x0.cells off v.cells∨((j5V x0 v off).cells=v.cells∧x0.cells=[x0]):=by
            unfold j5V;split
            ·exact .inl rfl
            ·rename_i qL;refine .inr ⟨rfl,?_⟩;cases x0<;>first|rfl|grind
           rcases hJ with e6|⟨e6,e7⟩
           ·refine⟨kI,by rw[Gw.upd_length (by omega)];exact q2,?_,?_⟩
            ·rw[e6];exact jfs q3 hb.2
            ·rw[e6];exact jpK q4 gA
           ·have wK:sz=1:=by grind
            have gL:k=1:=by rw[e6] at kI;omega
            have kL:off=0:=by omega
            grind [Gw.upd]
          ·rw[if_neg gB] at qA hC;exact h6.2 j x' us qA hC
         obtain⟨μ',hB,qB⟩:=hs.turn (w':=w.setRow b (cur.toList.take (i*sz+off)++(a.eval y).cells.toList++cur.toList.drop (i*sz+off+(a.eval y).cells.toList.length)).toArray) (r':=.row false (.slice (some ⟨b,0,none⟩) xs.length cap) t sz xs.length (vss.set i (Gw.upd vs off (a.eval y).cells.toList)).flatten) (o':=.row false t sz (xs.set i (j5V x0 v off))) ho (by simp) h1
          (h3 (Mem.le.refl m) (Le.refl φ) (fun _ _=>rfl) ⟨some ⟨b,0,none⟩,cap,_,by grind,by rw[List.length_set],hsz,gC⟩) rfl rfl rfl (by simp[World.setRow])
          (fun b' _ wD=>setRow_other w b b' _ (fun e=>wD (by simp[Res.foot,Value.ownBlock,e])))
          (fun b' o u hf hm=>by
           have:=(hs.good.feet (.row false (.slice (some ⟨b,0,none⟩) xs.length cap) t sz xs.length vss.flatten) (by rw[h1];simp) b' hf).2 o (by simp[Res.lim])
           grind)
          wC (fun b' e=>.inl ⟨e,AU _⟩)
         refine⟨_,m,φ,μ',?_,Mem.le.refl m,qB,hB⟩;unfold tk at ht;split at ht
         ·rename_i dd ii wJ kJ;simp only[AD,BB] at ht
          simp_all[DB,execOp,Instr.storeAt,Instr.sureAddr,storeVar,sizeOf,typeInfo]
         ·cases ht
       ·cases hA
      ·cases hA
     ·cases hA
    ·cases hA
  ·cases hx
 ·cases hx
def jrb{e:TypeId}(h:jkg P T e=true):P.underlying T=some (.pointer e)∧P.cellsOf e=1:=by
 unfold jkg at h;split at h
 ·rename_i e' hT;rw[AB] at h;obtain rfl:=AH h.1
  simp_all
 ·cases h
theorem jcJ{U:TypeId}(hs:Sit E m φ μ st w)(h:EnvR m φ ρ a)(hx:j5q P ρ st x n T=some r):Acts P E m φ st w a ⟨dst,.call ⟨.builtin .unsafeString,#[x,n],#[T,U]⟩,ty,pos,after,gd⟩ r:=by
 unfold j5q at hx;split at hx
 ·rename_i id len mm hv hn;split at hx
  ·rename_i p e sz xs ho;split at hx
   ·rename_i hb;simp only[AB,decide_eq_true_eq] at hb;obtain⟨gF,hH,rfl,qF,kF⟩:=hb;have hlen:=AH gF;have gD:0<len:=by simp_all
    obtain rfl:=AH qF;obtain⟨hT,hF⟩:=jrb kF;split at hx
    ·rename_i l hl;cases hx;have en:=(j0j h hn).sc_eq;have hr:=j0j h hv;generalize he:a.eval x=ev at hr;have wD:=j1X hl;cases hr with
     | @rp _ _ _ _ _ n' sz' sv v hφ kG hD wF=>
      obtain⟨μ1,rs,μ2,h1,h2,h3⟩:=hs.sto.get ho;obtain⟨ad,cap,vss,h4,h5,hsz,h6⟩:=h2;rw[AP,hφ] at h4;cases h4;subst h5;obtain⟨b,cap',e1,rfl⟩:=hD hlen;cases e1;have qA:rowM w e 1 (.slice (some ⟨b,0,none⟩) xs.length cap) xs.length vss.flatten:=hs.good.own (r:=.row p (.slice (some ⟨b,0,none⟩) xs.length cap) e 1 xs.length vss.flatten) (by rw[h1];simp)
      obtain⟨cur,fz,gA,hG,wG,gG⟩:∃cur fz,w.heap[b]?=some (.cells cur e fz)∧xs.length≤cap∧cap≤maxLen∧cur.size=cap*1:=by
       rcases qA.2 with⟨e2,_⟩|⟨g,cap2,cur,fz,e2,q1,q0,q2,q3,q4,q5⟩
       ·cases e2
       grind
      have h0:l≠[]:=fun e=>by grind
      have hA:=qA.cells (g:=b) rfl;have wA:∀(j:Nat) (c:UInt8),l[j]?=some c→w.cell? ((⟨b,0,none⟩:Addr).add j)=some (.int .u8 (c.toNat:Int)):=fun j c hc=>by
       obtain⟨y,hy,wC⟩:=j8P hl hc;have gC:=jsn wC;subst gC;obtain⟨vs,gB⟩:∃vs,vss[j]?=some vs:=⟨_,AA (by have:=h6.1;grind)⟩
       obtain⟨q1,q2,q3,q4⟩:=h6.2 j _ vs hy gB;obtain⟨u,hu⟩:∃u,vs[0]?=some u:=⟨_,AA (by omega)⟩
       have qD:=(q4.2 0 _ u rfl hu).sc_eq;subst qD;exact hA j _ (by have:=h6.at gB 0 (by omega);grind)
      have qB:=Lib.run_unsafeString_row (P:=P) w T U ty e hT hF b cur.size (by simp[World.shape?,gA]) l h0 (by omega) (by grind [maxLen]) wA
      have qG:l.length≠0:=by simpa using h0
      -- the row is let go
      have qC:∃fz',(w.freeze ⟨b,0,none⟩ l.length).heap[b]?=some (.cells cur e fz'):=by
       simp_all[World.freeze,Array.getElem?_modify,if_pos]
      obtain⟨fz',qC⟩:=qC;have wE:∀b',b'≠b→(w.freeze ⟨b,0,none⟩ l.length).heap[b']?=w.heap[b']?:=fun b' wB=>by
       grind [World.freeze]
      have qE:(w.freeze ⟨b,0,none⟩ l.length).heap.size=w.heap.size:=by
       simp_all[World.freeze]
      have hC:Hb.Good E w m (.row p (.slice (some ⟨b,0,none⟩) xs.length cap) e 1 xs.length vss.flatten::(μ1++μ2)):=hs.good.perm (by rw[h1];simp)
      have kE:=hC.turn (w':=w.freeze ⟨b,0,none⟩ l.length) (r':=.row false (.slice none 0 0) e 1 0 []) (by simp_all[World.freeze]) (by simp_all[World.freeze]) (by simp_all[World.freeze]) (EE qE.symm)
       (fun b' _ wB=>wE b' (fun e'=>wB (by simp[Res.foot,Value.ownBlock,e'])))
       (fun b' o u hf hm=>by
        simp only[Res.foot,Value.ownBlock,AD] at hf;subst hf;obtain⟨c,T',fr,q1,q2⟩:=hC.sub _ o u hm
        grind)
       ⟨by simp,.inl ⟨rfl,rfl⟩⟩ (fun b' hf=>by simp[Res.foot,Value.ownBlock] at hf)
      have hE:=kE.drop (EN _ _);have hB:=h3 (m':=m) (φ':=φ) (o':=.dead) (rs':=[]) (Mem.le.refl m) (Le.refl φ) (fun _ _=>rfl) rfl
      refine⟨.string ⟨l.toArray⟩,_,m,φ,μ1++([]++μ2),?_,Mem.le.refl m,⟨Le.refl φ,by simp,fun j hj=>?_⟩,⟨by simpa using hE,hB,fun j hj=>hs.dom j (by simpa using hj)⟩,.sc rfl⟩
      ·rw[wD,←hlen] at qB;simp only[execOp,resolve,invoke,builtin,Sem.run_bind,Sem.run_pure,Result.andThen_ok,GB,BC,CE,he,en,GY,DB]
       simp_all
      grind
    ·cases hx
   ·cases hx
  ·cases hx
 ·cases hx
def jmS{s d:TypeId}(hs:Sit E m φ μ st w)(h:EnvR m φ ρ a)(hx:jpl P ρ st s d x=some r):Acts P E m φ st w a ⟨dst,.convert s d x,ty,pos,after,gd⟩ r:=by
 unfold jpl at hx;split at hx
 ·rename_i e b hS hD hv;split at hx
  ·rename_i he;split at hx
   ·rename_i hb;cases hx;rw[AB] at hb;have qD:=AM hb.1;have ex:=(j0j h hv).sc_eq;have hA:=run_bytes_of_string (P:=P) w s d e b (jpy hS) hD he;have qB:=grownCap_ge w b.size 0 e;have wB:=grownCap_le_maxLen w b.size 0 e (by grind [maxLen])
    generalize grownCap w b.size 0 e=cap at hA qB wB;have hlen:b.data.toList.length=b.size:=rfl;have wC:(bytesRow b cap).size=cap:=by
     simp_all[bytesRow,EP,Array.size_map,Array.size_replicate]
    have hC:(bytesRow b cap).toList.take (b.size*1)=b.data.toList.map fun c=>Value.int .u8 (c.toNat:Int):=by
     simp_all[bytesRow,EX,GD,FD,AZ]
    have gB:Hb.Good E (w.drew.alloc (.cells (bytesRow b cap) e ((bytesRow b cap).size,(bytesRow b cap).size+1))) m (.blk w.heap.size (.cells (bytesRow b cap) e ((bytesRow b cap).size,(bytesRow b cap).size+1))::μ):=(hs.good.drew (w.drawn+1)).new _;have gC:Hb.Good E (w.drew.alloc (.cells (bytesRow b cap) e ((bytesRow b cap).size,(bytesRow b cap).size+1))) m (.row false (.slice (some ⟨w.heap.size,0,none⟩) b.size cap) e 1 b.size (b.data.toList.map fun c=>Value.int .u8 (c.toNat:Int))::μ):=
     gB.turn (w':=w.drew.alloc (.cells (bytesRow b cap) e ((bytesRow b cap).size,(bytesRow b cap).size+1))) rfl rfl rfl (AU _) (fun _ _ _=>rfl) (fun b' o u hf hm=>gB.sub b' o u hm)
      ⟨by grind,.inr ⟨w.heap.size,cap,bytesRow b cap,_,rfl,heap_alloc_new w.drew _,.inr ⟨Nat.le_refl _,hb.2⟩,qB,wB,by omega,hC⟩⟩ (fun b' hf=>.inl ⟨hf,by simp[Res.lim]⟩)
    have qC:Le φ (more φ st.length (.row (.slice (some ⟨w.heap.size,0,none⟩) b.size cap) b.size 1)):=j6I (hs.dom _ (AU _));have hB:(b.data.toList.map fun c=>PV.sc (.int .u8 (c.toNat:Int))).length=b.size:=by grind
    obtain⟨gA,wA⟩:=hs.push (o:=.row false e 1 (b.data.toList.map fun c=>PV.sc (.int .u8 (c.toNat:Int)))) gC ⟨some ⟨w.heap.size,0,none⟩,cap,b.data.toList.map fun c=>[Value.int .u8 (c.toNat:Int)],by rw[j0u,hB],by
      rw[hB];congr 1;congr 1;generalize b.data.toList=l
      induction l with
      |nil=>rfl
      |cons c r ih=>grind,by omega,by simp,fun i y vs hy qA=>by
      rw[BA] at hy qA;cases hc:b.data.toList[i]? with
      |none=>grind
      |some c=>
       rw[hc] at hy qA;simp only[AY,AD] at hy qA;subst hy qA;exact⟨rfl,rfl,rfl,.cons (.sc rfl) .nil⟩⟩
    refine⟨_,_,m,_,_,?_,Mem.le.refl m,wA,gA,.ms (j0u _ _ _) (EE hlen) (fun _=>rfl) ⟨_,_,_,rfl⟩⟩
    simp[execOp,ex,hA]
   ·cases hx
  ·cases hx
 ·cases hx
def jfJ{hA:Option Operand}(hs:Sit E m φ μ st w)(hx:jaT ρ st hA=some r):Acts P E m φ st w a ⟨dst,.makeMap T hA,ty,pos,after,gd⟩ r:=by
 unfold jaT at hx;split at hx
 ·cases hx;have hg:=hs.good.new (.map #[] 0);obtain⟨h1,h2⟩:=hs.push (p:=.blk w.heap.size) (o:=.mp [] []) (r:=.blk w.heap.size (.map #[] 0)) hg ⟨w.heap.size,#[],0,j0u _ _ _,rfl,rfl,.nil⟩;refine⟨.map (some w.heap.size),_,m,_,_,?_,Mem.le.refl m,h2,h1,.mr (j0u _ _ _)⟩;simp[execOp,Instr.makeMap,newObj,Sem.run]
 ·cases hx
def je7(hs:Sit E m φ μ st w)(h:EnvR m φ ρ a)(hx:j8Y P ρ st T n=some r):Acts P E m φ st w a ⟨dst,.makeChan T n,ty,pos,after,gd⟩ r:=by
 unfold j8Y at hx;split at hx
 ·rename_i dir e v hT hv;split at hx
  ·rename_i q i hq hi;split at hx
   ·rename_i hb;cases hx;rw[AB] at hb;have h1:=AM hb.1;have h2:=AM hb.2;obtain⟨k,ek⟩:=j9Q hq (j0j h hv);have h5:(i.bytes:Int)*(q:Int)≤281474976710544:=by
     omega
    have hA:=Conc.run_makeChan (P:=P) (w:=w) hT hi k q (by omega) h5
    have hg:=hs.good.new (.chan q #[] false 0 0 false);obtain⟨h3,h4⟩:=hs.push (p:=.blk w.heap.size) (o:=.ch q []) (r:=.blk w.heap.size (.chan q #[] false 0 0 false)) hg ⟨w.heap.size,#[],0,0,j0u _ _ _,rfl,.nil⟩;refine⟨.chan (some w.heap.size),_,m,_,_,?_,Mem.le.refl m,h4,h3,.cr (j0u _ _ _)⟩
    simp_all[execOp,Sem.run_bind,Result.andThen_ok,Sem.run_pure]
   ·cases hx
  ·cases hx
 ·cases hx
theorem jlJ{x i v:PV}{xv iv vv:Value}(hs:Sit E m φ μ st w)(h:jgI P st T x i v=some st')(hx:R m φ x xv)(hi:R m φ i iv)(hv:R m φ v vv):∃w' μ',(Instr.mapUpdate T xv iv vv).run P w=.ok () w'∧Ext st st' φ φ∧Sit E m φ μ' st' w':=by
 unfold jgI at h;split at h
 ·rename_i d e id k hB;obtain⟨kt,hT,qA,hd⟩:=js9 hB;have hk:=hi.sc_eq;subst hk;split at h
  ·rename_i ks vs ho;cases hx with
   | @mr _ _ b hφ=>
    obtain⟨μ1,rs,μ2,h1,h2,h3⟩:=hs.sto.get ho;obtain⟨b',en,clock,h4,h5,h6,h7⟩:=h2;rw[AP,hφ] at h4;cases h4;subst h5;have hb:w.heap[b]?=some (.map en clock):=hs.good.own (r:=.blk b (.map en clock)) (by rw[h1];simp)
    have hA:∀o,(setObj b o).run P w=.ok () { w with heap:=w.heap.setIfInBounds b o }:=fun o=>by simp[setObj,Sem.run,hb]
    have upd:∀(en':Array MapEntry) (clock':Nat) (ks':List Value) (vs':List PV),en'.toList.map (·.key)=ks'→Rl m φ vs' (en'.toList.map (·.val))→∃μ',Ext st (st.set id (.mp ks' vs')) φ φ∧Sit E m φ μ' (st.set id (.mp ks' vs')) { w with heap:=w.heap.setIfInBounds b (.map en' clock') }:=fun en' clock' ks' vs' g1 g2=>by
     obtain⟨μ',gA,gB⟩:=hs.turn (w':={ w with heap:=w.heap.setIfInBounds b (.map en' clock') }) (r':=.blk b (.map en' clock')) (o':=.mp ks' vs') ho (by simp) h1
      (h3 (Mem.le.refl m) (Le.refl φ) (fun _ _=>rfl) ⟨b,en',clock',by grind,rfl,g1,g2⟩) rfl rfl rfl (by simp)
      (fun b' _ wA=>by
       show(w.heap.setIfInBounds b (.map en' clock'))[b']?=_
       rw[BS,if_neg (fun e=>wA (by rw[e];rfl))])
      (fun b' o u hf hm=>by
       have:=(hs.good.feet (.blk b (.map en clock)) (by rw[h1];simp) b' hf).2 o (DD _)
       grind)
      (by
       show(w.heap.setIfInBounds b (.map en' clock'))[b]?=_
       grind)
      (fun b' e=>.inl ⟨e,AU _⟩)
     grind
    rw[←h6] at h;split at h
    ·rename_i j hj;cases h;obtain⟨e0,q1,q2,q3,q4⟩:=j9E hj;simp only[FH] at q1;obtain⟨q5,q6⟩:=jmk q4;have wB:j<en.toList.length:=(AK.1 q1).1;have e1:(en.modify j fun e=>{ e with key:=iv,val:=vv }).toList=en.toList.set j { e0 with key:=iv,val:=vv }:=by
      apply CU
      grind
     obtain⟨μ',r1,r2⟩:=upd (en.modify j fun e=>{ e with key:=iv,val:=vv }) clock (en.toList.map (·.key)) (vs.set j v) (by
       rw[e1,FW,q5.symm];apply CU
       grind) (by
       rw[e1,FW];refine⟨by simp[h7.1],fun i c u hc hu=>?_⟩
       rw[DZ] at hc hu;split at hc
       ·grind
       ·rename_i qB;rw[if_neg qB] at hu;exact h7.2 i c u hc hu)
     refine⟨_,μ',?_,r1,r2⟩;have e2:en[j]?=some e0:=by simpa using q1
     simp[Instr.mapUpdate,run_underlying hT,j2F hb,j3l qA hd,j3P qA q3,e2,Instr.keyThatStays,q6,hA]
    ·rename_i hj;cases h;obtain⟨μ',r1,r2⟩:=upd (en.push { key:=iv,val:=vv,born:=clock }) (clock+1) (en.toList.map (·.key)++[iv]) (vs++[v]) (by simp) (by
      simp only[Array.toList_push,DQ,BC,CE];exact h7.append (.cons hv .nil))
     refine⟨_,μ',?_,r1,r2⟩;simp[Instr.mapUpdate,run_underlying hT,j2F hb,j3l qA hd,j3P qA (j9D hj),hA]
    ·cases h
  ·cases h
 ·cases h
def j7I{i:Operand}(hs:Sit E m φ μ st w)(h:EnvR m φ ρ a)(hx:j9Z P ρ st T x i y=some r):Acts P E m φ st w a ⟨dst,.mapUpdate T x i y,ty,pos,after,gd⟩ r∧Acts P E m φ st w a ⟨dst,.insert T x i y,ty,pos,after,gd⟩ r:=by
 unfold j9Z at hx;split at hx
 ·rename_i u1 u2 u3 h1 h2 h3;obtain⟨st',h4,rfl⟩:=BQ.1 hx;obtain⟨w',μ',q1,q2,q3⟩:=jlJ hs h4 (j0j h h1) (j0j h h2) (j0j h h3);exact⟨⟨w',m,φ,μ',by simp[execOp,q1],Mem.le.refl m,q2,q3⟩,⟨w',m,φ,μ',by simp[execOp,q1],Mem.le.refl m,q2,q3⟩⟩
 ·cases hx
def jkO(hs:Sit E m φ μ st w)(h:EnvR m φ ρ a)(hx:jkn ρ st x=some r):Acts P E m φ st w a ⟨dst,.panic x,ty,pos,after,gd⟩ r:=by
 unfold jkn at hx;split at hx
 ·rename_i t v hv;cases hx;have hr:=j0j h hv;generalize he:a.eval x=ev at hr;have hA:=hr;cases hr with
  |ifc hi=>
   exact⟨_,w,m,φ,μ,by simp[execOp,he,Instr.panic,goPanic,Sem.run,Bind.bind,Sem.bind],Mem.le.refl m,Ext.refl st φ,hs,hA⟩
 ·cases hx
theorem jgU{id len:Nat}{x:PV}(hs:Sit E m φ μ st w)(h:pubRow id len st=(x,st'))(hr:R m φ (.ms id len) v):∃m' μ',Mem.le m m'∧Ext st st' φ φ∧Sit E m' φ μ' st' w∧R m' φ x v:=by
 have same:(x,st')=(.ms id len,st)→∃m' μ',Mem.le m m'∧Ext st st' φ φ∧Sit E m' φ μ' st' w∧R m' φ x v:=fun e=>by
  cases e;exact⟨m,μ,Mem.le.refl m,Ext.refl _ _,hs,hr⟩
 unfold pubRow at h;split at h
 ·rename_i p e sz xs ho;split at h
  ·rename_i hb;rw[AB] at hb;cases h;cases hr with
   | @ms _ _ _ n sz' sv _ hφ hF hv qE=>
    obtain⟨μ1,rs,μ2,h1,h2,h3⟩:=hs.sto.get ho;obtain⟨ad,cap,vss,h4,h5,hsz,h6⟩:=h2;rw[AP,hφ] at h4;cases h4;subst h5;obtain rfl:=hv (AH hb.1);have hA:Hb.Good E w m (.row p (.slice ad xs.length cap) e sz xs.length vss.flatten::(μ1++μ2)):=hs.good.perm (by rw[h1];simp)
    have gA:rowM w e sz (.slice ad xs.length cap) xs.length vss.flatten:=hA.own (r:=.row p (.slice ad xs.length cap) e sz xs.length vss.flatten) (by simp)
    have wA:Ext st (st.set id (.row true e sz xs)) φ φ:=⟨Le.refl φ,by simp,fun j hj=>by
     grind⟩
    -- the elements
    have gC:∀(i:Nat) x,xs[i]?=some x→x.cells.length=sz∧(vss.getD i []).length=sz∧x.cells.all cell=true∧Rl m noPh x.cells (vss.getD i []):=fun i x hx=>by
     obtain⟨vs,hB⟩:∃vs,vss[i]?=some vs:=⟨_,AA (by have:=h6.1;grind)⟩
     obtain⟨q1,q2,q3,q4⟩:=h6.2 i x vs hx hB;have e':vss.getD i []=vs:=by grind
     rw[e'];refine⟨q1,q2,q3,?_⟩;have hC:=AF.1 hb.2 x (AE hx);refine⟨q4.1,fun j c u hc hu=>?_⟩
     have:pur 6 c=true:=by
      unfold PV.cells at hc;split at hc
      ·rename_i cs;simp only[pur] at hC;have h7:=AF.1 hC c (AE hc);exact jdF h7
      grind
     exact R.pure 6 this (q4.2 j c u hc hu)
    rcases gA.2 with⟨hD,h0⟩|⟨b,cap',cur,fz,qD,qC,kF,gD,kE,qF,wB⟩
    ·have wC:xs=[]:=AJ h0;subst wC;refine⟨m,_,Mem.le.refl m,wA,⟨?_,h3 (Mem.le.refl m) (Le.refl φ) (fun _ _=>rfl) ⟨ad,cap,vss,by grind,rfl,hsz,h6⟩,fun j hj=>hs.dom j (by simpa using hj)⟩,?_⟩
     ·have:=hA.turn (w':=w) (r':=.row true (.slice ad [].length cap) e sz [].length vss.flatten) rfl rfl rfl (AU _) (fun _ _ _=>rfl) (fun b o u hf hm=>hA.sub b o u hm) gA (fun b hb=>by
       simp_all[AG,Res.foot,Value.ownBlock])
      exact this.perm (by simpa using DW.symm)
     ·cases hD;exact .sl (xs:=[]) 0 0 (fun _=>[]) (fun e=>absurd rfl e) (AU _) (by decide) (fun e=>by cases e) (fun i x hx=>by simp at hx) (fun i x j c u hx=>by simp at hx) (fun e=>by cases e)
    ·cases qD;have hE:=h6.flat;have hold:∀(o:Nat) u,vss.flatten[o]?=some u→∃c T fr,w.heap[b]?=some (.cells c T fr)∧c[o]?=some u:=fun o u wE=>by
      grind
     have gB:vss.flatten.length≤(Res.row true (.slice (some ⟨b,0,none⟩) xs.length cap) e sz xs.length vss.flatten).lim:=by simp[Res.lim,hE]
     obtain⟨wD,qA⟩:=hA.tell (b:=b) (cs:=vss.flatten) rfl hold (μ':=.row true (.slice (some ⟨b,0,none⟩) xs.length cap) e sz xs.length vss.flatten::(μ1++μ2)) (fun s qB=>by
       rcases AN.1 qB with rfl|qB
       ·refine .inr ⟨gA,rfl,?_,gB⟩;cases p<;>simp[Res.lim]
       ·exact .inl qB) (CA.2 ⟨(CA.1 hA.apart).1,(CA.1 hA.apart).2⟩)
     refine⟨_,_,qA,wA,⟨wD.perm (by simpa using DW.symm),h3 qA (Le.refl φ) (fun _ _=>rfl) ⟨_,cap,vss,by grind,rfl,hsz,h6.mono qA (Le.refl φ)⟩,fun j hj=>hs.dom j (by simpa using hj)⟩,?_⟩
     refine .sl b 0 (fun i=>vss.getD i []) (fun _=>rfl) gD kE (fun e=>by cases e) (fun i x hx=>?_) (fun i x j c u hx hc hu=>?_) (fun e=>by cases e)
     ·obtain⟨q1,q2,q3,q4⟩:=gC i x hx;refine⟨q1,q2,fun j u hu=>?_,q3⟩
      have hj:j<sz:=by grind
      obtain⟨vs,hB⟩:∃vs,vss[i]?=some vs:=⟨_,AA (by grind)⟩
      have e':vss.getD i []=vs:=by grind
      rw[e'] at hu;rw[AP];exact Mem.add_get (by rw[h6.at hB j hj];exact hu)
     ·obtain⟨q1,q2,q3,q4⟩:=gC i x hx;exact(q4.2 j c u hc hu).mono qA (Le.refl _)
  ·exact same h.symm
 ·exact same h.symm
end
