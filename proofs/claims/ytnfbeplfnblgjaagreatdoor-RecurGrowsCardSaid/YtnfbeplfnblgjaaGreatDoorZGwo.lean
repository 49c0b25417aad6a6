/- The operations of the model, one lemma each, over the small logic of blocks. Plain lemmas, no statement of the seat. -/
import Derived.Test.YtnfbeplfnblgjaaGreatDoorZGw
set_option linter.all false
namespace Go.Gw
open Go
def i64(n:Int):Prop:=-9223372036854775808≤n∧n≤9223372036854775807
theorem wrap_i64{n:Int}(h:i64 n):IntKind.i64.wrap n=n:=IntWalk.i64_in n h
def isAggD:TypeDesc→Bool
 | .struct _=>true
 | .array _ _=>true
 |_=>false
def tk(P:Program)(T:TypeId):Option (Bool×Nat):=
 match P.underlying T,P.info? T with
 |some d,some i=>some (isAggD d,i.size)
 |_,_=>none
def tf(P:Program)(T:TypeId)(f:Nat):Option Nat:=
 match P.underlying T with
 |some (.struct fs)=>match fs[f]? with
  |some fd=>match P.info? fd.type with
   |some i=>if i.size=0 then none else some fd.offset
   |none=>none
  |none=>none
 |_=>none
def tz(P:Program)(T:TypeId):Option Value:=(P.info? T).bind fun i=>i.zero
def tsl(P:Program)(T:TypeId):Option (TypeId×Nat):=
 match P.underlying T with
 |some (.slice e)=>(P.info? e).map fun i=>(e,i.size)
 |_=>none
def tar(P:Program)(T:TypeId):Option (Nat×TypeId×Nat):=
 match P.underlying T with
 |some (.array k e)=>(P.info? e).map fun i=>(k,e,i.size)
 |_=>none
def tpl(P:Program)(T:TypeId):Option (List (Nat×Nat)):=
 match P.underlying T with
 |some (.struct fs)=>fs.toList.mapM fun f=>(P.info? f.type).map fun i=>(f.offset,i.size)
 |_=>none
abbrev bx(b:Nat)(T:TypeId)(cs:List Value):Res:=.blk b (.cells cs.toArray T (0,0))
def Rd(m:Mem)(b off:Nat)(v:Value):Prop:=∃c T fr,m b=some (.cells c T fr)∧c[off]?=some v
def RdN(m:Mem)(b off:Nat)(vs:List Value):Prop:=∀j v,vs[j]?=some v→Rd m b (off+j) v
variable{E:Entry}{m m':Mem}{b off:Nat}{μ:Own}{v:Value}{w:World}
theorem Rd.mono(h:Rd m b off v)(hle:Mem.le m m'):Rd m' b off v:=by
 obtain⟨c,T,fr,h1,h2⟩:=h;exact⟨c,T,fr,hle _ _ h1,h2⟩
theorem RdN.mono{vs:List Value}(h:RdN m b off vs)(hle:Mem.le m m'):RdN m' b off vs:=fun j v hv=>(h j v hv).mono hle
theorem Good.cell(h:Good E w m μ)(hr:Rd m b off v):w.cell? ⟨b,off,none⟩=some v:=by
 obtain⟨c,T,fr,h1,h2⟩:=hr;simp[World.cell?,h.sub _ _ h1,h2]
theorem Good.own(h:Good E w m μ){i:Nat}{r:Res}(hi:μ[i]?=some r):r.holds w:=h.holds r (List.mem_of_getElem? hi)
theorem cell_of_cells{cs:List Value}{T:TypeId}{fr:Nat×Nat}(h:w.heap[b]?=some (.cells cs.toArray T fr))(hv:cs[off]?=some v):w.cell? ⟨b,off,none⟩=some v:=by
 simp[World.cell?,h,hv]
def cut(cs:List Value)(off k:Nat):List Value:=(cs.drop off).take k
section
variable{E:Entry}{P:Program}{n:Nat}{K:Exit→St→Prop}{ρ:Env}{m:Mem}{μ:Own}{D:List Deferred}{ops:Array Oper}{rest:List Oper}
 {d:Nat}{ty:TypeId}{pos:String}{after:Array Edge}
structure FitsE (n:Nat) (ρ:Env) (a:Act):Prop where
 size:a.tmps.size=n
 get:∀t v,eget ρ t=some v→a.tmps[t]?=some v
variable{a:Act}{cs vs:List Value}{m':Mem}{k off:Nat}{v:Value}{w:World}
theorem FitsE.fits(h:FitsE n ρ a)(m:Mem)(μ:Own):Fits n ⟨ρ,m,μ,a.defers⟩ a:=⟨h.size,h.get,rfl⟩
theorem FitsE.ov{a:Act}(h:FitsE n ρ a){x:Operand}{v:Value}(hx:ov ρ x=some v):a.eval x=v:=(h.fits (fun _=>none) []).ov hx
theorem Fits.e(h:Fits n ⟨ρ,m,μ,D⟩ a):FitsE n ρ a:=⟨h.size,h.get⟩
def Rn(P:Program)(n:Nat)(ρ:Env)(o:Oper)(v:Value):Prop:=∀w a,FitsE n ρ a→(execOp a.eval o).run P w=.ok (.value v) w
def RnL(E:Entry)(P:Program)(n:Nat)(ρ:Env)(m:Mem)(μ:Own)(o:Oper)(v:Value):Prop:=∀w a,Good E w m μ→FitsE n ρ a→(execOp a.eval o).run P w=.ok (.value v) w
variable{dst:Option Nat}{gd:Option (Nat×Bool)}{T T':TypeId}{x y z:Operand}{i j:Int}
def loadV:Bool→List Value→Nat→Nat→Option Value
 |true,cs,off,k=>match Nat.ble (off+k) cs.length with
  |true=>some (.agg (cut cs off k).toArray)
  |false=>none
 |false,cs,off,_=>cs[off]?
theorem cut_get{j:Nat}(h:(cut cs off k)[j]?=some v):cs[off+j]?=some v:=by
 unfold cut at h;rw[List.getElem?_take] at h;split at h
 ·rw[List.getElem?_drop] at h;exact h
 ·cases h
theorem cut_length(h:off+k≤cs.length):(cut cs off k).length=k:=by
 unfold cut;simp;omega
theorem run_loadVar_cells{T:TypeId}{b:Nat}{ag:Bool}(ht:tk P T=some (ag,k))(hc:∀j u,cs[j]?=some u→w.cell? ⟨b,j,none⟩=some u)(hv:loadV ag cs off k=some v):
  (loadVar T ⟨b,off,none⟩).run P w=.ok v w:=by
 unfold tk at ht;split at ht
 ·rename_i dd ii hdd hii;simp only[Option.some.injEq,Prod.mk.injEq] at ht;obtain⟨h1,h2⟩:=ht;cases ag with
  |true=>
   simp only[loadV] at hv;split at hv
   ·rename_i hle;simp only[Option.some.injEq] at hv;subst hv;have hle':off+k≤cs.length:=Nat.le_of_ble_eq_true hle;have hl:(loadCells ⟨b,off,none⟩ k).run P w=.ok (cut cs off k).toArray w:=by
     have:=run_loadCells_list (P:=P) w ⟨b,off,none⟩ (cut cs off k) (fun j u hu=>by rw[Addr.add_lit];exact hc _ _ (cut_get hu))
     rwa [cut_length hle'] at this
    have hagg:(isAgg T).run P w=.ok true w:=by
     unfold isAgg;cases dd<;>simp[isAggD] at h1<;>simp[run_underlying hdd]
    simp[loadVar,hagg,sizeOf,typeInfo,hii,h2,hl]
   ·cases hv
  |false=>
   simp only[loadV] at hv;have hagg:(isAgg T).run P w=.ok false w:=by
    unfold isAgg;cases dd<;>simp[isAggD] at h1<;>simp[run_underlying hdd]
   simp[loadVar,hagg,load,Sem.run,hc _ _ hv]
 ·cases ht
theorem split_at{α:Type}{l:List α}{q:Nat}{r:α}(h:l[q]?=some r):∃l1 l2,l=l1++r::l2∧l1.length=q:=by
 have hlt:=(List.getElem?_eq_some_iff.1 h).1;refine⟨l.take q,l.drop (q+1),?_,by simp;omega⟩
 have he:=(List.getElem?_eq_some_iff.1 h).2
 conv=>lhs;rw[←List.take_append_drop q l]
 rw[List.drop_eq_getElem_cons hlt,he]
def upd(cs:List Value)(off:Nat)(vs:List Value):List Value:=cs.take off++(vs++cs.drop (off+vs.length))
theorem upd_get(h:off+vs.length≤cs.length)(j:Nat):(upd cs off vs)[j]?=if j<off then cs[j]? else if j<off+vs.length then vs[j-off]? else cs[j]?:=by
 unfold upd
 by_cases h1:j<off
 ·rw[if_pos h1,List.getElem?_append_left (by simp;omega),List.getElem?_take,if_pos h1]
 ·rw[if_neg h1,List.getElem?_append_right (by simp;omega)]
  have hl:(cs.take off).length=off:=by simp;omega
  rw[hl]
  by_cases h2:j<off+vs.length
  ·rw[if_pos h2,List.getElem?_append_left (by omega)]
  ·rw[if_neg h2,List.getElem?_append_right (by omega),List.getElem?_drop]
   congr 1
   omega
theorem upd_length(h:off+vs.length≤cs.length):(upd cs off vs).length=cs.length:=by
 unfold upd;simp;omega
theorem upd_cons(h:off+(v::vs).length≤cs.length):upd cs off (v::vs)=upd (cs.set off v) (off+1) vs:=by
 simp only[List.length_cons] at h;apply List.ext_getElem?
 intro j;rw[upd_get (by simp;omega),upd_get (by simp;omega),List.getElem?_set]
 simp only[List.length_cons]
 by_cases h1:j<off
 ·rw[if_pos h1,if_pos (by omega),if_neg (by omega)]
 ·rw[if_neg h1]
  by_cases h2:j=off
  ·subst h2;rw[if_pos (by omega),if_pos (by omega),if_pos rfl,if_pos (by omega)]
   simp
  ·by_cases h3:j<off+(vs.length+1)
   ·rw[if_pos h3,if_neg (by omega),if_pos (by omega)]
    have:j-off=(j-(off+1))+1:=by omega
    rw[this];simp
   ·rw[if_neg h3,if_neg (by omega),if_neg (by omega),if_neg (by omega)]
theorem foldl_upd(off:Nat):∀(vs:List Value) (j:Nat) (cs:List Value),off+j+vs.length≤cs.length →
  (vs.zipIdx j).foldl (fun(a:Array Value) (p:Value×Nat)=>a.setIfInBounds (off+p.2) p.1) cs.toArray=(upd cs (off+j) vs).toArray
 |[],j,cs,h=>by simp[upd]
 |v::vs,j,cs,h=>by
  have h0:off+(j+1)+vs.length≤(cs.set (off+j) v).length:=by simp only[List.length_set,List.length_cons] at h⊢;omega
  have ih:=foldl_upd off vs (j+1) (cs.set (off+j) v) h0;rw[upd_cons h];simp only[List.zipIdx_cons,List.foldl_cons,List.setIfInBounds_toArray];exact ih
def fillL(place:Nat→Option (Nat×Nat))(cs:List Value):List (Nat×Value)→Option (List Value)
 |[]=>some cs
 |(i,v)::r=>match place i with
  |some (off,size)=>match Nat.beq v.cells.toList.length size,Nat.ble (off+size) cs.length with
   |true,true=>fillL place (upd cs off v.cells.toList) r
   |_,_=>none
  |none=>none
theorem fill_of_fillL(place:Nat→Option (Nat×Nat)):∀(parts:List (Nat×Value)) (cs cs':List Value),fillL place cs parts=some cs'→Instr.fill place cs.toArray parts=some cs'.toArray
 |[],cs,cs',h=>by simp[fillL] at h;simp[Instr.fill,h]
 |(i,v)::r,cs,cs',h=>by
  simp only[fillL] at h;split at h
  ·rename_i off size hp;split at h
   ·rename_i h1 h2;have e1:=Nat.eq_of_beq_eq_true h1;have e2:=Nat.le_of_ble_eq_true h2;have ih:=fill_of_fillL place r _ cs' h;have hs:v.cells.size=size:=by rw[←e1];simp
    have hf:=foldl_upd off v.cells.toList 0 cs (by simp[hs];omega)
    rw[Instr.fill,hp];simp only[hs,ne_eq,not_true_eq_false,decide_false,Bool.false_or,List.size_toArray];rw[if_neg (by simp;omega)]
    simp only[Nat.add_zero] at hf;have hz:v.cells.zipIdx.foldl (fun(a:Array Value) (p:Value×Nat)=>a.setIfInBounds (off+p.2) p.1) cs.toArray=(upd cs off v.cells.toList).toArray:=by
     rw[←hf,←Array.foldl_toList];simp
    exact(congrArg (fun z=>Instr.fill place z r) hz).trans ih
   ·cases h
  ·cases h
def ovp(ρ:Env):List (Nat×Operand)→Option (List (Nat×Value))
 |[]=>some []
 |(i,x)::r=>match ov ρ x,ovp ρ r with
  |some v,some l=>some ((i,v)::l)
  |_,_=>none
def ovs(ρ:Env):List Operand→Option (List Value)
 |[]=>some []
 |x::r=>match ov ρ x,ovs ρ r with
  |some v,some l=>some (v::l)
  |_,_=>none
theorem Fits.ovp{s:St}{a:Act}(h:Fits n s a):∀{xs:List (Nat×Operand)}{vs:List (Nat×Value)},ovp s.ρ xs=some vs→xs.map (fun p=>(p.1,a.eval p.2))=vs
 |[],vs,e=>by simp[Gw.ovp] at e;simp[e]
 |(i,x)::r,vs,e=>by
  simp only[Gw.ovp] at e;split at e
  ·rename_i v l h1 h2;simp only[Option.some.injEq] at e;subst e;simp[h.ov h1,Fits.ovp h h2]
  ·cases e
theorem Fits.ovs{s:St}{a:Act}(h:Fits n s a):∀{xs:List Operand}{vs:List Value},ovs s.ρ xs=some vs→xs.map a.eval=vs
 |[],vs,e=>by simp[Gw.ovs] at e;simp[e]
 |x::r,vs,e=>by
  simp only[Gw.ovs] at e;split at e
  ·rename_i v l h1 h2;simp only[Option.some.injEq] at e;subst e;simp[h.ov h1,Fits.ovs h h2]
  ·cases e
theorem mapM_places{fs:List Field}{pl:List (Nat×Nat)}(h:fs.mapM (fun f=>(P.info? f.type).map fun i=>(f.offset,i.size))=some pl)(w:World):
  (fs.mapM (m:=Sem) fun f=>do pure (f.offset,←sizeOf f.type)).run P w=.ok pl w:=by
 induction fs generalizing pl with
 |nil=>simp at h;subst h;simp[Sem.run]
 |cons f fs ih=>
  rw[List.mapM_cons] at h⊢;cases hi:P.info? f.type with
  |none=>simp[hi] at h
  |some ii=>
   cases hr:fs.mapM (fun f=>(P.info? f.type).map fun i=>(f.offset,i.size)) with
   |none=>simp[hi,hr] at h
   |some l=>
    simp[hi,hr] at h;subst h;have h1:(sizeOf f.type).run P w=.ok ii.size w:=by simp[sizeOf,typeInfo,hi]
    simp only[Sem.run_bind,h1,Result.andThen_ok,Sem.run_pure,ih hr]
theorem append_foot(t ty e:TypeId)(i:TypeInfo)(z:Value)(size bytes:Nat)(ht:P.underlying t=some (.slice e))(hi:P.info? e=some i)(hz:i.zero=some z)
  (hsize:i.size=size) (hby:i.bytes=bytes) (v:Value) (n0:Nat) (xs:List Value) (hown:w.ownsRow 0 e size v n0 xs)
  (a:Addr) (m0 c:Nat) (news:List Value) (hl:news.length=m0*size) (hnews:∀j u,news[j]?=some u→w.cell? (a.add j)=some u) (h1:∀u∈news,u.oneCell'=true)
  (h63:n0+m0≤maxLen) (hbytes:(n0+m0)*bytes≤140737488355328) {v':Value}{w':World}(hr:(Builtin.append_ #[t,t] ty #[v,.slice (some a) m0 c]).run P w=.ok v' w')
  (b:Nat) (hb:v'.ownBlock=some b):v.ownBlock=some b∨w.heap.size≤b:=by
 subst hsize;subst hby;have hsmall:n0+m0≤9223372036854775807:=by simp only[maxLen] at h63;omega
 rcases hown.2 with⟨rfl,rfl⟩|⟨g,cap,cur,rfl,hbg,hg,hnc,hcm,hcs,htake⟩
 ·by_cases hm:m0=0
  ·subst hm;have hn:news=[]:=List.eq_nil_of_length_eq_zero (by simpa using hl)
   subst hn;simp[Builtin.append_,run_underlying ht,sizeOf,typeInfo,hi,Builtin.lenOf,Builtin.firstCells,loadCells,loadCellsFrom] at hr;obtain⟨rfl,_⟩:=hr;simp[Value.ownBlock] at hb
  ·have h:=run_append_nil (P:=P) w t ty e i z ht hi hz a m0 c news hl hnews (by omega) (by omega) (by have hb:=hbytes;simp only[Nat.zero_add] at hb;omega)
   rw[h] at hr;simp only[Result.ok.injEq] at hr;rw[←hr.1] at hb;simp[Value.ownBlock] at hb;exact .inr (by omega)
 ·by_cases hroom:n0+m0≤cap
  ·have hfit:n0*i.size+news.length≤cur.size:=by rw[hl,hcs,←Nat.add_mul];exact Nat.mul_le_mul_right _ hroom
   have h:=run_append_room (P:=P) w t ty e i ht hi g n0 cap cur hg a m0 c news hl hnews h1 hroom hfit;rw[h] at hr;simp only[Result.ok.injEq] at hr;rw[←hr.1] at hb;exact .inl hb
  ·have holds:∀j u,xs[j]?=some u→w.cell? ((⟨g,0,none⟩:Addr).add j)=some u:=hown.cells (g:=g) rfl;have h:=run_append_grow (P:=P) w t ty e i z ht hi hz ⟨g,0,none⟩ n0 cap xs hown.1 holds a m0 c news hl hnews (by omega) (by omega) (growslice_fits (by omega) hbytes)
   rw[h] at hr;simp only[Result.ok.injEq] at hr;rw[←hr.1] at hb;simp[Value.ownBlock] at hb;exact .inr (by omega)
def putU(dst:Option Nat)(ρ:Env):Env:=match dst with
 |some d=>(d,undef)::ρ
 |none=>ρ
def dOk(dst:Option Nat)(n:Nat):Bool:=match dst with
 |some d=>Nat.blt d n
 |none=>true
def callable(P:Program)(f:FuncId):Bool:=match P.funcs[f]? with
 |some fn=>fn.body.isSome && !(fn.name == "runtime.NumGoroutine")
 |none=>false
def Ret(Q:Value→Mem→Own→Prop):Ending→Mem→Own→Prop
 | .returned v,m,μ=>Q v m μ
 |_,_,_=>False
def argEnv:Nat→List Value→Env
 |_,[]=>[]
 |i,v::r=>(i,v)::argEnv (i+1) r
def Fin(m:Mem)(μ:Own)(Q:Mem→Own→Prop):Prop:=∀E w,Good E w m μ→∃m' μ',Good E w m' μ'∧Q m' μ'
def RowAt(m:Mem)(a:Option Addr)(xs:List Value):Prop:=xs=[]∨∃b,a=some ⟨b,0,none⟩∧RdN m b 0 xs
theorem RowAt.mono{m:Mem}{a:Option Addr}{xs:List Value}(h:RowAt m a xs)(hle:Mem.le m m'):RowAt m' a xs:=by
 rcases h with h|⟨b,h1,h2⟩
 ·exact .inl h
 ·exact .inr ⟨b,h1,h2.mono hle⟩
inductive ResIs (P:Program) (s:St):ResultVar→Value→Prop where
 |tmp {t:Nat}{v:Value}:eget s.ρ t=some v→ResIs P s (.tmp t) v
 |cell {t q b off c:Nat}{T T':TypeId}{ag:Bool}{cs:List Value}{v:Value}:eget s.ρ t=some (.pointer (some ⟨b,off,none⟩))→s.μ[q]?=some (bx b T' cs)→tk P T=some (ag,c)→loadV ag cs off c=some v→ResIs P s (.cell t T) v
inductive ResAre (P:Program) (s:St):List ResultVar→List Value→Prop where
 |nil:ResAre P s [] []
 |cons {r:ResultVar}{v:Value}{rs:List ResultVar}{vs:List Value}:ResIs P s r v→ResAre P s rs vs→ResAre P s (r::rs) (v::vs)
def tup:List Value→Value
 |[v]=>v
 |vs=>.tuple vs.toArray
def resM(tmps:Array Value):ResultVar→Sem Value
 | .tmp t=>pure (tmps.getD t undef)
 | .cell x t=>do loadVar t (←asAddr (tmps.getD x undef))
def Kbody(P:Program)(fn:Func)(Post:Ending→Mem→Own→Prop):Exit→St→Prop
 | .normal,s | .ret,s=>s.D=[]∧∃vs,ResAre P s fn.results.toList vs∧Fin s.m s.μ (Post (.returned (tup vs)))
 | .panic ch,s=>s.D=[]∧Fin s.m s.μ (Post (.panicked ch))
 |_,_=>False
theorem Good.forget(h:Good E w m' μ)(hle:Mem.le m m')(hm:Mem.le E.m m):Good E w m μ:=
 ⟨h.os,h.tape,h.output,h.size,h.keep,fun b o e=>h.sub b o (hle b o e),hm,fun b o e=>h.fresh b o (hle b o e),h.holds,fun r hr b hb=>⟨(h.feet r hr b hb).1,by
  cases e:m b with
  |none=>rfl
  |some o=>
   have:=hle b o e;rw[(h.feet r hr b hb).2] at this;cases this⟩,h.apart⟩
theorem Cspec.forget{f:FuncId}{args:Array Value}{Q:Value→Own→Prop}(h:Cspec P f args m μ (Ret fun v _ μ'=>Q v μ')):Cspec P f args m μ (Ret fun v m' μ'=>Q v μ'∧m'=m):=fun w hg=>
 (h w hg).mono fun e w' ⟨m',μ',hg',hq⟩=>by
  cases e with
  |returned v=>exact⟨m,μ',hg'.forget hg'.mem (Mem.le.refl m),hq,rfl⟩
  |panicked c=>exact hq.elim
  |outgrown=>exact hq.elim
def Scal(P:Program)(f:FuncId)(args:Array Value)(m:Mem)(v:Value):Prop:=Cspec P f args m [] (Ret fun u m' _=>u=v∧m'=m)
end
end Go.Gw
