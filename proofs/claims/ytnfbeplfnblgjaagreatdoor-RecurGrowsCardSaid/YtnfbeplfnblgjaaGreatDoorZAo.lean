/- Operations of the plain machine that ask nothing of the store: the model's do the same. Plain lemmas, no statement of the seat. -/
import Derived.Test.YtnfbeplfnblgjaaGreatDoorZAr
set_option linter.all false
namespace Go.Am
open Go Go.Hb
open Go.Gw (tk tf tz tsl tar tpl isAggD)
variable{α β:Type}
theorem qrun_run{P:Program}(w:World):∀{s:Sem α}{a:α},qrun P s=some a→s.run P w=.ok a w:=by
 intro s
 induction s with
 |pure b=>intro a h;simp[qrun] at h;subst h;simp[Sem.run]
 |program k ih=>intro a h;simp only[qrun] at h;simp only[Sem.run];exact ih P h
 |mark m k ih=>intro a h;simp only[qrun] at h;simp only[Sem.run];exact ih h
 |_=>intro a h;simp[qrun] at h
theorem mapO_cons{f:α→Option β}{x:α}{l:List α}{r:List β}(h:mapO f (x::l)=some r):∃y r',r=y::r'∧f x=some y∧mapO f l=some r':=by
 simp only[mapO] at h;cases hf:f x with
 |none=>simp[hf] at h
 |some y=>
  cases hl:mapO f l with
  |none=>simp[hf,hl] at h
  |some r'=>simp[hf,hl] at h;exact⟨y,r',h.symm,rfl,rfl⟩
theorem mapO_length{α β:Type}{f:α→Option β}:∀{l:List α}{r:List β},mapO f l=some r→r.length=l.length
 |[],r,h=>by simp[mapO] at h;subst h;rfl
 |x::l,r,h=>by
  obtain⟨y,r',rfl,_,h2⟩:=mapO_cons h;simp[mapO_length h2]
theorem mapO_get{α β:Type}{f:α→Option β}:∀{l:List α}{r:List β},mapO f l=some r→∀(i:Nat) x,l[i]?=some x→∃y,r[i]?=some y∧f x=some y
 |[],r,h,i,x,hx=>by simp at hx
 |z::l,r,h,i,x,hx=>by
  obtain⟨y,r',rfl,hy,hl⟩:=mapO_cons h;cases i with
  |zero=>simp at hx;subst hx;exact⟨y,rfl,hy⟩
  |succ i=>simpa using mapO_get hl i x (by simpa using hx)
theorem mapO_back{f:α→Option β}{l:List α}{r:List β}(h:mapO f l=some r){i:Nat}{y:β}(hy:r[i]?=some y):∃x,l[i]?=some x∧f x=some y:=by
 have hi:=(List.getElem?_eq_some_iff.1 hy).1;rw[mapO_length h] at hi;obtain⟨y',h1,h2⟩:=mapO_get h i l[i] (List.getElem?_eq_getElem hi);rw[hy] at h1;cases h1;exact⟨_,List.getElem?_eq_getElem hi,h2⟩
section
variable{P:Program}{m:Mem}{φ:Ph}{ρ:AEnv}{a:Act}{w:World}
variable{op:BinOp}{r:Bool}{xs:List PV}{q sz:Nat}{x y:Operand}{u:PV}{T d s:TypeId}{v:Value}
theorem ofCell_R{x:PV}(h:ofCell v=some x):R m φ x v∧cell x=true:=by
 unfold ofCell at h;split at h
 ·cases h;exact⟨.sl (xs:=[]) 0 0 (fun _=>[]) (fun e=>absurd rfl e) (Nat.le_refl _) (by decide) (fun _=>rfl) (fun i x hx=>by simp at hx) (fun i x j c v hx=>by simp at hx) (fun _ _=>rfl),rfl⟩
 ·split at h
  ·rename_i hs;cases h;exact⟨.sc hs,rfl⟩
  ·cases h
theorem ofCells_R{vs:List Value}{cs:List PV}(h:mapO ofCell vs=some cs):Rl m φ cs vs∧cs.all cell=true:=by
 refine⟨⟨mapO_length h,fun i c v hc hv=>?_⟩,List.all_eq_true.2 fun c hc=>?_⟩
 ·obtain⟨y,h1,h2⟩:=mapO_get h i v hv;rw[hc] at h1;cases h1;exact(ofCell_R h2).1
 ·obtain⟨i,hi⟩:=List.getElem?_of_mem hc;obtain⟨v,_,h2⟩:=mapO_back h hi;exact(ofCell_R (m:=m) (φ:=φ) h2).2
theorem ofVal_R{x:PV}(h:ofVal v=some x):R m φ x v:=by
 unfold ofVal at h;split at h
 ·rename_i cs;cases hc:mapO ofCell cs.toList with
  |none=>simp[hc] at h
  |some l=>
   simp only[hc,Option.map_some,Option.some.injEq] at h;subst h;obtain⟨h1,h2⟩:=ofCells_R (m:=m) (φ:=φ) hc;have:=R.ag h1.1 h2 h1.2;simpa using this
 ·exact(ofCell_R h).1
theorem R.sc_eq{u:Value}(h:R m φ (.sc v) u):u=v:=by cases h;rfl
theorem scOf_eq{x:PV}{u:Value}(h:scOf x=some v)(hr:R m φ x u):u=v:=by
 unfold scOf at h;split at h
 ·cases h;exact hr.sc_eq
 ·cases h
theorem toVal_eq{x:PV}{u:Value}(h:toVal x=some v)(hr:R m φ x u):u=v:=by
 unfold toVal at h;split at h
 ·cases h;exact hr.sc_eq
 ·rename_i cs;cases hc:mapO scOf cs with
  |none=>simp[hc] at h
  |some l=>
   simp only[hc,Option.map_some,Option.some.injEq] at h;subst h;cases hr with
   | @ag _ _ vs hl _ hi=>
    have:l=vs:=by
     apply List.ext_getElem?
     intro i;cases hv:vs[i]? with
     |none=>
      have:vs.length≤i:=List.getElem?_eq_none_iff.1 hv;exact List.getElem?_eq_none_iff.2 (by rw[mapO_length hc];omega)
     |some v=>
      have hi':=(List.getElem?_eq_some_iff.1 hv).1;obtain⟨y,h1,h2⟩:=mapO_get hc i cs[i] (List.getElem?_eq_getElem (by omega))
      rw[h1,scOf_eq h2 (hi i _ v (List.getElem?_eq_getElem (by omega)) hv)]
    rw[this]
 ·cases h
def EnvR(m:Mem)(φ:Ph)(ρ:AEnv)(a:Act):Prop:=∀t x,aget ρ t=some x→∃v,a.tmps[t]?=some v∧R m φ x v
def MemW(m:Mem)(w:World):Prop:=∀b o v,m b o=some v→w.cell? ⟨b,o,none⟩=some v
theorem EnvR.mono{m':Mem}{φ':Ph}(h:EnvR m φ ρ a)(hm:Mem.le m m')(hle:Le φ φ'):EnvR m' φ' ρ a:=fun t x ht=>by
 obtain⟨v,h1,h2⟩:=h t x ht;exact⟨v,h1,h2.mono hm hle⟩
theorem aval_R(h:EnvR m φ ρ a)(hx:aval ρ x=some u):R m φ u (a.eval x):=by
 cases x with
 |tmp t=>
  obtain⟨v,h1,h2⟩:=h t u hx;simpa[Act.eval,h1] using h2
 |const v=>simpa[Act.eval] using ofVal_R (m:=m) (φ:=φ) (show ofVal v=some u from hx)
 |global g=>simp[aval] at hx
 |func f=>
  simp only[aval,Option.some.injEq] at hx;subst hx;exact .fn (us:=[]) (vs:=[]) rfl rfl (fun i c v h=>by simp at h) (fun i c v h=>by simp at h)
theorem avals_R(h:EnvR m φ ρ a){xs:List Operand}{us:List PV}(hx:mapO (aval ρ) xs=some us):Rl m φ us (xs.map a.eval):=by
 refine⟨by rw[mapO_length hx];simp,fun i c v hc hv=>?_⟩
 obtain⟨x,h1,h2⟩:=mapO_back hx hc;rw[List.getElem?_map,h1] at hv;simp only[Option.map_some,Option.some.injEq] at hv;subst hv;exact aval_R h h2
def Does(P:Program)(w:World)(a:Act)(m:Mem)(φ:Ph)(o:Oper)(x:PV):Prop:=∃v,(execOp a.eval o).run P w=.ok (.value v) w∧R m φ x v
variable{dst:Option Nat}{ty:TypeId}{pos:String}{after:Array Edge}{gd:Option (Nat×Bool)}
theorem nat_int{x:PV}(h:nat? x=some q)(hr:R m φ x v):∃k,v=.int k (q:Int):=by
 unfold nat? at h;split at h
 ·split at h
  ·cases h;exact⟨_,hr.sc_eq⟩
  ·cases h
 ·cases h
theorem ptr_some{x:PV}(h:isPtr x=true)(hr:R m φ x v):∃b o,v=.pointer (some ⟨b,o,none⟩):=by
 cases hr with
 |bp=>exact⟨_,_,rfl⟩
 |rp _ _ _ hp=>exact hp
 |cp=>exact⟨_,_,rfl⟩
 |ci=>exact⟨_,_,rfl⟩
 |_=>simp[isPtr] at h
theorem does_move(h:EnvR m φ ρ a)(hx:aval ρ x=some u):Does P w a m φ ⟨dst,.move x,ty,pos,after,gd⟩ u:=⟨a.eval x,by simp[execOp],aval_R h hx⟩
theorem does_assign(h:EnvR m φ ρ a)(hx:aval ρ x=some u):Does P w a m φ ⟨dst,.assign x,ty,pos,after,gd⟩ u:=⟨a.eval x,by simp[execOp],aval_R h hx⟩
theorem does_pick{c:Operand}(h:EnvR m φ ρ a)(hx:aPick ρ c x y=some u):Does P w a m φ ⟨dst,.pick c x y,ty,pos,after,gd⟩ u:=by
 unfold aPick at hx;split at hx
 ·rename_i b hc;have he:=(aval_R h hc).sc_eq;cases b with
  |true=>exact⟨a.eval x,by simp[execOp,he,asBool],aval_R h hx⟩
  |false=>exact⟨a.eval y,by simp[execOp,he,asBool],aval_R h hx⟩
 ·cases hx
theorem does_nil(h:EnvR m φ ρ a)(hx:aNil ρ x=some u):Does P w a m φ ⟨dst,.nilCheck x,ty,pos,after,gd⟩ u:=by
 unfold aNil at hx;split at hx
 ·rename_i p hp;split at hx
  ·rename_i hi;cases hx;have hr:=aval_R h hp;obtain⟨b,o,he⟩:=ptr_some hi hr;exact⟨_,by simp[execOp,he],he▸hr⟩
  ·cases hx
 ·cases hx
theorem does_extract{i:Nat}(h:EnvR m φ ρ a)(hx:aExtract ρ x i=some u):Does P w a m φ ⟨dst,.extract x i,ty,pos,after,gd⟩ u:=by
 unfold aExtract at hx;split at hx
 ·rename_i vs hv;have hr:=aval_R h hv;generalize he:a.eval x=ev at hr;cases hr with
  |tu hl hi=>
   rename_i ws;obtain⟨v,h1,h2⟩:=Rl.get ⟨hl,hi⟩ hx;exact⟨v,by simp[execOp,he,Instr.extract,h1],h2⟩
 ·cases hx
theorem int_bin{i j:Int}(h:intBin op .i64 i j=some u):∃v,(do eqGuard op T x y (.int .i64 i) (.int .i64 j);binOp op T (.int .i64 i) (.int .i64 j):Sem Value).run P w=.ok v w∧R m φ u v:=by
 unfold intBin at h;split at h<;>first
  |(cases h;refine⟨_,?_,.sc rfl⟩;simp[eqGuard,binOp,Op.intArith];done)
  |(cases h;refine⟨_,?_,.sc rfl⟩;simp[eqGuard,binOp,Op.intCmp];done)
  |(cases h;refine⟨_,?_,.sc rfl⟩;simp[eqGuard,binOp,Op.intCmp];rfl)
  |cases h
theorem equal_once{d:TypeDesc}{u:Value}(hT:P.underlying T=some d)
  (h:(d,u,v)=(d,u,v)→(match d,u,v with
   | .pointer _,.pointer none,.pointer b=>some b.isNone
   | .pointer _,.pointer _,.pointer none=>some false
   | .interface _,.nilIface,.iface _ _ | .interface _,.iface _ _,.nilIface=>some false
   | .func _ _ _,.func _ _ _,.nilFunc=>some false
   | .slice _,.slice none _ _,.slice none 0 0=>some true
   | .slice _,.slice (some _) _ _,.slice none 0 0=>some false
   |_,_,_=>none)=some r):(Op.equal T u v).run P w=.ok r w:=by
 have h:=h rfl;unfold Op.equal;rw[show Op.maxDepth=(Op.maxDepth-1)+1 from rfl]
 generalize Op.maxDepth-1=k;rw[Op.equalIn];simp only[Sem.run_bind,run_underlying hT,Result.andThen_ok];split at h<;>first
  |(cases h;simp only[Sem.run_pure];done)
  |(cases h;simp[Sem.run_pure];done)
  |(cases h)
theorem eqNil_run{x y:PV}{u:Value}(h:eqNil P T x y=some r)(hx:R m φ x u)(hy:R m φ y v)(X Y:Operand)(op:BinOp):(eqGuard op T X Y u v).run P w=.ok () w∧(Op.equal T u v).run P w=.ok r w ∧
  (∀k i,u≠.int k i)∧(∀s,u≠.string s)∧(∀k i,u≠.float k i)∧(∀k i j,u≠.complex k i j):=by
 unfold eqNil at h;split at h
 ·rename_i e hT;split at h
  ·rename_i hb;cases h;have key:(∃b o,u=.pointer (some ⟨b,o,none⟩)∧v=.pointer none)∨(∃b o,v=.pointer (some ⟨b,o,none⟩)∧u=.pointer none):=by
    simp only[Bool.or_eq_true,Bool.and_eq_true] at hb;have hn:∀{z:PV}{t:Value},isNil z=true→R m φ z t→t=.pointer none:=fun{z t} h1 h2=>by
     unfold isNil at h1;split at h1
     ·exact h2.sc_eq
     ·cases h1
    rcases hb with⟨h1,h2⟩|⟨h1,h2⟩
    ·obtain⟨b,o,rfl⟩:=ptr_some h1 hx;exact .inl ⟨b,o,rfl,hn h2 hy⟩
    ·obtain⟨b,o,rfl⟩:=ptr_some h1 hy;exact .inr ⟨b,o,rfl,hn h2 hx⟩
   rcases key with⟨b,o,rfl,rfl⟩|⟨b,o,rfl,rfl⟩
   ·exact⟨by cases op<;>simp[eqGuard],equal_once hT (fun _=>rfl),by simp,by simp,by simp,by simp⟩
   ·exact⟨by cases op<;>simp[eqGuard],equal_once hT (fun _=>rfl),by simp,by simp,by simp,by simp⟩
  ·cases h
 ·rename_i ms hT;split at h
  ·cases h;cases hx;cases hy.sc_eq;exact⟨by cases op<;>simp[eqGuard],equal_once hT (fun _=>rfl),by simp,by simp,by simp,by simp⟩
  ·cases h;cases hy;cases hx.sc_eq;exact⟨by cases op<;>simp[eqGuard],equal_once hT (fun _=>rfl),by simp,by simp,by simp,by simp⟩
  ·cases h
 ·rename_i hT;split at h
  ·cases h;cases hx;cases hy.sc_eq;exact⟨by cases op<;>simp[eqGuard],equal_once hT (fun _=>rfl),by simp,by simp,by simp,by simp⟩
  ·cases h
 ·rename_i e hT;have hnl:∀{v:Value},R m φ (.sl true 0 []) v→v=.slice none 0 0:=fun hv=>by
   cases hv with
   |sl b off g ha hcap hmax hfull hel hr hnil=>
    have h1:=hfull rfl;have h2:=hnil rfl rfl;subst h2;simp only[List.length_nil] at h1;subst h1;rfl
  split at h
  ·rename_i f sz xs;cases hnl hy;split at h
   ·split at h
    ·rename_i hb;rw[Bool.and_eq_true] at hb;cases h;have hz:=Nat.eq_of_beq_eq_true hb.2;rw[hb.1,hz] at hx;cases hnl hx;exact⟨by cases op<;>simp[eqGuard],equal_once hT (fun _=>rfl),by simp,by simp,by simp,by simp⟩
    ·cases h
   ·rename_i hne;cases h;cases hx with
    |sl b off g ha hcap hmax hfull hel hr hnil=>
     rw[ha hne];exact⟨by cases op<;>simp[eqGuard],equal_once hT (fun _=>rfl),by simp,by simp,by simp,by simp⟩
  ·cases h
 ·cases h
theorem does_bin{U:TypeId}(h:EnvR m φ ρ a)(hx:aBin P ρ op T x y=some u):Does P w a m φ ⟨dst,.binOp op T x y U,ty,pos,after,gd⟩ u:=by
 unfold aBin at hx;split at hx
 ·rename_i p q hp hq;have rp:=aval_R h hp;have rq:=aval_R h hq;have fin:∀{v:Value},(do eqGuard op T x y (a.eval x) (a.eval y);binOp op T (a.eval x) (a.eval y):Sem Value).run P w=.ok v w→R m φ u v→Does P w a m φ ⟨dst,.binOp op T x y U,ty,pos,after,gd⟩ u:=fun h1 h2=>by
   refine⟨_,?_,h2⟩;simp only[execOp];rw[Sem.run_bind,h1];simp
  split at hx
  ·rename_i v hf;cases hx;unfold fastBin at hf;split at hf
   ·have e1:=rp.sc_eq;have e2:=rq.sc_eq;obtain⟨v',h1,h2⟩:=int_bin (P:=P) (m:=m) (φ:=φ) (w:=w) (T:=T) (x:=x) (y:=y) hf;rw[←e1,←e2] at h1;exact fin h1 h2
   ·cases hf
  ·unfold slowBin at hx;split at hx
   ·rename_i v1 v2 h1 h2;have e1:=toVal_eq h1 rp;have e2:=toVal_eq h2 rq;cases hq:qrun P (do eqGuard op T x y v1 v2;binOp op T v1 v2) with
    |none=>simp[hq] at hx
    |some r=>
     rw[hq] at hx;have hr:=qrun_run w hq;rw[←e1,←e2] at hr;exact fin hr (ofVal_R hx)
   ·unfold nilBin at hx;split at hx
    ·cases he:eqNil P T p q with
     |none=>simp[he] at hx
     |some r=>
      simp only[he,Option.map_some,Option.some.injEq] at hx;subst hx;obtain⟨h1,h2,h3,h4,h5,h6⟩:=eqNil_run (w:=w) he rp rq x y .eql;refine fin (v:=.bool r) ?_ (.sc rfl);rw[Sem.run_bind,h1];simp only[Result.andThen_ok];generalize a.eval x=ex at h1 h2 h3 h4 h5 h6;generalize a.eval y=ey at h1 h2;unfold binOp;split<;>first
       |(simp_all;done)
       |(simp only[Sem.run_bind,h2,Result.andThen_ok,Sem.run_pure];done)
       |(exfalso;simp_all;done)
    ·cases he:eqNil P T p q with
     |none=>simp[he] at hx
     |some r=>
      simp only[he,Option.map_some,Option.some.injEq] at hx;subst hx;obtain⟨h1,h2,h3,h4,h5,h6⟩:=eqNil_run (w:=w) he rp rq x y .neq;refine fin (v:=.bool !r) ?_ (.sc rfl);rw[Sem.run_bind,h1];simp only[Result.andThen_ok];generalize a.eval x=ex at h1 h2 h3 h4 h5 h6;generalize a.eval y=ey at h1 h2;unfold binOp;split<;>first
       |(simp_all;done)
       |(simp only[Sem.run_bind,h2,Result.andThen_ok,Sem.run_pure];done)
       |(exfalso;simp_all;done)
    ·cases hx
 ·cases hx
theorem does_un{op:UnOp}(h:EnvR m φ ρ a)(hx:aUn P ρ op x=some u):Does P w a m φ ⟨dst,.unOp op T x,ty,pos,after,gd⟩ u:=by
 unfold aUn at hx;split at hx
 ·rename_i v hv;have e:=(aval_R h hv).sc_eq;cases hq:qrun P (Op.unary op v) with
  |none=>simp[hq] at hx
  |some r=>
   rw[hq] at hx;exact⟨r,by simp[execOp,e,qrun_run w hq],ofVal_R hx⟩
 ·cases hx
theorem strT_R(h:strT P T=true):P.underlying T=some .string:=by
 unfold strT at h;split at h
 ·assumption
 ·cases h
theorem bytesT_R(h:bytesT P T=true):∃e,P.underlying T=some (.slice e)∧P.underlying e=some (.int .u8):=by
 unfold bytesT at h;split at h
 ·rename_i e he;split at h
  ·exact⟨e,he,by assumption⟩
  ·cases h
 ·cases h
theorem u8Of_R{x:PV}{c:UInt8}(h:u8Of x=some c):x=.sc (.int .u8 (c.toNat:Int)):=by
 unfold u8Of at h;split at h
 ·split at h
  ·rename_i q;split at h
   ·rename_i hq;cases h;have hq':q<256:=by simpa[Nat.blt_eq] using hq
    have:(UInt8.ofNat q).toNat=q:=by simp[UInt8.toNat_ofNat'];omega
    rw[this];rfl
   ·cases h
  ·cases h
 ·cases h
theorem strB_R(h:strB P s d xs=some u):∃e l,P.underlying s=some (.slice e)∧P.underlying e=some (.int .u8)∧P.underlying d=some .string∧u=.sc (.string ⟨(l:List UInt8).toArray⟩)∧l.length=xs.length∧∀(i:Nat) x,xs[i]?=some x→∃c,l[i]?=some c∧x=.sc (.int .u8 (c.toNat:Int)):=by
 unfold strB at h;split at h
 ·rename_i hb;rw[Bool.and_eq_true] at hb;obtain⟨e,h1,h2⟩:=bytesT_R hb.1;obtain⟨l,h3,rfl⟩:=Option.map_eq_some_iff.1 h;refine⟨e,l,h1,h2,strT_R hb.2,rfl,mapO_length h3,fun i x hx=>?_⟩
  obtain⟨c,h4,h5⟩:=mapO_get h3 i x hx;exact⟨c,h4,u8Of_R h5⟩
 ·cases h
theorem strB_run{ad:Option Addr}{cap:Nat}(h:strB P s d xs=some u)(hc:xs≠[]→∃b off,ad=some ⟨b,off,none⟩∧∀(i:Nat) c,xs[i]?=some (.sc (.int .u8 ((c:UInt8).toNat:Int)))→w.cell? ⟨b,off+i,none⟩=some (.int .u8 (c.toNat:Int))):
  ∃b,(convert s d (.slice ad xs.length cap)).run P w=.ok (.string b) w∧u=.sc (.string b):=by
 obtain⟨e,l,h1,h2,h3,rfl,hl,hx⟩:=strB_R h;refine⟨_,?_,rfl⟩
 by_cases hn:xs=[]
 ·subst hn;have hl0:l=[]:=List.eq_nil_of_length_eq_zero (by simpa using hl)
  subst hl0;cases ad with
  |none=>exact run_convert_bytes_nil w s e h1 h2 _ _ d h3
  |some ad=>exact run_convert_bytes_back w s d e ad cap [] h1 h2 h3 (fun j hj=>by simp at hj)
 ·obtain⟨b,off,rfl,hcell⟩:=hc hn;rw[←hl];refine run_convert_bytes_back w s d e _ cap l h1 h2 h3 fun j hj=>?_
  obtain⟨x,hxj⟩:∃x,xs[j]?=some x:=⟨_,List.getElem?_eq_getElem (by omega)⟩
  obtain⟨c,hc1,rfl⟩:=hx j x hxj;rw[List.getElem?_eq_getElem hj] at hc1;cases hc1;rw[Addr.add_lit];exact hcell j _ hxj
theorem does_conv(hm:MemW m w)(h:EnvR m φ ρ a)(hx:aConv P ρ s d x=some u):Does P w a m φ ⟨dst,.convert s d x,ty,pos,after,gd⟩ u:=by
 unfold aConv at hx;split at hx
 ·cases hx
 split at hx
 ·rename_i v hv;have e:=(aval_R h hv).sc_eq;cases hq:qrun P (convert s d v) with
  |none=>simp[hq] at hx
  |some r=>
   rw[hq] at hx;exact⟨r,by simp[execOp,e,qrun_run w hq],ofVal_R hx⟩
 ·rename_i f sz xs hv;have hr:=aval_R h hv;generalize he:a.eval x=ev at hr;cases hr with
  | @sl _ _ _ _ ad cap b off g ha hcap hmax hfull hel hrr hnil=>
   obtain⟨b',h1,rfl⟩:=strB_run (w:=w) (ad:=ad) (cap:=cap) hx fun hne=>⟨b,off,ha hne,fun i c hxi=>by
    obtain⟨q1,q2,q3,q4⟩:=hel i _ hxi;have hs1:sz=1:=by simpa[PV.cells] using q1.symm
    subst hs1;obtain⟨v,hv⟩:∃v,(g i)[0]?=some v:=⟨_,List.getElem?_eq_getElem (by omega)⟩
    have:=hrr i _ 0 _ v hxi rfl hv;have hve:=this.sc_eq;subst hve;have:=q3 0 _ hv;rw[Nat.mul_one,Nat.add_zero] at this;exact hm _ _ _ this⟩
   exact⟨_,by simp[execOp,he,h1],.sc rfl⟩
 ·cases hx
theorem does_iface(h:EnvR m φ ρ a)(hx:aIface P ρ T x=some u):Does P w a m φ ⟨dst,.makeInterface T x,ty,pos,after,gd⟩ u:=by
 unfold aIface at hx;split at hx
 ·cases hx
 ·rename_i d hne hT;cases hv:aval ρ x with
  |none=>simp[hv] at hx
  |some v=>
   simp only[hv,Option.map_some,Option.some.injEq] at hx;subst hx;refine⟨_,?_,.ifc (aval_R h hv)⟩;have:(Instr.makeInterface T (a.eval x)).run P w=.ok (.iface T (a.eval x)) w:=by
    unfold Instr.makeInterface;simp only[Sem.run_bind,run_underlying hT,Result.andThen_ok];first
     |(simp;done)
     |(split<;>first |(rename_i ms;exact absurd rfl (hne ms)) |simp)
   simp[execOp,this]
 ·cases hx
theorem does_fn{f:Fn}{xs ys:Array Operand}(h:EnvR m φ ρ a)(hx:aFn ρ f xs ys=some u):Does P w a m φ ⟨dst,.makeFunc f xs ys,ty,pos,after,gd⟩ u:=by
 unfold aFn at hx;split at hx
 ·rename_i f;cases h1:mapO (aval ρ) xs.toList with
  |none=>simp[h1] at hx
  |some as=>
   cases h2:mapO (aval ρ) ys.toList with
   |none=>simp[h1,h2] at hx
   |some bs=>
    simp only[h1,h2,Option.some.injEq] at hx;subst hx;have r1:=avals_R h h1;have r2:=avals_R h h2;refine⟨_,?_,.fn r1.1 r2.1 r1.2 r2.2⟩;have e:∀zs:Array Operand,zs.map a.eval=(zs.toList.map a.eval).toArray:=fun zs=>by apply Array.ext';simp
    simp[execOp,Instr.makeFunc,e]
 ·cases hx
theorem run_bound{k:IntKind}{y:Nat}{code:BoundsCode}(e:v=.int k (q:Int))(hle:q≤y):(Instr.sliceBound v y code).run P w=.ok q w:=by
 subst e;have h1:(0:Int)≤(q:Int)∧(q:Int)≤(y:Int):=by omega
 simp[Instr.sliceBound,asIntOf,h1]
theorem optN_R{d:Nat}{x:Option PV}{v:Option Value}(h:optN d x=some q)(hr:∀p,x=some p→∃u,v=some u∧R m φ p u)(hn:x=none→v=none):(v=none∧q=d)∨∃k,v=some (.int k (q:Int)):=by
 cases x with
 |none=>simp[optN] at h;exact .inl ⟨hn rfl,h.symm⟩
 |some p=>
  obtain⟨u,rfl,hu⟩:=hr p rfl;obtain⟨k,rfl⟩:=nat_int (m:=m) (φ:=φ) (show nat? p=some q from h) hu
  exact .inr ⟨k,rfl⟩
theorem optV_R(h:EnvR m φ ρ a){x:Option Operand}{u:Option PV}(hx:optV ρ x=some u):(∀p,u=some p→∃v,x.map a.eval=some v∧R m φ p v)∧(u=none→x.map a.eval=none):=by
 cases x with
 |none=>simp[optV] at hx;subst hx;simp
 |some x=>
  simp only[optV] at hx;cases hv:aval ρ x with
  |none=>simp[hv] at hx
  |some v=>
   simp only[hv,Option.map_some,Option.some.injEq] at hx;subst hx;exact⟨fun p hp=>by cases hp;exact⟨_,rfl,aval_R h hv⟩,fun e=>by cases e⟩
theorem sliceP_run{e:TypeId}{z:Nat}{full:Bool}{lo hi mx:Option PV}{vl vh vm:Option Value}(ht:tsl P T=some (e,z))(hz:z=sz∨xs=[])
  (hu:sliceP full sz xs lo hi mx=some u) (hv:R m φ (.sl full sz xs) v)
  (hl:(∀p,lo=some p→∃v,vl=some v∧R m φ p v)∧(lo=none→vl=none)) (hh:(∀p,hi=some p→∃v,vh=some v∧R m φ p v)∧(hi=none→vh=none)) (hm:(∀p,mx=some p→∃v,vm=some v∧R m φ p v)∧(mx=none→vm=none)) :
  ∃r,(Instr.sliceAt T v vl vh vm).run P w=.ok r w∧R m φ u r:=by
 cases hv with
 | @sl _ _ _ _ ad cap b off g ha hcap hmax hfull hel hr hnil=>
  unfold sliceP at hu;split at hu
  ·rename_i h l h1 h2;split at hu
   ·rename_i hb;rw[Bool.and_eq_true] at hb;have hhn:=Nat.le_of_ble_eq_true hb.1;have hlh:=Nat.le_of_ble_eq_true hb.2;have eh:=optN_R (m:=m) (φ:=φ) h1 hh.1 hh.2;have el:=optN_R (m:=m) (φ:=φ) h2 hl.1 hl.2
    -- the bounds
    have key:∀(M:Nat) (f':Bool),h≤M→M≤cap→(f'=true→M=h)→(f'=true→sz=0→ad=none)→(Instr.sliceBounds true xs.length cap vl vh vm).run P w=.ok (l,h,M) w →
      ∃r,(Instr.sliceAt T (.slice ad xs.length cap) vl vh vm).run P w=.ok r w∧R m φ (.sl f' sz ((xs.take h).drop l)) r:=fun M f' hM hMc hf' hnf hbnd=>by
     have hlen:((xs.take h).drop l).length=h-l:=by simp;omega
     have hat:∀i x,((xs.take h).drop l)[i]?=some x→xs[l+i]?=some x:=fun i x hx=>by
      rw[List.getElem?_drop,List.getElem?_take] at hx;split at hx
      ·exact hx
      ·cases hx
     refine⟨.slice (if M=l then ad else ad.map (·.add (l*z))) (h-l) (M-l),?_,?_⟩
     ·unfold tsl at ht;split at ht
      ·rename_i e' he;cases hi:P.info? e' with
       |none=>simp[hi] at ht
       |some ii=>
        simp[hi] at ht;obtain⟨rfl,rfl⟩:=ht;have hsz:(sizeOf e').run P w=.ok ii.size w:=by simp[sizeOf,typeInfo,hi]
        unfold Instr.sliceAt;simp only[Sem.run_bind,run_underlying he,Result.andThen_ok];unfold Instr.slice;simp only[Sem.run_bind,run_underlying he,Result.andThen_ok,hbnd,hsz,Sem.run_pure]
      ·cases ht
     ·rw[←hlen];refine .sl b (off+l*sz) (fun i=>g (l+i)) (fun hne=>?_) (by rw[hlen];omega) (by omega) (fun e=>by rw[hlen,hf' e]) (fun i x hx=>?_) (fun i x j c v hx=>?_) (fun e1 e2=>by rw[hnf e1 e2];simp)
      ·have hpos:0<h-l:=by
        rw[←hlen];exact List.length_pos_iff.2 hne
       have hxs:xs≠[]:=by
        intro e;rw[e] at hhn;simp at hhn;omega
       rw[if_neg (by omega),ha hxs]
       simp only[Option.map_some,Addr.add_lit];rcases hz with rfl|hz
       ·rfl
       ·exact absurd hz hxs
      ·have:=hel (l+i) x (hat i x hx);refine⟨this.1,this.2.1,?_,this.2.2.2⟩;have h3:=this.2.2.1;rw[Nat.add_mul] at h3
       rwa [Nat.add_assoc]
      ·exact hr (l+i) x j c v (hat i x hx)
    have bl:∀code,(match vl with
      |some v=>Instr.sliceBound v h code
      |none=>pure 0:Sem Nat).run P w=.ok l w:=fun code=>by
     rcases el with⟨rfl,rfl⟩|⟨k,rfl⟩
     ·simp
     ·exact run_bound rfl hlh
    split at hu
    ·cases hu;have e0:vm=none:=hm.2 rfl;subst e0;refine key cap _ (by omega) (Nat.le_refl _) (fun e=>by
      rw[Bool.and_eq_true] at e;rw[hfull e.1];exact(Nat.eq_of_beq_eq_true e.2).symm) (fun e=>hnil (by
       rw[Bool.and_eq_true] at e;exact e.1)) ?_
     unfold Instr.sliceBounds;simp only[Sem.run_bind,Sem.run_pure,Result.andThen_ok,Option.isSome_none];rcases eh with⟨rfl,rfl⟩|⟨k,rfl⟩
     ·simp only[Sem.run_pure,Result.andThen_ok];have:=bl .sliceB;cases vl<;>simp_all
     ·have hb2:=run_bound (P:=P) (w:=w) (v:=.int k (h:Int)) (y:=cap) (code:=.sliceAcap) rfl (by omega)
      have:=bl .sliceB;clear key;cases vl<;>simp_all
    ·rename_i mp;split at hu
     ·rename_i q hp' hq;split at hu
      ·rename_i hbeq;cases hu;rw[Bool.and_eq_true] at hbeq;obtain rfl:=Nat.eq_of_beq_eq_true hbeq.1;obtain⟨um,rfl,hum⟩:=hm.1 mp rfl;obtain⟨km,rfl⟩:=nat_int hq hum;obtain⟨uh,rfl,huh⟩:=hh.1 hp' rfl;obtain⟨kh,rfl⟩:∃kh,uh=.int kh (q:Int):=by
        rcases eh with⟨e,_⟩|⟨k,e⟩
        ·cases e
        ·exact⟨k,Option.some.inj e⟩
       refine key q true (Nat.le_refl _) (by omega) (fun _=>rfl) (fun _ e=>by
        have hpos:=hbeq.2;subst e;exact hnil (by simpa using hpos) rfl) ?_
       unfold Instr.sliceBounds;have hb2:=run_bound (P:=P) (w:=w) (v:=.int km (q:Int)) (y:=cap) (code:=.slice3Acap) rfl (by omega)
       have hb3:=run_bound (P:=P) (w:=w) (v:=.int kh (q:Int)) (y:=q) (code:=.slice3B) rfl (Nat.le_refl q);have:=bl .slice3C;clear key;cases vl<;>simp_all
      ·cases hu
     ·cases hu
   ·cases hu
  ·cases hu
theorem szOk_R(h:szOk P T sz xs=true):∃e z,tsl P T=some (e,z)∧(z=sz∨xs=[]):=by
 unfold szOk at h;split at h
 ·rename_i e z ht;refine⟨e,z,ht,?_⟩;rw[Bool.or_eq_true] at h;rcases h with h|h
  ·exact .inl (Nat.eq_of_beq_eq_true h)
  ·exact .inr (by simpa using h)
 ·cases h
theorem does_slice{lo hi mx:Option Operand}(h:EnvR m φ ρ a)(hx:aSlice P ρ T x lo hi mx=some u):Does P w a m φ ⟨dst,.slice T x lo hi mx,ty,pos,after,gd⟩ u:=by
 unfold aSlice at hx;split at hx
 ·rename_i pl ph pm hl hh hm;have rl:=optV_R h hl;have rh:=optV_R h hh;have rm:=optV_R h hm;have fin:(∃r,(Instr.sliceAt T (a.eval x) (lo.map a.eval) (hi.map a.eval) (mx.map a.eval)).run P w=.ok r w∧R m φ u r)→Does P w a m φ ⟨dst,.slice T x lo hi mx,ty,pos,after,gd⟩ u:=fun⟨r,h1,h2⟩=>⟨r,by simp[execOp,h1],h2⟩
  split at hx
  ·rename_i v hv;have e:=(aval_R h hv).sc_eq;unfold strSlice at hx;split at hx
   ·have optS_eq:∀{p:Option PV}{q:Option Value}{r:Option Value},optS p=some q→((∀t,p=some t→∃v,r=some v∧R m φ t v)∧(p=none→r=none))→r=q:=fun{p q r} h1 h2=>by
     cases p with
     |none=>simp[optS] at h1;rw[←h1];exact h2.2 rfl
     |some t=>
      simp only[optS] at h1;cases hs:scOf t with
      |none=>simp[hs] at h1
      |some s=>
       simp only[hs,Option.map_some,Option.some.injEq] at h1;obtain⟨v,h3,h4⟩:=h2.1 t rfl;rw[h3,scOf_eq hs h4,h1]
    split at hx
    ·rename_i l' h' e1 e2;cases hq:qrun P (Instr.sliceAt T v l' h' none) with
     |none=>simp[hq] at hx
     |some r=>
      rw[hq] at hx;refine fin ⟨r,?_,ofVal_R hx⟩;rw[e,optS_eq e1 rl,optS_eq e2 rh,rm.2 rfl];exact qrun_run w hq
    ·cases hx
   ·cases hx
  ·rename_i full sz xs hv;split at hx
   ·rename_i hs;obtain⟨e,z,ht,hz⟩:=szOk_R hs;exact fin (sliceP_run ht hz hx (aval_R h hv) rl rh rm)
   ·cases hx
  ·cases hx
 ·cases hx
end
end Go.Am
