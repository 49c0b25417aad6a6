/- What a run of the plain machine comes to, as a proposition made out of the code: calls and loops are left to be shown. Plain lemmas, no statement of the seat. -/
import Derived.Test.YtnfbeplfnblgjaaGreatDoorZAx
set_option linter.all false
namespace Go.Am
open Go Go.Hb
open Go.Gw (tk tf tz tsl tar tpl isAggD i64 callable looks deps statOk)
inductive Finds (C:Cfg) (f:FuncId) (args:List PV) (st:Sto) (Q:AEnd→Sto→Prop):Prop where
 |mk (r:AEnd) (st':Sto) (hq:Q r st') (N:Nat) (h:∀n,N≤n→(ev C n).call f args st=some (r,st'))
inductive FindsL (C:Cfg) (ks:List Nat) (k0:Nat) (c:Code) (s:AS) (Q:AX→AS→Prop):Prop where
 |mk (x:AX) (s':AS) (hq:Q x s') (N:Nat) (h:∀n,N≤n→(ev C n).loop ks k0 c s=some (x,s'))
variable{ρ:AEnv}{ops:Array Oper}{C:Cfg}{f:FuncId}{cl:List (List Nat)}{t:List Nat}{r:List Oper}{args:List PV}{i:Nat}{o:Op}{x y:Operand}{K:PV→Prop}{P:Program}{A B:Prop}{st:Sto}{T:TypeId}
theorem Finds.mono{Q Q':AEnd→Sto→Prop}(h:Finds C f args st Q)(hq:∀r st',Q r st'→Q' r st'):Finds C f args st Q':=by
 obtain⟨r,st',h1,N,h2⟩:=h;exact⟨r,st',hq _ _ h1,N,h2⟩
theorem FindsL.mono{ks:List Nat}{k0:Nat}{c:Code}{s:AS}{Q Q':AX→AS→Prop}(h:FindsL C ks k0 c s Q)(hq:∀x s',Q x s'→Q' x s'):FindsL C ks k0 c s Q':=by
 obtain⟨r,st',h1,N,h2⟩:=h;exact⟨r,st',hq _ _ h1,N,h2⟩
inductive VCall (C:Cfg) (f:FuncId) (args:List PV) (st:Sto) (K:AEnd→Sto→Prop):Prop where
 |mk (r:AEnd) (st':Sto) (hq:K r st') (N:Nat) (h:∀n,N≤n→acallS C (ev C n) f args st=some (r,st'))
def ev0:Ev:=⟨fun _ _ _=>none,fun _ _ _ _=>none,fun _ _=>none⟩
structure VIf (b:Bool) (A B:Prop):Prop where
 t:b=true→A
 f:b=false→B
inductive VArith (i:Int) (v:Value) (K:Value→Prop):Prop where
 |fits (h:i64 i) (k:K (.int .i64 i))
 |any (k:K v)
inductive VNat (i:Int) (K:Nat→Prop):Prop where
 |mk (q:Nat) (h:i=Int.ofNat q) (k:K q)
inductive VIdx (xs:List PV) (q:Nat) (K:PV→Prop):Prop where
 |mk (v:PV) (h:xs[q]?=some v) (k:K v)
structure VOk (b:Bool) (K:Prop):Prop where
 h:b=true
 k:K
inductive VRes (o:Option PV) (K:PV→Prop):Prop where
 |mk (v:PV) (h:o=some v) (k:K v)
def fenv:AEnv→(AEnv→Prop)→Prop
 |[],k=>k []
 |(t,v)::r,k=>fenv r fun r'=>k ((t,v)::r')
theorem fenv_eq:∀{ρ:AEnv}{k:AEnv→Prop},fenv ρ k↔k ρ
 |[],_=>Iff.rfl
 |(t,v)::r,k=>fenv_eq (ρ:=r) (k:=fun r'=>k ((t,v)::r'))
def fcells:List PV→(List PV→Prop)→Prop
 |[],k=>k []
 |v::r,k=>fcells r fun r'=>k (v::r')
theorem fcells_eq:∀{cs:List PV}{k:List PV→Prop},fcells cs k↔k cs
 |[],_=>Iff.rfl
 |v::r,k=>fcells_eq (cs:=r) (k:=fun r'=>k (v::r'))
def vNat(v:PV)(K:Nat→Prop):Prop:=match v with
 | .sc (.int _ i)=>VNat i K
 |_=>False
theorem vNat_ok{v:PV}{K:Nat→Prop}(h:vNat v K):∃q,nat? v=some q∧K q:=by
 unfold vNat at h;split at h
 ·obtain⟨q,rfl,hk⟩:=h;exact⟨q,rfl,hk⟩
 ·exact h.elim
def vOptNat(d:Nat)(o:Option PV)(K:Nat→Prop):Prop:=match o with
 |none=>K d
 |some v=>vNat v K
theorem vOptNat_ok{d:Nat}{o:Option PV}{K:Nat→Prop}(h:vOptNat d o K):∃q,optN d o=some q∧K q:=by
 unfold vOptNat at h;split at h
 ·exact⟨d,rfl,h⟩
 ·exact vNat_ok h
def arOf:AEnd→Sto→AR
 | .ret rs,st=>.val (retV rs) st
 | .pan v,st=>.pan v st
def vcBin(C:Cfg)(ρ:AEnv)(op:BinOp)(T:TypeId)(x y:Operand)(K:PV→Prop):Prop:=match aval ρ x,aval ρ y with
 |some (.sc (.int .i64 a)),some (.sc (.int .i64 b))=>match op with
  | .add=>VArith (a+b) (.int .i64 (IntKind.wrap .i64 (a+b))) fun v=>K (.sc v)
  | .sub=>VArith (a-b) (.int .i64 (IntKind.wrap .i64 (a-b))) fun v=>K (.sc v)
  | .eql=>K (.sc (.bool (decide (a=b))))
  | .neq=>K (.sc (.bool (!decide (a=b))))
  | .lss=>K (.sc (.bool (decide (a<b))))
  | .leq=>K (.sc (.bool (decide (a≤b))))
  | .gtr=>K (.sc (.bool (decide (b<a))))
  | .geq=>K (.sc (.bool (decide (b≤a))))
  |op=>VRes (slowBin C.P op T x y (.sc (.int .i64 a)) (.sc (.int .i64 b))) K
 |some a,some b=>VRes (slowBin C.P op T x y a b) K
 |_,_=>False
theorem vcBin_ok{op:BinOp}(h:vcBin C ρ op T x y K):∃v,aBin C.P ρ op T x y=some v∧K v:=by
 unfold vcBin at h;unfold aBin;split at h
 ·rename_i a b hx hy;rw[hx,hy];have ar:∀{r:Int},VArith r (.int .i64 (IntKind.wrap .i64 r)) (fun v=>K (.sc v))→K (.sc (.int .i64 (IntKind.wrap .i64 r))):=fun{r} hv=>by
   rcases hv with⟨hi,hk⟩|hk
   ·rw[Gw.wrap_i64 hi];exact hk
   ·exact hk
  split at h
  ·exact⟨_,rfl,ar h⟩
  ·exact⟨_,rfl,ar h⟩
  ·exact⟨_,rfl,h⟩
  ·exact⟨_,rfl,h⟩
  ·exact⟨_,rfl,h⟩
  ·exact⟨_,rfl,h⟩
  ·exact⟨_,rfl,h⟩
  ·exact⟨_,rfl,h⟩
  ·obtain⟨v,hv,hk⟩:=h;refine⟨v,?_,hk⟩;cases op<;>first|exact hv|(rename_i h1 h2 h3 h4 h5 h6 h7 h8;first|exact absurd rfl h1|exact absurd rfl h2|exact absurd rfl h3|exact absurd rfl h4|exact absurd rfl h5|exact absurd rfl h6|exact absurd rfl h7|exact absurd rfl h8)
 ·rename_i a b hno hx hy;obtain⟨v,hv,hk⟩:=h
  simp_all[fastBin]
 ·exact h.elim
def vcSlice(C:Cfg)(ρ:AEnv)(T:TypeId)(x:Operand)(lo hi mx:Option Operand)(K:PV→Prop):Prop:=
 match optV ρ lo,optV ρ hi,optV ρ mx with
 |some lo,some hi,some mx=>match aval ρ x with
  |some (.sc u)=>VRes (strSlice C.P T u lo hi mx) K
  |some (.sl full sz xs)=>VOk (szOk C.P T sz xs) (vOptNat xs.length hi fun h=>vOptNat 0 lo fun l=>VOk (Nat.ble h xs.length&&Nat.ble l h) (match mx with
   |none=>K (.sl (full&&Nat.beq h xs.length) sz ((xs.take h).drop l))
   |some m=>match hi with
    |some _=>match Nat.blt 0 sz||full with
     |true=>vNat m fun m=>VOk (Nat.beq m h) (K (.sl true sz ((xs.take h).drop l)))
     |false=>False
    |none=>False))
  |_=>False
 |_,_,_=>False
theorem vcSlice_ok{lo hi mx:Option Operand}(h:vcSlice C ρ T x lo hi mx K):∃v,aSlice C.P ρ T x lo hi mx=some v∧K v:=by
 unfold vcSlice at h;unfold aSlice;split at h
 ·rename_i lo hi mx h1 h2 h3;rw[h1,h2,h3];simp only;split at h
  ·rename_i u hu;rw[hu];obtain⟨v,hv,hk⟩:=h;exact⟨v,hv,hk⟩
  ·rename_i full sz xs hx;rw[hx];obtain⟨hz,hk⟩:=h;obtain⟨hq,h4,hk⟩:=vOptNat_ok hk;obtain⟨lq,h5,hb,hk⟩:=vOptNat_ok hk;simp only[hz,sliceP,h4,h5,hb];split at hk
   ·exact⟨_,rfl,hk⟩
   ·rename_i m;split at hk
    ·split at hk
     ·rename_i hz0;obtain⟨mq,h6,hb2,hk⟩:=vNat_ok hk
      grind
     ·exact hk.elim
    ·exact hk.elim
  ·exact h.elim
 ·exact h.elim
def vcIdxAddr(C:Cfg)(ρ:AEnv)(st:Sto)(T:TypeId)(x i:Operand)(K:PV→Option Nat→Prop):Prop:=match aval ρ x,aval ρ i with
 |some (.sl _ sz xs),some i=>vNat i fun q=>VIdx xs q fun v=>VOk (szOk C.P T sz xs) (fcells v.cells fun cs=>K (.cp cs) none)
 |some (.ms id len),some i=>match tsl C.P T,st[id]? with
  |some (_,z),some (.row _ _ sz xs)=>vNat i fun q=>VOk (Nat.beq len xs.length&&Nat.blt q len&&Nat.beq z sz) (K (.rp id len q 0) (some id))
  |_,_=>False
 |some a,some i=>vNat i fun q=>match idxAddr C.P T a q with
  |some v=>K v none
  |none=>False
 |_,_=>False
theorem vcIdxAddr_ok{i:Operand}{K:PV→Option Nat→Prop}(h:vcIdxAddr C ρ st T x i K):
  ∃v,(aIndexAddr C.P ρ T x i=some v∧K v none)∨(aIndexAddr C.P ρ T x i=none∧aK C.P ρ st (.indexAddr T x i)=some v∧∃id,lookId ρ (.indexAddr T x i)=some id∧K v (some id)):=by
 unfold vcIdxAddr at h;split at h
 ·rename_i b sz xs i hx hi;obtain⟨q,hq,v,hv,hz,hk⟩:=vNat_ok h;have hk':=fcells_eq.1 hk
  simp_all[aIndexAddr,idxAddr]
 ·rename_i id len i hx hi;split at h
  ·rename_i z p e sz xs ht hst;obtain⟨q,hq,hb,hk⟩:=vNat_ok h
   grind [aIndexAddr,idxAddr,aK,rowIdx,lookId]
  ·exact h.elim
 ·rename_i a i hno1 hno2 hx hi;obtain⟨q,hq,hk⟩:=vNat_ok h
  grind [aIndexAddr]
 ·exact h.elim
def vcLoadS(st:Sto)(ag:Bool)(k:Nat)(p:PV)(K:PV→Prop):Prop:=match p with
 | .rp id len i off=>match st[id]? with
  |some (.row _ _ _ xs)=>VOk (Nat.beq len xs.length) (VIdx xs i fun v=>match loadP ag v.cells off k with
   |some v=>K v
   |none=>False)
  |_=>False
 |p=>match loadS st ag k p with
  |some v=>K v
  |none=>False
theorem vcLoadS_ok{ag:Bool}{k:Nat}{p:PV}(h:vcLoadS st ag k p K):∃v,loadS st ag k p=some v∧K v:=by
 unfold vcLoadS at h;split at h
 ·rename_i id len i off;split at h
  ·rename_i p e sz xs hst;obtain⟨hb,v,hv,hk⟩:=h
   grind [loadS]
  ·exact h.elim
 grind
def vcPure(C:Cfg)(ρ:AEnv)(st:Sto)(o:Op)(K:PV→Option Nat→Prop)(other:Prop):Prop:=match o with
 | .binOp op T x y _=>vcBin C ρ op T x y fun v=>K v none
 | .slice T x lo hi mx=>match aval ρ x with
  |some (.ms _ _)=>other
  |_=>vcSlice C ρ T x lo hi mx fun v=>K v none
 | .indexAddr T x i=>vcIdxAddr C ρ st T x i K
 | .pick c a b=>match aval ρ c with
  |some (.sc (.bool v))=>VIf v (match aval ρ a with
   |some x=>K x none
   |none=>False) (match aval ρ b with
   |some x=>K x none
   |none=>False)
  |_=>False
 | .index T x i=>VRes (aIndex C.P ρ T x i) fun v=>K v none
 | .convert s d x=>match strT C.P s&&bytesT C.P d with
  |true=>other
  |false=>match aval ρ x with
   |some (.ms id len)=>match st[id]? with
    |some (.row _ _ _ xs)=>VOk (Nat.beq len xs.length) (VRes (strB C.P s d xs) fun v=>K v (some id))
    |_=>False
   |_=>VRes (aConv C.P ρ s d x) fun v=>K v none
 | .call ⟨.builtin .len,xs,ts⟩=>match xs.toList,ts.toList with
  |[x],[T]=>match tsl C.P T,aval ρ x with
   |some _,some (.ms id len)=>match st[id]? with
    |some (.row _ _ _ xs)=>VOk (Nat.beq len xs.length) (K (.sc (.int .i64 len)) (some id))
    |_=>False
   |_,_=>match aP C.P ρ (.call ⟨.builtin .len,xs,ts⟩) with
    |some v=>K v none
    |none=>other
  |_,_=>False
 | .call ⟨.builtin .unsafeSliceData,xs,ts⟩=>match xs.toList with
  |[x]=>match aval ρ x with
   |some (.ms id len)=>match st[id]? with
    |some (.row _ _ _ xs)=>VOk (Nat.beq len xs.length&&Nat.blt 0 len) (K (.rp id len 0 0) (some id))
    |_=>False
   |_=>match aP C.P ρ (.call ⟨.builtin .unsafeSliceData,xs,ts⟩) with
    |some v=>K v none
    |none=>other
  |_=>False
 | .load T x=>match tk C.P T,aval ρ x with
  |some (ag,k),some (.cp cs)=>match loadP ag cs 0 k with
   |some v=>K v none
   |none=>False
  |some (ag,k),some (.ci cs)=>match loadP ag cs 0 k with
   |some v=>K v none
   |none=>False
  |some (ag,k),some p=>match lookId ρ (.load T x) with
   |some id=>vcLoadS st ag k p fun v=>K v (some id)
   |none=>False
  |_,_=>False
 |o=>match aP C.P ρ o with
  |some v=>K v none
  |none=>other
theorem vcPure_ok{K:PV→Option Nat→Prop}{other:Prop}(h:vcPure C ρ st o K other):
  (∃v,(aP C.P ρ o=some v∧K v none)∨(aP C.P ρ o=none∧aK C.P ρ st o=some v∧∃id,lookId ρ o=some id∧K v (some id)))∨(aP C.P ρ o=none∧other):=by
 have gen:(match aP C.P ρ o with
  |some v=>K v none
  |none=>other)→(∃v,(aP C.P ρ o=some v∧K v none)∨(aP C.P ρ o=none∧aK C.P ρ st o=some v∧∃id,lookId ρ o=some id∧K v (some id)))∨(aP C.P ρ o=none∧other):=fun h=>by
  grind
 cases o with
 |binOp op T x y T'=>
  have h:vcBin C ρ op T x y (fun v=>K v none):=h
  obtain⟨v,h1,h2⟩:=vcBin_ok h;exact .inl ⟨v,.inl ⟨h1,h2⟩⟩
 |slice T x lo hi mx=>
  simp only[vcPure] at h;split at h
  ·grind [aP,aSlice]
  ·obtain⟨v,h1,h2⟩:=vcSlice_ok h;exact .inl ⟨v,.inl ⟨h1,h2⟩⟩
 |indexAddr T x i=>
  obtain⟨v,h1⟩:=vcIdxAddr_ok h;exact .inl ⟨v,h1⟩
 |pick c a b=>
  simp only[vcPure] at h;split at h
  ·rename_i v hv;cases v with
   |true=>
    have:=h.t rfl
    grind [aP,aPick]
   |false=>
    have:=h.f rfl
    grind [aP,aPick]
  ·exact h.elim
 |index T x i=>
  obtain⟨v,h1,h2⟩:=h;exact .inl ⟨v,.inl ⟨h1,h2⟩⟩
 |convert s d x=>
  simp only[vcPure] at h;split at h
  ·simp_all[aP,aConv]
  ·rename_i hb;split at h
   ·rename_i id len hx;split at h
    ·rename_i p e sz xs hst;obtain⟨hl,v,h1,h2⟩:=h
     grind [aP,aConv,aK,lookId]
    ·exact h.elim
   ·obtain⟨v,h1,h2⟩:=h;exact .inl ⟨v,.inl ⟨h1,h2⟩⟩
 |call c=>
  obtain⟨callee,xs,ts⟩:=c;cases callee with
  |value g=>exact gen h
  |invoke r m=>exact gen h
  |builtin b=>
   cases b with
   |len=>
    simp only[vcPure] at h;split at h
    ·rename_i x T hxs hts;split at h
     ·rename_i tt id len ht hx;split at h
      ·rename_i p e sz xs' hst;obtain⟨hb,hk⟩:=h
       simp_all[aK,rowLen,lookId,aP,aBuiltin,Option.bind_some,lenP]
      ·exact h.elim
     ·exact gen h
    ·exact h.elim
   |unsafeSliceData=>
    simp only[vcPure] at h;split at h
    ·rename_i x hxs;split at h
     ·rename_i id len hx;split at h
      ·rename_i p e sz xs' hst;obtain⟨hb,hk⟩:=h
       grind [aP,aBuiltin,aK,lookId]
      ·exact h.elim
     ·exact gen h
    ·exact h.elim
   |_=>exact gen h
 |load T x=>
  simp only[vcPure] at h;split at h
  ·grind [aP,aLoadC]
  ·grind [aP,aLoadC]
  ·rename_i ag k p hn1 hn2 ht hx;split at h
   ·rename_i id hid;obtain⟨v,h1,h2⟩:=vcLoadS_ok h
    simp_all[aK,aP,aLoadC]
   ·exact h.elim
  ·exact h.elim
 |_=>exact gen h
def vcAppend(P:Program)(ρ:AEnv)(st:Sto)(xs:List Operand)(ts:List TypeId)(K:AR→Prop):Prop:=match xs,ts with
 |[x,y],[T,U]=>match Nat.beq T U,tsl P T with
  |true,some (t,sz)=>match aval ρ x,aval ρ y,elemBytes P t sz with
   |some a,some b,some by_=>match(match b with
     | .sl _ z ys=>some (z,ys,true)
     | .ms id len=>match st[id]? with
      |some (.row _ _ z ys)=>some (z,ys,Nat.beq len ys.length)
      |_=>none
     |_=>none:Option (Nat×List PV×Bool)) with
    |some (z,ys,ok)=>VOk (ok&&(Nat.beq sz z||ys.isEmpty)) (match a with
     | .ms id len=>match st[id]? with
      |some (.row p t' z xs)=>VOk (Nat.beq len xs.length&&Nat.beq t t'&&Nat.beq sz z&&fits (len+ys.length) by_) (match ys with
       |[]=>K (.val a st)
       |_=>K (.val (.ms id (len+ys.length)) (st.set id (.row p t' z (xs++ys)))))
      |_=>False
     | .sl full z xs=>match ys with
      |[]=>K (.val a st)
      |_=>VOk (full&&(Nat.beq sz z||xs.isEmpty)&&fits (xs.length+ys.length) by_) (K (.val (.ms st.length (xs.length+ys.length)) (st++[.row false t sz (xs++ys)])))
     |_=>False)
    |none=>False
   |_,_,_=>False
  |false,some (t,sz)=>match aval ρ x,aval ρ y,elemBytes P t sz with
   |some (.ms id len),some (.sc (.string s)),some by_=>match st[id]? with
    |some (.row p t' z xs)=>VOk (strT P U&&(Nat.beq len xs.length&&Nat.beq t t'&&Nat.beq z 1&&Nat.beq sz 1&&Nat.beq by_ 1&&Nat.blt 0 len&&fits (len+s.size) 1)) (match s.data.toList with
     |[]=>K (.val (.ms id len) st)
     |l=>K (.val (.ms id (len+s.size)) (st.set id (.row p t' 1 (xs++l.map fun c=>.sc (.int .u8 c.toNat))))))
    |_=>False
   |_,_,_=>False
  |_,_=>False
 |_,_=>False
theorem vcAppend_ok{xs:List Operand}{ts:List TypeId}{K:AR→Prop}(h:vcAppend P ρ st xs ts K):∃ar,sAppend P ρ st xs ts=some ar∧K ar:=by
 unfold vcAppend at h;unfold sAppend;split at h
 ·split at h
  ·rename_i t sz hb ht;simp only[hb,ht];split at h
   ·rename_i a b by_ ha hbv he;simp only[ha,hbv,he];split at h
    ·rename_i z ys ok hm;obtain⟨hok,h⟩:=h;rw[Bool.and_eq_true] at hok;have hc:contents st b=some (z,ys):=by
      grind [contents]
     simp only[hc,hok.2];split at h
     ·rename_i id len;split at h
      ·rename_i p t' z' xs' hst;obtain⟨hk1,h⟩:=h
       grind [appendS]
      ·exact h.elim
     ·rename_i full z' xs';simp only[appendS];split at h
      ·exact⟨_,rfl,h⟩
      ·rename_i hne;obtain⟨hk1,h⟩:=h
       grind
     ·exact h.elim
    ·exact h.elim
   ·exact h.elim
  ·rename_i t sz hb ht;simp only[hb,ht];split at h
   ·rename_i id len s by_ ha hbv he;simp only[ha,hbv,he];split at h
    ·rename_i p t' z xs' hst;obtain⟨hk,h⟩:=h;rw[Bool.and_eq_true] at hk
     grind [appendStr]
    ·exact h.elim
   ·exact h.elim
  ·exact h.elim
 ·exact h.elim
def vcStore(P:Program)(ρ:AEnv)(st:Sto)(T:TypeId)(x y:Operand)(K:AR→Prop):Prop:=match tk P T,aval ρ x,aval ρ y with
 |some (_,k),some p,some v=>VOk (Nat.beq v.cells.length k&&v.cells.all cell) (match p with
  | .bp id off=>match st[id]? with
   |some (.box T cs)=>match Nat.ble (off+k) cs.length with
    |true=>fcells (updP cs off v.cells) fun cs'=>K (.unit (st.set id (.box T cs')))
    |false=>False
   |_=>False
  | .rp id len i off=>match st[id]? with
   |some (.row false t sz xs)=>VOk (Nat.beq len xs.length) (VIdx xs i fun w=>VOk (Nat.ble (off+k) w.cells.length&&Nat.beq (putElem w v off).cells.length sz) (K (.unit (st.set id (.row false t sz (xs.set i (putElem w v off)))))))
   |_=>False
  |_=>False)
 |_,_,_=>False
theorem vcStore_ok{K:AR→Prop}(h:vcStore P ρ st T x y K):∃ar,sStore P ρ st T x y=some ar∧K ar:=by
 unfold vcStore at h;unfold sStore;split at h
 ·rename_i ag k p v ht hx hy;obtain⟨hb,h⟩:=h;simp only[ht,hx,hy,hb];split at h
  ·rename_i id off;split at h
   ·rename_i T' cs hst;split at h
    ·rename_i hle;have:=fcells_eq.1 h
     grind [storeS]
    ·exact h.elim
   ·exact h.elim
  ·rename_i id len i off;split at h
   ·rename_i t sz xs hst;obtain⟨hl,w,hw,hb2,h⟩:=h
    grind [storeS]
   ·exact h.elim
  ·exact h.elim
 ·exact h.elim
def vcActs(C:Cfg)(ρ:AEnv)(st:Sto)(o:Op)(K:AR→Prop):Prop:=match o with
 | .call ⟨.builtin .append,xs,ts⟩=>vcAppend C.P ρ st xs.toList ts.toList K
 | .call ⟨.builtin .len,xs,ts⟩=>match xs.toList,ts.toList with
  |[x],[T]=>match tsl C.P T,aval ρ x with
   |some _,some (.ms id len)=>match st[id]? with
    |some (.row _ _ _ xs)=>VOk (Nat.beq len xs.length) (K (.val (.sc (.int .i64 len)) st))
    |_=>False
   |_,_=>False
  |_,_=>False
 | .call ⟨.builtin .unsafeString,xs,ts⟩=>match xs.toList,ts.toList with
  |[x,n],[T,_]=>match aval ρ x,aval ρ n with
   |some (.rp id len 0 0),some (.sc (.int .i64 m))=>match st[id]? with
    |some (.row _ e sz ys)=>VOk (Nat.beq len ys.length&&(Nat.blt 0 len&&(decide (m=(len:Int))&&(Nat.beq sz 1&&ptrOne C.P T e)))) (VRes ((mapO u8Of ys).map fun l=>.sc (.string ⟨l.toArray⟩)) fun v=>K (.val v (st.set id .dead)))
    |_=>False
   |_,_=>False
  |_,_=>False
 | .store T x y=>vcStore C.P ρ st T x y K
 | .convert s d x=>match strT C.P s,C.P.underlying d,aval ρ x with
  |true,some (.slice e),some (.sc (.string b))=>match C.P.underlying e with
   |some (.int .u8)=>VOk (Nat.ble b.size 1000000000&&Hb.markT e) (K (.val (.ms st.length b.data.toList.length) (st++[.row false e 1 (b.data.toList.map fun c=>.sc (.int .u8 c.toNat))])))
   |_=>False
  |_,_,_=>False
 |o=>match(match acts o with
   |true=>aS C ev0 ρ st o
   |false=>match aK C.P ρ st o with
    |some v=>some (.val v st)
    |none=>aS C ev0 ρ st o) with
  |some r=>K r
  |none=>False
theorem vcActs_ok{K:AR→Prop}(hno:∀g xs ts,o≠.call ⟨.value g,xs,ts⟩)(h:vcActs C ρ st o K):
  ∃ar,(∀e,(match acts o with
   |true=>aS C e ρ st o
   |false=>match aK C.P ρ st o with
    |some v=>some (.val v st)
    |none=>aS C e ρ st o)=some ar)∧K ar:=by
 have gen:(∀e,aS C e ρ st o=aS C ev0 ρ st o)→(match(match acts o with
   |true=>aS C ev0 ρ st o
   |false=>match aK C.P ρ st o with
    |some v=>some (.val v st)
    |none=>aS C ev0 ρ st o) with
  |some r=>K r
  |none=>False)→∃ar,(∀e,(match acts o with
   |true=>aS C e ρ st o
   |false=>match aK C.P ρ st o with
    |some v=>some (.val v st)
    |none=>aS C e ρ st o)=some ar)∧K ar:=fun he h=>by
  grind
 cases o with
 |call c=>
  obtain⟨callee,xs,ts⟩:=c;cases callee with
  |value g=>grind
  |invoke r m=>exact gen (fun e=>rfl) h
  |builtin b=>
   cases b with
   |append=>
    obtain⟨ar,h1,h2⟩:=vcAppend_ok h;exact⟨ar,fun e=>h1,h2⟩
   |len=>
    simp only[vcActs] at h;split at h
    ·rename_i x T hxs hts;split at h
     ·rename_i tt id len ht hx;split at h
      ·rename_i p e sz xs' hst;obtain⟨hb,hk⟩:=h
       grind [acts,aK,rowLen]
      ·exact h.elim
     ·exact h.elim
    ·exact h.elim
   |unsafeString=>
    simp only[vcActs] at h;split at h
    ·rename_i x n T U hxs hts;split at h
     ·rename_i id len mm hx hn;split at h
      ·rename_i p e sz ys hst;obtain⟨hb,v,hv,hk⟩:=h;obtain⟨l,hl,rfl⟩:=Option.map_eq_some_iff.1 hv
       grind [acts,aK,aS,sUnsafeStr]
      ·exact h.elim
     ·exact h.elim
    ·exact h.elim
   |_=>exact gen (fun e=>rfl) h
 |store T x y=>
  obtain⟨ar,h1,h2⟩:=vcStore_ok h;exact⟨ar,fun e=>h1,h2⟩
 |convert s d x=>
  simp only[vcActs] at h;split at h
  ·rename_i e b hs hd hx;split at h
   ·rename_i he;obtain⟨hb,hk⟩:=h
    grind [acts,aK,aS,sConv]
   ·exact h.elim
  ·exact h.elim
 |_=>exact gen (fun e=>rfl) h
inductive VYield (C:Cfg) (id:Nat) (vs:List PV) (st:Sto) (K:AR→Prop):Prop where
 |mk (r:AR) (hq:K r) (N:Nat) (h:∀n,N≤n→sYield C (ev C n) id vs st=some r)
inductive VPub (C:Cfg) (v:PV) (st:Sto) (K:PV→Sto→Prop):Prop where
 |mk (v':PV) (st':Sto) (h:pubV C 8 v st=some (v',st')) (k:K v' st')
def vpst(C:Cfg)(ρ:AEnv)(st:Sto)(o:Op)(K:AEnv→Sto→Prop):Prop:=match o with
 | .store T _ (.tmp t)=>match C.pst T with
  |true=>match aget ρ t with
   |some v=>VPub C v st fun v' st'=>K (aput (some t) v' ρ) st'
   |none=>False
  |false=>K ρ st
 |_=>K ρ st
theorem vpst_ok{K:AEnv→Sto→Prop}(h:vpst C ρ st o K):∃ρ' st',pstOp C ρ st o=some (ρ',st')∧K ρ' st':=by
 unfold vpst at h;unfold pstOp;split at h
 ·split at h
  ·rename_i hc;split at h
   ·rename_i v hv;obtain⟨v',st',h1,h2⟩:=h
    grind
   ·exact h.elim
  grind
 grind
def vcOp(C:Cfg)(ρ:AEnv)(st:Sto)(o:Op)(K:AR→Prop):Prop:=
 match o with
 | .call ⟨.value g,xs,_⟩=>match aval ρ g,mapO (aval ρ) xs.toList with
  |some (.fn f a b),some vs=>match callable C.P f with
   |true=>VCall C f (a++vs++b) st (fun r st=>K (arOf r st))
   |false=>False
  |some (.yl id),some vs=>VYield C id vs st K
  |_,_=>False
 |o=>vpst C ρ st o fun ρ st=>match acts o with
  |true=>vcActs C ρ st o K
  |false=>vcPure C ρ st o (fun v _=>K (.val v st)) (vcActs C ρ st o K)
def vcGuard(ops:Array Oper)(ρ:AEnv)(g:Option (Nat×Bool))(A B:Prop):Prop:=match g with
 |none=>A
 |some (j,want)=>match(ops[j]?).bind (·.dst) with
  |some t=>match aget ρ t with
   |some (.sc (.bool b))=>match want with
    |true=>VIf b A B
    |false=>VIf b B A
   |some (.tu [])=>B
   |_=>False
  |none=>False
noncomputable def vcOps(C:Cfg)(ops:Array Oper)(l:List Oper):AEnv→Sto→(AX→AEnv→Sto→Prop)→Prop:=
 List.rec (motive:=fun _=>AEnv→Sto→(AX→AEnv→Sto→Prop)→Prop) (fun ρ st K=>K .normal ρ st) (fun o _ ih ρ st K=>vcGuard ops ρ o.guard
   (vcOp C ρ st o.op fun ar=>match ar with
    | .val v st=>fenv (aput o.dst v ρ) fun ρ=>ih ρ st K
    | .unit st=>fenv (aput o.dst (.tu []) ρ) fun ρ=>ih ρ st K
    | .pan v st=>K (.pan v) ρ st)
   (fenv (aput o.dst (.tu []) ρ) fun ρ=>ih ρ st K)) l
theorem vcOps_cons{o:Oper}{K:AX→AEnv→Sto→Prop}:vcOps C ops (o::r) ρ st K=vcGuard ops ρ o.guard
   (vcOp C ρ st o.op fun ar=>match ar with
    | .val v st=>fenv (aput o.dst v ρ) fun ρ=>vcOps C ops r ρ st K
    | .unit st=>fenv (aput o.dst (.tu []) ρ) fun ρ=>vcOps C ops r ρ st K
    | .pan v st=>K (.pan v) ρ st)
   (fenv (aput o.dst (.tu []) ρ) fun ρ=>vcOps C ops r ρ st K):=rfl
def vcDrawAct(C:Cfg)(d:DK)(op:Op)(ρ:AEnv)(st:Sto)(K:PV→Sto→DK→Prop):Prop:=match aK C.P ρ st op with
 |some v=>match lookId ρ op with
  |some id=>K v st (.k id)
  |none=>False
 |none=>match op with
  | .buildSlice .. =>match pureAct C ev0 ρ op with
   |some v=>K v st .c
   |none=>match aS C ev0 ρ st op with
    |some (.val v st)=>K v st d
    |_=>False
  |op=>vcActs C ρ st op fun ar=>match ar with
   | .val v st=>K v st d
   | .unit st=>K (.tu []) st .a
   | .pan _ _=>False
inductive VBack (π:List Nat) (st:Sto) (r:AEnd) (st1:Sto) (K:AEnd→Sto→Prop):Prop where
 |mk (r':AEnd) (st':Sto) (h:comeBack π st r st1=some (r',st')) (k:K r' st')
inductive VPur (b:Bool) (A B:Prop):Prop where
 |mk (h:b=true) (a:A)
 |made (h:b=false) (m:B)
def vcDrawOp(C:Cfg)(d:DK)(o:Op)(ρ:AEnv)(st:Sto)(K:PV→Sto→DK→Prop)(Kp:PV→Sto→Prop):Prop:=
 match o with
 | .call ⟨.value g,xs,_⟩=>match aval ρ g,mapO (aval ρ) xs.toList with
  |some (.fn f a b),some vs=>match callable C.P f with
   |true=>match(a++vs++b).all (pur 8) with
    |true=>Finds C f (a++vs++b) [] fun r st1=>match r with
     | .ret rs=>VPur (rs.all (pur 8)) (K (retV rs) st .c) (VBack [] st (.ret rs) st1 fun r' st'=>match r' with
      | .ret rs'=>K (retV rs') st' .a
      | .pan _=>False)
     | .pan v=>VOk (pur 8 v) (Kp v st)
    |false=>VCall C f (a++vs++b) st fun r st'=>match r with
     | .ret rs=>K (retV rs) st' .a
     | .pan v=>Kp v st'
   |false=>False
  |_,_=>False
 |op=>vcPure C ρ st op (fun v d=>match d with
   |none=>K v st .p
   |some id=>K v st (.k id)) (vcDrawAct C d op ρ st K)
inductive VTch (t:List Nat) (K:List Nat→Prop):Prop where
 |mk (T:List Nat) (h:t=T) (k:K T)
def vtch(o:Op)(t:List Nat)(K:List Nat→Prop):Prop:=match o with
 | .call ⟨.value _,_,_⟩=>VTch t K
 |_=>K t
theorem vtch_ok{K:List Nat→Prop}(h:vtch o t K):K t:=by
 unfold vtch at h;split at h
 ·obtain⟨T,rfl,hk⟩:=h;exact hk
 ·exact h
def rowsOf(ops:Array Oper):List Oper→AEnv→List (Option (PV×DK))→List Row4
 |o::r,ρ,some (v,d)::vs=>(o,aonly (looks ops o) ρ,v,d)::rowsOf ops r (aput o.dst v ρ) vs
 |o::r,ρ,none::vs=>(o,aonly (looks ops o) ρ,.un,.p)::rowsOf ops r ρ vs
 |_,_,_=>[]
noncomputable def vcRest(C:Cfg)(ops:Array Oper)(cl:List (List Nat))(q:Nat)(l:List Oper):Nat→AEnv→Sto→(List Tr→List (Option (PV×DK))→Prop)→Prop:=
 List.rec (motive:=fun _=>Nat→AEnv→Sto→(List Tr→List (Option (PV×DK))→Prop)→Prop) (fun _ _ _ K=>K [] []) (fun o _ ih i ρ st K=>match hangs cl q i with
  |true=>ih (i+1) ρ st fun l W=>K (⟨.p,st,st,touch (aonly (looks ops o) ρ) st o.op⟩::l) (none::W)
  |false=>vcGuard ops (aonly (looks ops o) ρ) o.guard
   (vtch o.op (touch (aonly (looks ops o) ρ) st o.op) fun T=>vcDrawOp C (actK ops o) o.op (aonly (looks ops o) ρ) st (fun v st' d=>fenv (aput o.dst v ρ) fun ρ1=>ih (i+1) ρ1 st' fun l W=>K (⟨d,st,st',T⟩::l) (some (v,d)::W)) (fun _ _=>False))
   (fenv (aput o.dst (.tu []) ρ) fun ρ1=>ih (i+1) ρ1 st fun l W=>K (⟨.p,st,st,touch (aonly (looks ops o) ρ) st o.op⟩::l) (some (.tu [],.p)::W))) l
theorem vcRest_cons{q:Nat}{o:Oper}{K:List Tr→List (Option (PV×DK))→Prop}:vcRest C ops cl q (o::r) i ρ st K=match hangs cl q i with
  |true=>vcRest C ops cl q r (i+1) ρ st fun l W=>K (⟨.p,st,st,touch (aonly (looks ops o) ρ) st o.op⟩::l) (none::W)
  |false=>vcGuard ops (aonly (looks ops o) ρ) o.guard
   (vtch o.op (touch (aonly (looks ops o) ρ) st o.op) fun T=>vcDrawOp C (actK ops o) o.op (aonly (looks ops o) ρ) st (fun v st' d=>fenv (aput o.dst v ρ) fun ρ1=>vcRest C ops cl q r (i+1) ρ1 st' fun l W=>K (⟨d,st,st',T⟩::l) (some (v,d)::W)) (fun _ _=>False))
   (fenv (aput o.dst (.tu []) ρ) fun ρ1=>vcRest C ops cl q r (i+1) ρ1 st fun l W=>K (⟨.p,st,st,touch (aonly (looks ops o) ρ) st o.op⟩::l) (some (.tu [],.p)::W)):=rfl
noncomputable def vcDraw(C:Cfg)(ops:Array Oper)(cl:List (List Nat))(l:List Oper):Nat→AEnv→Sto→(AEnv→Sto→List Tr→List (Option (PV×DK))→Prop)→(PV→Sto→Nat→List Tr→List (Option (PV×DK))→Prop)→Prop:=
 List.rec (motive:=fun _=>Nat→AEnv→Sto→(AEnv→Sto→List Tr→List (Option (PV×DK))→Prop)→(PV→Sto→Nat→List Tr→List (Option (PV×DK))→Prop)→Prop) (fun _ ρ st K _=>K ρ st [] []) (fun o r ih i ρ st K Kp=>vcGuard ops (aonly (looks ops o) ρ) o.guard
   (vtch o.op (touch (aonly (looks ops o) ρ) st o.op) fun T=>vcDrawOp C (actK ops o) o.op (aonly (looks ops o) ρ) st (fun v st' d=>fenv (aput o.dst v ρ) fun ρ1=>ih (i+1) ρ1 st' (fun ρ' s' l W=>K ρ' s' (⟨d,st,st',T⟩::l) (some (v,d)::W)) (fun x sx q l W=>Kp x sx q (⟨d,st,st',T⟩::l) (some (v,d)::W)))
    (fun x sx=>vcRest C ops cl i r (i+1) ρ st fun l W=>Kp x sx i (⟨.a,st,st,T⟩::l) (none::W)))
   (fenv (aput o.dst (.tu []) ρ) fun ρ1=>ih (i+1) ρ1 st (fun ρ' s' l W=>K ρ' s' (⟨.p,st,st,touch (aonly (looks ops o) ρ) st o.op⟩::l) (some (.tu [],.p)::W)) (fun x sx q l W=>Kp x sx q (⟨.p,st,st,touch (aonly (looks ops o) ρ) st o.op⟩::l) (some (.tu [],.p)::W)))) l
theorem vcDraw_cons{o:Oper}{K:AEnv→Sto→List Tr→List (Option (PV×DK))→Prop}{Kp:PV→Sto→Nat→List Tr→List (Option (PV×DK))→Prop}:vcDraw C ops cl (o::r) i ρ st K Kp=vcGuard ops (aonly (looks ops o) ρ) o.guard
   (vtch o.op (touch (aonly (looks ops o) ρ) st o.op) fun T=>vcDrawOp C (actK ops o) o.op (aonly (looks ops o) ρ) st (fun v st' d=>fenv (aput o.dst v ρ) fun ρ1=>vcDraw C ops cl r (i+1) ρ1 st' (fun ρ' s' l W=>K ρ' s' (⟨d,st,st',T⟩::l) (some (v,d)::W)) (fun x sx q l W=>Kp x sx q (⟨d,st,st',T⟩::l) (some (v,d)::W)))
    (fun x sx=>vcRest C ops cl i r (i+1) ρ st fun l W=>Kp x sx i (⟨.a,st,st,T⟩::l) (none::W)))
   (fenv (aput o.dst (.tu []) ρ) fun ρ1=>vcDraw C ops cl r (i+1) ρ1 st (fun ρ' s' l W=>K ρ' s' (⟨.p,st,st,touch (aonly (looks ops o) ρ) st o.op⟩::l) (some (.tu [],.p)::W)) (fun x sx q l W=>Kp x sx q (⟨.p,st,st,touch (aonly (looks ops o) ρ) st o.op⟩::l) (some (.tu [],.p)::W))):=rfl
def Ord3(C:Cfg)(ops:Array Oper)(W:List Row4)(s0 sf:Sto):Prop:=statOk2 ops=true∧∃N,∀n,N≤n→OrdP C (ev C n) ops W s0 sf
def Pan3(C:Cfg)(ops:Array Oper)(ρ:AEnv)(W:List Row4)(q:Nat)(v:PV)(s0 sp:Sto):Prop:=(statOk2 ops=true∧(pur 8 v=true∧sp.all (soIn fun i=>Nat.blt i sp.length)=true∧ρ.all (fun p=>inIds (fun i=>Nat.blt i sp.length) 8 p.2)=true))∧∃N,∀n,N≤n→PanP C (ev C n) ops W q v s0 sp
open Classical in
noncomputable def ord3(C:Cfg)(ops:Array Oper)(ρ:AEnv)(W:List (Option (PV×DK)))(s0 sf:Sto):Bool:=decide (Ord3 C ops (rowsOf ops ops.toList ρ W) s0 sf)
open Classical in
noncomputable def pan3(C:Cfg)(ops:Array Oper)(ρ:AEnv)(W:List (Option (PV×DK)))(q:Nat)(v:PV)(s0 sp:Sto):Bool:=decide (Pan3 C ops ρ (rowsOf ops ops.toList ρ W) q v s0 sp)
inductive VPan (b b':Bool) (A B:Prop):Prop where
 |mk (h:b=true) (a:A)
 |wiped (h:b=false) (h':b'=true) (k:B)
noncomputable def VC(C:Cfg)(c:Code):AEnv→Sto→(AX→AEnv→Sto→Prop)→Prop:=
 Code.rec (motive:=fun _=>AEnv→Sto→(AX→AEnv→Sto→Prop)→Prop)
  (fun ρ st K=>K .normal ρ st)
  (fun _ ops draw ρ st K=>match draw with
   |false=>vcOps C ops ops.toList ρ st K
   |true=>vcDraw C ops (clos [] ops.toList) ops.toList 0 ρ st (fun ρ' st' l W=>VOk (drawOk ops l||ord3 C ops ρ W st st') (K .normal ρ' st')) (fun v st' q l W=>VPan (drawOk ops l) (pan3 C ops ρ W q v st (wipe (actL l) 0 st)) (fenv (aoff ops.toList ρ) fun ρ'=>K (.pan v) ρ' st') (fenv (aoff ops.toList ρ) fun ρ'=>K (.pan v) ρ' (wipe (actL l) 0 st))))
  (fun _ _ va vb ρ st K=>va ρ st fun x ρ st=>match x with
   | .normal=>vb ρ st K
   |x=>K x ρ st)
  (fun c _ _ va vb ρ st K=>match aval ρ c with
   |some (.sc (.bool v))=>VIf v (va ρ st K) (vb ρ st K)
   |_=>False)
  (fun id _ vc ρ st K=>vc ρ st fun x ρ st=>match x with
   | .exit i=>match Nat.beq i id with
    |true=>K .normal ρ st
    |false=>K (.exit i) ρ st
   |x=>K x ρ st)
  (fun c _ ρ st K=>FindsL C (ρ.map (·.1)) st.length c ⟨ρ,st⟩ fun x s=>K x s.env s.st)
  (fun f ps a b _ _ ρ st K=>match aval ρ f with
   |some (.fn g xs ys)=>match callable C.P g&&noRange a&&noRange b with
    |true=>VCall C g (xs++[.yl st.length]++ys) (st++[.lp ρ ps.toList a b .ready]) fun r st'=>match r with
     | .ret _=>match st'[st.length]? with
      |some (.lp _ _ _ _ l)=>match l with
       | .ready=>K .normal ρ (st'.set st.length .dead)
       | .done none=>K .ret ρ (st'.set st.length .dead)
       | .done (some i)=>K (.exit i) ρ (st'.set st.length .dead)
       | .busy=>False
      |_=>False
     | .pan _=>False
    |false=>False
   |_=>False)
  (fun i ρ st K=>K (.exit i) ρ st)
  (fun _ _ _ _ _=>False)
  (fun _ _ _ _=>False)
  (fun _ _ _ _=>False)
  (fun ρ st K=>K .ret ρ st)
  (fun _ _ _ _=>False)
  c
section
variable{C:Cfg}
variable{K Q:AEnd→Sto→Prop}{ρ:AEnv}{ops:Array Oper}{b:Bool}{c:Code}{f:FuncId}{ks π:List Nat}{args args' rs xs:List PV}{k0 z:Nat}{A B p:Prop}{junk st st0 st1:Sto}{G:Type}{T:TypeId}
theorem vcOp_ok{o:Op}{K:AR→Prop}(h:vcOp C ρ st o K):∃ar,K ar∧∃N,∀n,N≤n→aoperY C (ev C n) ρ st o=some ar:=by
 have other:∀{o:Op},(∀e,aoperY C e ρ st o=(match pstOp C ρ st o with
  |some (ρ,st)=>aoper C e ρ st o
  |none=>none))→(∀g xs ts,o≠.call ⟨.value g,xs,ts⟩)→(vpst C ρ st o fun ρ st=>match acts o with
  |true=>vcActs C ρ st o K
  |false=>vcPure C ρ st o (fun v _=>K (.val v st)) (vcActs C ρ st o K))→∃ar,K ar∧∃N,∀n,N≤n→aoperY C (ev C n) ρ st o=some ar:=fun{o} hY hno h=>by
  obtain⟨ρ1,st1,hq,h⟩:=vpst_ok h;have hY1:∀e,aoperY C e ρ st o=aoper C e ρ1 st1 o:=fun e=>by rw[hY,hq]
  split at h
  ·rename_i ha;obtain⟨ar,h1,h2⟩:=vcActs_ok hno h;simp only[ha] at h1;exact⟨ar,h2,0,fun n _=>by simp_all[aoper]⟩
  ·rename_i ha;rcases vcPure_ok h with⟨v,⟨h1,h2⟩|⟨h1,h2,id,h3,h4⟩⟩|⟨h1,h2⟩
   ·exact⟨_,h2,0,fun n _=>by simp_all[aoper]⟩
   ·exact⟨_,h4,0,fun n _=>by simp_all[aoper]⟩
   ·obtain⟨ar,h3,h4⟩:=vcActs_ok hno h2;simp only[ha] at h3;exact⟨ar,h4,0,fun n _=>by simp only[hY1,aoper,ha,h1];exact h3 _⟩
 cases o with
 |call c=>
  obtain⟨callee,xs,ts⟩:=c;cases callee with
  |value g=>
   simp only[vcOp] at h;split at h
   ·rename_i f a b vs hg hxs;split at h
    ·rename_i hc;obtain⟨r,st',hk,N,hN⟩:=h;refine⟨_,hk,N,fun n hn=>?_⟩
     simp only[aoperY,hg,aoper,acts,aS,sCall,hxs,hc,hN n hn];cases r<;>rfl
    ·exact h.elim
   ·rename_i id vs hg hxs;obtain⟨r,hk,N,hN⟩:=h;exact⟨r,hk,N,fun n hn=>by simp_all[aoperY]⟩
   ·exact h.elim
  |invoke r m=>exact other (fun _=>rfl) (fun _ _ _ e=>by cases e) h
  |builtin b=>exact other (fun _=>rfl) (fun _ _ _ e=>by cases e) h
 |_=>exact other (fun _=>rfl) (fun _ _ _ e=>by cases e) h
theorem vcGuard_ok{g:Option (Nat×Bool)}(h:vcGuard ops ρ g A B):(guardP ops ρ g=some true∧A)∨(guardP ops ρ g=some false∧B):=by
 unfold vcGuard at h;unfold guardP;split at h
 ·exact .inl ⟨rfl,h⟩
 ·rename_i j want;split at h
  ·rename_i t ht;simp only[ht];split at h
   ·rename_i b hb;simp only[hb];cases want<;>cases b
    ·exact .inl ⟨rfl,h.f rfl⟩
    ·exact .inr ⟨rfl,h.t rfl⟩
    ·exact .inr ⟨rfl,h.f rfl⟩
    ·exact .inl ⟨rfl,h.t rfl⟩
   ·grind
   ·exact h.elim
  ·exact h.elim
theorem vcOps_ok{ops:Array Oper}:∀{l:List Oper}{ρ:AEnv}{st:Sto}{K:AX→AEnv→Sto→Prop},vcOps C ops l ρ st K→∃x s',K x s'.env s'.st∧∃N,∀n,N≤n→aops C (ev C n) ops l ⟨ρ,st⟩=some (x,s')
 |[],ρ,st,K,h=>⟨.normal,⟨ρ,st⟩,h,0,fun _ _=>rfl⟩
 |o::l,ρ,st,K,h=>by
  rw[vcOps_cons] at h;rcases vcGuard_ok h with⟨hg,h1⟩|⟨hg,h1⟩
  ·obtain⟨ar,h2,N,hN⟩:=vcOp_ok h1;cases ar with
   |val v st=>
    obtain⟨x,s',hk,N',hN'⟩:=vcOps_ok (fenv_eq.1 h2);refine⟨x,s',hk,max N N',fun n hn=>?_⟩
    grind [aops]
   |unit st=>
    obtain⟨x,s',hk,N',hN'⟩:=vcOps_ok (fenv_eq.1 h2);refine⟨x,s',hk,max N N',fun n hn=>?_⟩
    grind [aops]
   |pan v st=>exact⟨_,⟨ρ,st⟩,h2,N,fun n hn=>by simp_all[aops]⟩
  ·obtain⟨x,s',hk,N',hN'⟩:=vcOps_ok (fenv_eq.1 h1);refine⟨x,s',hk,N',fun n hn=>?_⟩
   simp_all[aops]
theorem mapS_pure{n:Nat}:∀{l:List PV}{st:Sto},(∀x∈l,∀st,pubV C n x st=some (x,st))→mapS (pubV C n) l st=some (l,st)
 |[],st,_=>rfl
 |x::r,st,h=>by
  simp only[mapS,h x List.mem_cons_self st,mapS_pure (l:=r) (st:=st) fun y hy=>h y (List.mem_cons_of_mem _ hy)]
theorem pubV_pure:∀{C:Cfg}{n:Nat}{x:PV}{st:Sto},pur n x=true→pubV C n x st=some (x,st)
 |_,0,x,st,h=>by simp[pur] at h
 |C,n+1,x,st,h=>by
  have hall:∀{C:Cfg}{l:List PV}{st:Sto},l.all (pur n)=true→mapS (pubV C n) l st=some (l,st):=fun hl=>mapS_pure fun y hy st=>pubV_pure (List.all_eq_true.1 hl y hy)
  cases x with
  |ag cs=>simp_all[pur,pubV]
  |tu cs=>simp_all[pur,pubV]
  |fn f a b=>simp_all[pur,Bool.and_eq_true,pubV]
  |ifc t x=>simp only[pur] at h;simp only[pubV,pubV_pure h]
  |_=>first|(simp[pur] at h;done)|rfl
theorem pubL_pure{l:List PV}(h:l.all (pur 8)=true):pubL C l st=some (l,st):=mapS_pure fun x hx st=>pubV_pure (List.all_eq_true.1 h x hx)
def handed(C:Cfg)(f:FuncId)(args:List PV)(st:Sto):Option (List PV×Sto):=match C.raw f with
 |true=>some (args,st)
 |false=>pubL C args st
theorem handed_pure(hp:args.all (pur 8)=true):handed C f args st=some (args,st):=by
 unfold handed;cases C.raw f
 ·exact pubL_pure hp
 ·rfl
theorem acallS_eq{e:Ev}{st':Sto}(h:handed C f args st=some (args',st')):acallS C e f args st=match args'.all (pur 8) with
  |true=>match e.call f args' [] with
   |some (r,st1)=>match endPur r with
    |true=>some (r,st')
    |false=>comeBack [] st' r st1
   |none=>none
  |false=>acallM (e.call f) args' (close st' 64 (args'.flatMap (ids 8)) []).reverse st':=by
 grind [handed,acallS]
theorem vcDrawOp_ok{o:Oper}{K:PV→Sto→DK→Prop}{Kp:PV→Sto→Prop}(hg:guardP ops ρ o.guard=some true)(h:vcDrawOp C (actK ops o) o.op ρ st K Kp):(∃v st' d,K v st' d∧∃N,∀n,N≤n→drawOp C (ev C n) ops o ρ st=some (v,st',d)) ∨
  (∃v st',Kp v st'∧∃N,∀n,N≤n→drawOp C (ev C n) ops o ρ st=none∧panOp C (ev C n) ops o ρ st=some (v,st')):=by
 generalize hop:o.op=op at *;have other:(∀g xs ts,op≠.call ⟨.value g,xs,ts⟩)→(∀e,pureAct C e ρ op=pureAct C ev0 ρ op)→((∃T len parts,op=.buildSlice T len parts)∨pureAct C ev0 ρ op=none)→vcPure C ρ st op (fun v d=>match d with
   |none=>K v st .p
   |some id=>K v st (.k id)) (vcDrawAct C (actK ops o) op ρ st K)→∃v st' d,K v st' d∧∃N,∀n,N≤n→drawOp C (ev C n) ops o ρ st=some (v,st',d):=fun hno he1 hbs h=>by
  rcases vcPure_ok h with⟨v,⟨h1,h2⟩|⟨h1,h2,id,h3,h4⟩⟩|⟨hp,h⟩
  ·exact⟨_,_,_,h2,0,fun n _=>by simp_all[drawOp]⟩
  ·exact⟨_,_,_,h4,0,fun n _=>by simp_all[drawOp]⟩
  ·unfold vcDrawAct at h;split at h
   ·rename_i v hv;split at h
    ·rename_i id hid;exact⟨_,_,_,h,0,fun n _=>by simp_all[drawOp]⟩
    ·exact h.elim
   ·rename_i hk;split at h
    ·rename_i T len parts;split at h
     ·rename_i v hv;exact⟨_,_,_,h,0,fun n _=>by simp_all[drawOp]⟩
     ·rename_i ha;split at h
      ·rename_i v st1 hv;have hv':∀e,aS C e ρ st o.op=some (.val v st1):=fun e=>by rw[hop];exact hv
       rw[hop] at hv';exact⟨_,_,_,h,0,fun n _=>by simp_all[drawOp]⟩
      ·exact h.elim
    ·rename_i hnb;have ha:pureAct C ev0 ρ op=none:=hbs.resolve_left (fun⟨_,_,_,e⟩=>hnb _ _ _ e)
     obtain⟨ar,h1,h2⟩:=vcActs_ok hno h;have h1':∀e,aS C e ρ st op=some ar:=fun e=>by
      have:=h1 e
      grind
     cases ar with
     |val v st1=>exact⟨_,_,_,h2,0,fun n _=>by simp_all[drawOp]⟩
     |unit st1=>exact⟨_,_,_,h2,0,fun n _=>by simp_all[drawOp]⟩
     |pan v st1=>exact h2.elim
 cases op with
 |call c=>
  obtain⟨callee,xs,ts⟩:=c;cases callee with
  |value g=>
   simp only[vcDrawOp] at h;split at h
   ·rename_i f a b vs hgv hxs;split at h
    ·rename_i hc;split at h
     ·rename_i hp;obtain⟨r,st',hk,N,hN⟩:=h;cases r with
      |ret rs=>
       have hcp:(callable C.P f&&(a++vs++b).all (pur 8))=true:=by rw[hc,hp];rfl
       refine .inl ?_;rcases hk with⟨hr,hk⟩|⟨hr,r',st2,hb,hk⟩
       ·refine⟨_,_,_,hk,N,fun n hn=>?_⟩
        simp only[drawOp,hg,hop,aP,aK,pureAct,hgv,hxs,hcp,hN n hn,hr]
       ·cases r' with
        |ret rs'=>
         refine⟨_,_,_,hk,N,fun n hn=>?_⟩
         have hca:acallS C (ev C n) f (a++vs++b) st=some (.ret rs',st2):=by
          rw[acallS_eq (handed_pure hp)]
          grind [endPur]
         simp only[drawOp,hg,hop,aP,aK,pureAct,hgv,hxs,hcp,hN n hn,hr,hp,Bool.and_self,aS,sCall,hc,hca,actK]
        |pan v=>exact hk.elim
      |pan v=>
       obtain⟨hv,hk⟩:=hk;have hcp:(callable C.P f&&(a++vs++b).all (pur 8))=true:=by rw[hc,hp];rfl
       refine .inr ⟨_,_,hk,N,fun n hn=>?_⟩
       have hca:acallS C (ev C n) f (a++vs++b) st=some (.pan v,st):=by
        rw[acallS_eq (handed_pure hp)]
        grind [endPur]
       exact⟨by simp only[drawOp,hg,hop,aP,aK,pureAct,hgv,hxs,hN n hn,aS,sCall,hc,hca,hp,Bool.and_self],by simp_all[panOp,sCall]⟩
     ·rename_i hp;obtain⟨r,st',hk,N,hN⟩:=h;cases r with
      |ret rs=>
       refine .inl ⟨_,_,_,hk,N,fun n hn=>?_⟩
       simp only[drawOp,hg,hop,aP,aK,pureAct,hgv,hxs,hp,Bool.and_false,aS,sCall,hc,hN n hn,actK]
      |pan v=>exact .inr ⟨_,_,hk,N,fun n hn=>⟨by simp only[drawOp,hg,hop,aP,aK,pureAct,hgv,hxs,hp,Bool.and_false,aS,sCall,hc,hN n hn],by simp_all[panOp,sCall]⟩⟩
    ·exact h.elim
   ·exact h.elim
  |invoke r m=>exact .inl <|other (fun _ _ _ e=>by cases e) (fun _=>rfl) (.inr rfl) h
  |builtin b=>exact .inl <|other (fun _ _ _ e=>by cases e) (fun _=>rfl) (.inr rfl) h
 |buildSlice T len parts=>exact .inl <|other (fun _ _ _ e=>by cases e) (fun _=>rfl) (.inl ⟨_,_,_,rfl⟩) h
 |_=>exact .inl <|other (fun _ _ _ e=>by cases e) (fun _=>rfl) (.inr rfl) h
theorem vcRest_ok{ops:Array Oper}{cl:List (List Nat)}{q:Nat}:∀{l:List Oper}{i:Nat}{ρ:AEnv}{st:Sto}{K:List Tr→List (Option (PV×DK))→Prop},vcRest C ops cl q l i ρ st K→∃s' tr W,K tr W∧∃N,∀n,N≤n→drawRest C (ev C n) ops cl q l i ⟨ρ,st⟩=some (s',tr)∧restEnvs C (ev C n) ops cl q l i ⟨ρ,st⟩=rowsOf ops l ρ W
 |[],i,ρ,st,K,h=>⟨⟨ρ,st⟩,[],[],h,0,fun _ _=>⟨rfl,rfl⟩⟩
 |o::l,i,ρ,st,K,h=>by
  rw[vcRest_cons] at h;split at h
  ·rename_i hh;obtain⟨s',tr,W,hk,N,hN⟩:=vcRest_ok h;exact⟨s',_,_,hk,N,fun n hn=>by simp_all[drawRest,restEnvs,rowsOf]⟩
  ·rename_i hh;rcases vcGuard_ok h with⟨hg,h1⟩|⟨hg,h1⟩
   ·rcases vcDrawOp_ok (ops:=ops) hg (vtch_ok h1) with⟨v,st1,d,h2,N,hN⟩|⟨_,_,h2,_⟩
    ·obtain⟨s',tr,W,hk,N',hN'⟩:=vcRest_ok (fenv_eq.1 h2);exact⟨s',_,_,hk,max N N',fun n hn=>by grind [drawRest,restEnvs,rowsOf]⟩
    ·exact h2.elim
   ·obtain⟨s',tr,W,hk,N',hN'⟩:=vcRest_ok (fenv_eq.1 h1);refine⟨s',_,_,hk,N',fun n hn=>?_⟩
    simp_all[drawOp,drawRest,restEnvs,rowsOf]
theorem vcDraw_ok{ops:Array Oper}{cl:List (List Nat)}:∀{l:List Oper}{i:Nat}{ρ:AEnv}{st:Sto}{K:AEnv→Sto→List Tr→List (Option (PV×DK))→Prop}{Kp:PV→Sto→Nat→List Tr→List (Option (PV×DK))→Prop},vcDraw C ops cl l i ρ st K Kp →
  (∃s' tr W,K s'.env s'.st tr W∧∃N,∀n,N≤n→drawRun C (ev C n) ops l ⟨ρ,st⟩=some (s',tr)∧drawEnvs C (ev C n) ops l ⟨ρ,st⟩=rowsOf ops l ρ W)∨(∃v sx q tr W,Kp v sx q tr W∧∃N,∀n,N≤n→drawRun C (ev C n) ops l ⟨ρ,st⟩=none∧drawPan C (ev C n) ops cl l i ⟨ρ,st⟩=some (v,sx,tr)∧panEnvs C (ev C n) ops cl l i ⟨ρ,st⟩=(q,rowsOf ops l ρ W))
 |[],i,ρ,st,K,Kp,h=>.inl ⟨⟨ρ,st⟩,[],[],h,0,fun _ _=>⟨rfl,rfl⟩⟩
 |o::l,i,ρ,st,K,Kp,h=>by
  rw[vcDraw_cons] at h;rcases vcGuard_ok h with⟨hg,h1⟩|⟨hg,h1⟩
  ·rcases vcDrawOp_ok (ops:=ops) hg (vtch_ok h1) with⟨v,st1,d,h2,N,hN⟩|⟨v,st1,h2,N,hN⟩
   ·rcases vcDraw_ok (fenv_eq.1 h2) with⟨s',tr,W,hk,N',hN'⟩|⟨x,sx,q,tr,W,hk,N',hN'⟩
    ·refine .inl ⟨s',_,_,hk,max N N',fun n hn=>?_⟩
     have h3:=hN n (by omega)
     obtain⟨h4,h5⟩:=hN' n (by omega)
     exact⟨by simp only[drawRun,h3,h4],by simp only[drawEnvs,rowsOf,h3,h5]⟩
    ·refine .inr ⟨x,sx,q,_,_,hk,max N N',fun n hn=>?_⟩
     have h3:=hN n (by omega)
     obtain⟨h4,h5,h6⟩:=hN' n (by omega)
     exact⟨by simp only[drawRun,h3,h4],by simp only[drawPan,h3,h5],by simp only[panEnvs,rowsOf,h3,h6]⟩
   ·obtain⟨s',tr,W,hk,N',hN'⟩:=vcRest_ok h2;refine .inr ⟨v,st1,i,_,_,hk,max N N',fun n hn=>?_⟩
    obtain⟨h3,h3'⟩:=hN n (by omega)
    obtain⟨h4,h5⟩:=hN' n (by omega)
    exact⟨by simp only[drawRun,h3],by simp only[drawPan,h3,h3',h4],by simp only[panEnvs,rowsOf,h3,h5]⟩
  ·have hd:∀n,drawOp C (ev C n) ops o (aonly (looks ops o) ρ) st=some (.tu [],st,.p):=fun n=>by simp only[drawOp,hg]
   rcases vcDraw_ok (fenv_eq.1 h1) with⟨s',tr,W,hk,N',hN'⟩|⟨x,sx,q,tr,W,hk,N',hN'⟩
   ·exact .inl ⟨s',_,_,hk,N',fun n hn=>by simp_all[drawRun,drawEnvs,rowsOf]⟩
   ·exact .inr ⟨x,sx,q,_,_,hk,N',fun n hn=>⟨by simp_all[drawRun],by simp_all[drawPan],by simp_all[panEnvs,rowsOf]⟩⟩
theorem VC_ok:∀{c:Code}{ρ:AEnv}{st:Sto}{K:AX→AEnv→Sto→Prop},VC C c ρ st K→∃x s',K x s'.env s'.st∧∃N,∀n,N≤n→exec C (ev C n) c ⟨ρ,st⟩=some (x,s'):=by
 intro c
 induction c with
 |skip=>intro ρ st K h;exact⟨_,⟨ρ,st⟩,h,0,fun _ _=>rfl⟩
 |region id ops draw=>
  intro ρ st K h;cases draw with
  |false=>
   obtain⟨x,s',hk,N,hN⟩:=vcOps_ok h;exact⟨x,s',hk,N,fun n hn=>by simp_all[exec]⟩
  |true=>
   rcases vcDraw_ok h with⟨s',tr,W,⟨hd,hk⟩,N,hN⟩|⟨v,sx,q,tr,W,hd,N,hN⟩
   ·rw[Bool.or_eq_true] at hd;rcases hd with hd|hd
    ·exact⟨_,s',hk,N,fun n hn=>by simp[exec,adraw,(hN n hn).1,hd]⟩
    ·obtain⟨hst,N2,h2⟩:=@of_decide_eq_true _ (_) hd;refine⟨_,s',hk,max N N2,fun n hn=>?_⟩
     obtain⟨h3,h4⟩:=hN n (by omega)
     have h5:drawOk3 C (ev C n) ops ⟨ρ,st⟩ s'=true:=@decide_eq_true _ (_) ⟨hst,by rw[h4];exact h2 n (by omega)⟩
     simp[exec,adraw,h3,h5]
   ·rcases hd with⟨hd,hk⟩|⟨hd,hd3,hk⟩
    ·exact⟨_,⟨_,sx⟩,fenv_eq.1 hk,N,fun n hn=>by simp[exec,adraw,(hN n hn).1,(hN n hn).2.1,hd]⟩
    ·obtain⟨hst,N2,h2⟩:=@of_decide_eq_true _ (_) hd3;refine⟨_,⟨_,_⟩,fenv_eq.1 hk,max N N2,fun n hn=>?_⟩
     obtain⟨h3,h4,h5⟩:=hN n (by omega)
     have h6:panOk3 C (ev C n) ops ⟨ρ,st⟩ v (wipe (actL tr) 0 st)=true:=@decide_eq_true _ (_) ⟨hst.1,hst.2,by rw[h5];exact h2 n (by omega)⟩
     simp[exec,adraw,h3,h4,h6,hd]
 |seq a b iha ihb=>
  intro ρ st K h;obtain⟨x,s1,hk,N,hN⟩:=iha h;cases x with
  |normal=>
   obtain⟨x',s',hk',N',hN'⟩:=ihb hk;exact⟨x',s',hk',max N N',fun n hn=>by simp only[exec,hN n (by omega)];exact hN' n (by omega)⟩
  |_=>exact⟨_,s1,hk,N,fun n hn=>by simp_all[exec]⟩
 |cond c a b iha ihb=>
  intro ρ st K h;have h:(match aval ρ c with
   |some (.sc (.bool v))=>VIf v (VC C a ρ st K) (VC C b ρ st K)
   |_=>False):=h
  split at h
  ·rename_i v hv;cases v with
   |true=>
    obtain⟨x,s',hk,N,hN⟩:=iha (h.t rfl);exact⟨x,s',hk,N,fun n hn=>by simp_all[exec]⟩
   |false=>
    obtain⟨x,s',hk,N,hN⟩:=ihb (h.f rfl);exact⟨x,s',hk,N,fun n hn=>by simp_all[exec]⟩
  ·exact h.elim
 |block id c ih=>
  intro ρ st K h;obtain⟨x,s1,hk,N,hN⟩:=ih h;cases x with
  |exit i=>
   simp only at hk;cases hb:Nat.beq i id with
   |true=>rw[hb] at hk;exact⟨_,s1,hk,N,fun n hn=>by simp_all[exec]⟩
   |false=>rw[hb] at hk;exact⟨_,s1,hk,N,fun n hn=>by simp_all[exec]⟩
  |_=>exact⟨_,s1,hk,N,fun n hn=>by simp_all[exec]⟩
 |loop c _=>
  intro ρ st K h;obtain⟨x,s',hk,N,hN⟩:=h;exact⟨x,s',hk,N,fun n hn=>hN n hn⟩
 |exit i=>intro ρ st K h;exact⟨_,⟨ρ,st⟩,h,0,fun _ _=>rfl⟩
 |ret=>intro ρ st K h;exact⟨_,⟨ρ,st⟩,h,0,fun _ _=>rfl⟩
 |rangeFunc f ps a b _ _=>
  intro ρ st K h;unfold VC at h;dsimp only at h;split at h
  ·rename_i g xs ys hg;split at h
   ·rename_i hc;obtain⟨r,st',hk,N,hN⟩:=h;split at hk
    ·rename_i rs;split at hk
     ·rename_i ρ' ps' a' b' l hl;split at hk
      ·exact⟨_,⟨ρ,st'.set st.length .dead⟩,hk,N,fun n hn=>by simp_all[exec,execRange]⟩
      ·exact⟨_,⟨ρ,st'.set st.length .dead⟩,hk,N,fun n hn=>by simp_all[exec,execRange]⟩
      ·exact⟨_,⟨ρ,st'.set st.length .dead⟩,hk,N,fun n hn=>by simp_all[exec,execRange]⟩
      ·exact hk.elim
     ·exact hk.elim
    ·exact hk.elim
   ·exact h.elim
  ·exact h.elim
 |_=>intro ρ st K h;exact h.elim
inductive VRet (C:Cfg) (f:FuncId) (k0:Nat) (rs:List PV) (st:Sto) (Q:AEnd→Sto→Prop):Prop where
 |mk (rs':List PV) (st':Sto) (h:aret C f k0 rs st=some (rs',st')) (k:Q (.ret rs') st')
def endV(C:Cfg)(f:FuncId)(rv:List ResultVar)(k0:Nat)(Q:AEnd→Sto→Prop):AX→AEnv→Sto→Prop
 | .normal,ρ,st | .ret,ρ,st=>match mapO (resP C.P ⟨ρ,st⟩) rv with
  |some rs=>VRet C f k0 rs st Q
  |none=>False
 | .pan v,_,st=>Q (.pan v) (panS k0 v st)
 |_,_,_=>False
theorem run_intro{fn:Func}(hf:C.P.funcs[f]?=some fn)(hnat:C.nat f=none)(hb:fn.body=some c)(ha:Nat.ble args.length fn.ntmps=true)
  (h:VC C c (argE 0 args) st (endV C f fn.results.toList st.length Q)) (hcut:cutC c=false:=by rfl):Finds C f args st Q:=by
 obtain⟨x,s',hk,N,hN⟩:=VC_ok h;have main:∃r st',Q r st'∧endF C f fn st.length x s'=some (r,st'):=by
  cases x with
  |normal=>
   simp only[endV] at hk;split at hk
   ·rename_i rs hrs;obtain⟨rs',st',h1,h2⟩:=hk
    simp_all[endF]
   ·exact hk.elim
  |ret=>
   simp only[endV] at hk;split at hk
   ·rename_i rs hrs;obtain⟨rs',st',h1,h2⟩:=hk
    simp_all[endF]
   ·exact hk.elim
  |pan v=>exact⟨_,_,hk,rfl⟩
  |exit i=>exact hk.elim
 obtain⟨r,st',hq,hr⟩:=main;refine⟨r,st',hq,N+1,fun n hn=>?_⟩
 obtain⟨k,rfl⟩:∃k,n=k+1:=⟨n-1,by omega⟩
 show callF C (ev C k) f args st=_
 grind [callF]
noncomputable def VCD(C:Cfg)(c:Code):AEnv→Sto→(AX→AEnv→Sto→Option PV→Prop)→Prop:=
 Code.rec (motive:=fun _=>AEnv→Sto→(AX→AEnv→Sto→Option PV→Prop)→Prop)
  (fun ρ st K=>K .normal ρ st none)
  (fun id ops draw ρ st K=>VC C (.region id ops draw) ρ st fun x ρ st=>K x ρ st none)
  (fun a b _ vb ρ st K=>match cutR a with
   |some (ops,o,g)=>vcOps C ops [o] ρ st fun x ρ st=>match x with
    | .normal=>match aval ρ g with
     |some (.fn D p q)=>VC C b ρ st fun x ρ st=>K x ρ st (some (.fn D p q))
     |_=>False
    |_=>False
   |none=>VC C a ρ st fun x ρ st=>match x with
    | .normal=>vb ρ st K
    |x=>K x ρ st none)
  (fun c a b _ _ ρ st K=>VC C (.cond c a b) ρ st fun x ρ st=>K x ρ st none)
  (fun id c _ ρ st K=>VC C (.block id c) ρ st fun x ρ st=>K x ρ st none)
  (fun c _ ρ st K=>VC C (.loop c) ρ st fun x ρ st=>K x ρ st none)
  (fun f ps a b _ _ ρ st K=>VC C (.rangeFunc f ps a b) ρ st fun x ρ st=>K x ρ st none)
  (fun i ρ st K=>VC C (.exit i) ρ st fun x ρ st=>K x ρ st none)
  (fun _ _ _ _ _=>False)
  (fun _ _ _ _=>False)
  (fun _ _ _ _=>False)
  (fun ρ st K=>VC C .ret ρ st fun x ρ st=>K x ρ st none)
  (fun _ _ _ _=>False)
  c
def dendV(K:Option PV→Sto→Prop):AX→AEnv→Sto→Prop
 | .normal,_,st | .ret,_,st=>K none st
 | .pan v,_,st=>K (some v) st
 |_,_,_=>False
inductive VDef (C:Cfg) (D:FuncId) (args:List PV) (v:Option PV) (st:Sto) (K:Option PV→Sto→Prop):Prop where
 |mk (fn:Func) (c:Code) (ops:Array Oper) (d:Nat) (r:List Oper) (rest:Code) (hf:C.P.funcs[D]?=some fn) (hb:fn.body=some c) (hr:recC c=some (ops,d,r,rest)) (hok:(Nat.ble args.length fn.ntmps&&(callable C.P D&&(fn.results.toList.isEmpty&&(!cutC c&&flatC rest))))=true)
  (h:vcOps C ops r (aput (some d) (nilOr v) (argE 0 args)) st fun x ρ st=>match x with
   | .normal=>VC C rest ρ st (dendV K)
   |x=>dendV K x ρ st)
def endDV(C:Cfg)(f:FuncId)(rv:List ResultVar)(k0:Nat)(Q:AEnd→Sto→Prop)(x:AX)(ρ:AEnv)(st:Sto)(cl:Option PV):Prop:=match cl with
 |none=>endV C f rv k0 Q x ρ st
 |some (.fn D p q)=>match panOf x with
  |some v=>VDef C D (p++q) v st fun o st'=>match o with
   |none=>endV C f rv k0 Q .ret ρ st'
   |some v'=>Q (.pan v') (panS k0 v' st')
  |none=>False
 |some _=>False
inductive VAgain (C:Cfg) (ks:List Nat) (k0:Nat) (ρ:AEnv) (st:Sto) (K:AS→Prop):Prop where
 |mk (ρ':AEnv) (h:canon ks ρ=some ρ') (st':Sto) (h':gc k0 ρ' st=st') (k:K ⟨ρ',st'⟩) (hs:C.sqz=false:=by rfl)
 |sq (ρ':AEnv) (h:canon ks ρ=some ρ') (st1:Sto) (h':gc k0 ρ' st=st1) (hs:C.sqz=true) (vs:List PV) (st':Sto) (h2:squeeze k0 (ρ'.map (·.2)) st1=(vs,st')) (k:K ⟨rezip ρ' vs,st'⟩)
theorem VAgain.eq{C:Cfg}{K:AS→Prop}(h:VAgain C ks k0 ρ st K):∃ρ',canon ks ρ=some ρ'∧∃ρ2 st2,again C k0 ρ' st=(ρ2,st2)∧K ⟨ρ2,st2⟩:=by
 cases h with
 |mk ρ' h st' h' k hs=>grind [again]
 |sq ρ' h st1 h' hs vs st' h2 k=>grind [again]
theorem loop_intro{K:AX→AS→Prop}(S:G→AS)(I:G→Prop)(μ:G→Nat)
  (h:∀g,I g→VC C c (S g).env (S g).st fun x ρ' st'=>match x with
   | .normal=>VAgain C ks k0 ρ' st' fun s=>∃g',I g'∧μ g'<μ g∧s=S g'
   |x=>K x ⟨ρ',st'⟩):∀g,I g→FindsL C ks k0 c (S g) K:=by
 have main:∀(k:Nat) g,μ g<k→I g→FindsL C ks k0 c (S g) K:=by
  intro k
  induction k with
  |zero=>intro g hg;omega
  |succ k ih=>
   intro g hg hi;obtain⟨x,s',hk,N,hN⟩:=VC_ok (h g hi);have fin:∀(hx:x≠.normal) (hk:K x s'),FindsL C ks k0 c (S g) K:=fun hx hk=>by
    refine⟨x,s',hk,N+1,fun n hn=>?_⟩
    obtain⟨q,rfl⟩:∃q,n=q+1:=⟨n-1,by omega⟩
    show loopF C (ev C q) ks k0 c (S g)=_
    simp_all[loopF]
   cases x with
   |normal=>
    obtain⟨ρ,h1,ρ2,st2,h0,g',hi',hm,h2⟩:=hk.eq;obtain⟨x',s'',hk',N',hN'⟩:=ih g' (by omega) hi'
    refine⟨x',s'',hk',max N N'+1,fun n hn=>?_⟩
    obtain⟨q,rfl⟩:∃q,n=q+1:=⟨n-1,by omega⟩
    show loopF C (ev C q) ks k0 c (S g)=_
    simp only[loopF,hN q (by omega),h1,h0,h2]
    exact hN' q (by omega)
   |_=>exact fin (by simp) hk
 exact fun g hi=>main (μ g+1) g (by omega) hi
theorem vcall_pure(hp:args.all (pur 8)=true)(h:Finds C f args [] fun r _=>endPur r=true∧K r st):VCall C f args st K:=by
 obtain⟨r,st',⟨h1,h2⟩,N,hN⟩:=h;refine⟨r,st,h2,N,fun n hn=>?_⟩
 rw[acallS_eq (handed_pure hp)]
 grind
theorem vcall_row{i n:Nat}(hraw:C.raw f=false)(hst:st[i]?=some (.row b T z xs))(hn:n=xs.length)(hp:xs.all (pur 6)=true)
  (h:Finds C f [.sl false z xs] [] fun r _=>r=.ret rs) (hr:rs.all (pur 8)=true) (k:K (.ret rs) (st.set i (.row true T z xs))):VCall C f [.ms i n] st K:=by
 obtain⟨r,st',rfl,N,hN⟩:=h;refine⟨.ret rs,st.set i (.row true T z xs),k,N,fun m hm=>?_⟩
 have h1:(Nat.beq n xs.length&&xs.all (pur 6))=true:=by simp_all
 have h2:handed C f [.ms i n] st=some ([.sl false z xs],st.set i (.row true T z xs)):=by
  simp only[handed,hraw,pubL,mapS,pubV,pubRow,hst,h1]
 have h3:([.sl false z xs]:List PV).all (pur 8)=true:=rfl;have h4:endPur (.ret rs)=true:=hr;rw[acallS_eq h2]
 grind
theorem vcall_st{args0:List PV}(hw:handed C f args st=some (args',st1))(hp:args'.all (pur 8)=false)(hπ:(close st1 64 (args'.flatMap (ids 8)) []).reverse=π)
  (hi:args'.all (inIds (fun i=>π.elem i) 8)=true) (hf:fetch (fun i=>place i 0 π) (fun i=>π.elem i) st1 π=some st0) (ha:args'.map (renPV (fun i=>place i 0 π) 8)=args0)
  (h:Finds C f args0 st0 fun r st2=>VBack π st1 r st2 K):VCall C f args st K:=by
 obtain⟨r,st2,⟨r',st',h1,h2⟩,N,hN⟩:=h;refine⟨r',st',h2,N,fun n hn=>?_⟩
 rw[acallS_eq hw]
 grind [acallM]
theorem vcall_made(hp:args.all (pur 8)=true)(h:Finds C f args [] fun r st1=>endPur r=false∧VBack [] st r st1 K):VCall C f args st K:=by
 obtain⟨r,st1,⟨h1,r',st',h3,h2⟩,N,hN⟩:=h;refine⟨r',st',h2,N,fun n hn=>?_⟩
 rw[acallS_eq (handed_pure hp)]
 grind
theorem aret_pure(hp:rs.all (pur 8)=true)(hst:st=st0++junk)(h0:st0.all (soIn fun i=>Nat.blt i st0.length)=true):aret C f st0.length rs st=some (rs,st0):=by
 subst hst;have ht:(st0++junk).take st0.length=st0:=by simp
 unfold aret;cases hk:C.keep f<;>simp only[pubL_pure hp,hp,ht,h0,Bool.and_self]
def Pf(C:Cfg)(f:FuncId)(args rs:List PV):Prop:=Finds C f args [] fun r _=>r=.ret rs
theorem vcall_pf(h:Pf C f args rs)(hp:args.all (pur 8)=true)(hr:rs.all (pur 8)=true)(k:K (.ret rs) st):VCall C f args st K:=
 vcall_pure hp (Finds.mono h fun r _ e=>by subst e;exact⟨hr,k⟩)
theorem finds_pf(h:Pf C f args rs)(k:∀st,K (.ret rs) st):Finds C f args [] K:=Finds.mono h fun r st e=>by subst e;exact k st
theorem vret_pf(hp:rs.all (pur 8)=true)(k:Q (.ret rs) []):VRet C f 0 rs st Q:=
 ⟨rs,[],aret_pure (st0:=[]) hp rfl rfl,k⟩
theorem VIf.tt(h:b=true)(a:A):VIf b A B:=⟨fun _=>a,fun e=>Bool.noConfusion (h.symm.trans e)⟩
theorem VIf.ff(h:b=false)(a:B):VIf b A B:=⟨fun e=>Bool.noConfusion (h.symm.trans e),fun _=>a⟩
theorem VIf.not(h:VIf b B A):VIf (!b) A B:=⟨fun e=>h.f (by cases b<;>simp_all),fun e=>h.t (by cases b<;>simp_all)⟩
theorem VIf.dec[Decidable p](a:p→A)(b:¬p→B):VIf (decide p) A B:=⟨fun e=>a (of_decide_eq_true e),fun e=>b (of_decide_eq_false e)⟩
theorem VIf.dtt[Decidable p](h:p)(a:A):VIf (decide p) A B:=.tt (decide_eq_true h) a
theorem VIf.dff[Decidable p](h:¬p)(b:B):VIf (decide p) A B:=.ff (decide_eq_false h) b
theorem VNat.nonneg{i:Int}{K:Nat→Prop}(h:0≤i)(k:K i.toNat):VNat i K:=⟨i.toNat,by grind,k⟩
theorem szOk_of{P:Program}{sz:Nat}{e:TypeId}(ht:tsl P T=some (e,z))(h:sz=z∨xs=[]):szOk P T sz xs=true:=by
 unfold szOk;rw[ht];rcases h with rfl|rfl<;>simp
theorem gc_same(h:st.length=k0):gc k0 ρ st=st:=by
 unfold gc;rw[h,Nat.beq_refl]
theorem inIds_ids{f:Nat→Bool}:∀{n:Nat}{x:PV},inIds f n x=true→∀j∈ids n x,f j=true
 |0,_,h,j,hj=>by simp[inIds] at h
 |n+1,x,h,j,hj=>by
  have hall:∀{l:List PV},l.all (inIds f n)=true→j∈l.flatMap (ids n)→f j=true:=fun hl hj=>by
   obtain⟨y,hy,hj⟩:=List.mem_flatMap.1 hj;exact inIds_ids (List.all_eq_true.1 hl y hy) j hj
  cases x with
  |ag cs=>grind [inIds,ids]
  |tu cs=>grind [inIds,ids]
  |ci cs=>grind [inIds,ids]
  |fn g a b=>
   simp only[inIds,ids,Bool.and_eq_true,List.mem_append] at h hj
   grind
  |ifc t x=>simp only[inIds,ids] at h hj;exact inIds_ids h j hj
  |ms id len=>simp_all[inIds,ids,List.mem_singleton]
  |bp id off=>simp_all[inIds,ids,List.mem_singleton]
  |yl id=>simp_all[inIds,ids,List.mem_singleton]
  |mr id=>simp_all[inIds,ids,List.mem_singleton]
  |cr id=>simp_all[inIds,ids,List.mem_singleton]
  |rp id len i off=>simp_all[inIds,ids,List.mem_singleton]
  |sc v=>simp[ids] at hj
  |sl b z xs=>simp[ids] at hj
  |cp cs=>simp[ids] at hj
  |un=>simp[ids] at hj
theorem soIn_ids{f:Nat→Bool}{o:SO}(h:soIn f o=true):∀j∈idsSO o,f j=true:=by
 have hall:∀{l:List PV},l.all (inIds f 8)=true→∀j∈l.flatMap (ids 8),f j=true:=fun hl j hj=>by
  obtain⟨y,hy,hj⟩:=List.mem_flatMap.1 hj;exact inIds_ids (List.all_eq_true.1 hl y hy) j hj
 cases o with
 |box T cs=>exact hall h
 |frz cs=>exact hall h
 |row p e z xs=>exact hall h
 |dead=>simp_all[idsSO]
 |lp ρ ps a b s=>
  intro j hj;obtain⟨p,hp,hj⟩:=List.mem_flatMap.1 hj;exact inIds_ids (List.all_eq_true.1 h p hp) j hj
 |mp ks vs=>exact hall h
 |ch c q=>exact hall h
theorem close_lt{st:Sto}{k0:Nat}(hst:∀i o,i<k0→st[i]?=some o→∀j∈idsSO o,j<k0):∀{n:Nat}{work acc:List Nat},(∀i∈work,i<k0)→(∀i∈acc,i<k0)→∀i∈close st n work acc,i<k0
 |0,_,_,_,ha=>ha
 |n+1,[],_,_,ha=>ha
 |n+1,w::r,acc,hw,ha=>by
  simp only[close];split
  ·exact close_lt hst (fun i hi=>hw i (List.mem_cons_of_mem _ hi)) ha
  ·refine close_lt hst (fun i hi=>?_) (fun i hi=>?_)
   ·grind
   grind
theorem sweep_deads{k0:Nat}{acc:List Nat}(ha:∀i∈acc,i<k0):∀{junk:Sto}{k:Nat},k0≤k→deads (sweep k0 acc k junk)=true
 |[],_,_=>rfl
 |o::r,k,hk=>by
  have h1:(Nat.blt k k0||acc.elem k)=false:=by
   rw[Bool.or_eq_false_iff];refine⟨Bool.eq_false_iff.2 (fun e=>by rw[Nat.blt_eq] at e;omega),?_⟩
   grind
  simp only[sweep,h1,deads];exact sweep_deads ha (by omega)
theorem trim_sweep{k0:Nat}{acc:List Nat}(ha:∀i∈acc,i<k0){junk:Sto}:∀{st0:Sto}{k:Nat},k+st0.length=k0→trim st0.length (sweep k0 acc k (st0++junk))=st0
 |[],k,hk=>by
  have:=sweep_deads ha (junk:=junk) (k:=k) (by simp at hk;omega)
  simp only[List.length_nil,List.nil_append];cases hs:sweep k0 acc k junk with
  |nil=>rfl
  |cons o r=>simp_all[trim]
 |o::st0,k,hk=>by
  simp only[List.length_cons] at hk;have h1:Nat.blt k k0=true:=by rw[Nat.blt_eq];omega
  simp only[List.cons_append,sweep,List.length_cons,trim,h1,Bool.true_or];rw[trim_sweep ha (by omega)]
theorem gc_drop(h:st=st0++junk)(hk:st0.length=k0)(h1:ρ.all (fun p=>inIds (fun i=>Nat.blt i k0) 8 p.2)=true)(h2:st0.all (soIn fun i=>Nat.blt i k0)=true):gc k0 ρ st=st0:=by
 subst h;subst hk;unfold gc;split
 ·simp_all
 ·have hlt:∀{i:Nat},Nat.blt i st0.length=true→i<st0.length:=fun h=>by rwa [Nat.blt_eq] at h
  have hst:∀(i:Nat) (o:SO),i<st0.length→(st0++junk)[i]?=some o→∀j∈idsSO o,j<st0.length:=fun i o hi ho j hj=>by
   rw[List.getElem?_append_left hi] at ho;exact hlt (soIn_ids (List.all_eq_true.1 h2 o (List.mem_of_getElem? ho)) j hj)
  have hacc:=close_lt (st:=st0++junk) (k0:=st0.length) hst (n:=64) (work:=ρ.flatMap (fun p=>ids 8 p.2)++((st0++junk).take st0.length).flatMap idsSO) (acc:=[]) (fun i hi=>by
   rcases List.mem_append.1 hi with h|h
   ·obtain⟨p,hp,hj⟩:=List.mem_flatMap.1 h;exact hlt (inIds_ids (List.all_eq_true.1 h1 p hp) i hj)
   ·rw[List.take_left'  rfl] at h;obtain⟨o,ho,hj⟩:=List.mem_flatMap.1 h;exact hlt (soIn_ids (List.all_eq_true.1 h2 o ho) i hj)) (fun i hi=>by simp at hi)
  simp only;rw[trim_sweep hacc (k:=0) (by omega)]
  grind
theorem gc_take(hk:Nat.ble k0 st.length=true)(h1:ρ.all (fun p=>inIds (fun i=>Nat.blt i k0) 8 p.2)=true)(h2:(st.take k0).all (soIn fun i=>Nat.blt i k0)=true):gc k0 ρ st=st.take k0:=
 gc_drop (junk:=st.drop k0) (List.take_append_drop k0 st).symm (by simp_all) h1 h2
def ofind(t:Nat):List (Nat×PV)→Option PV
 |[]=>none
 |(k,v)::r=>match Nat.beq k t with
  |true=>some v
  |false=>ofind t r
def over(up:List (Nat×PV)):AEnv→AEnv
 |[]=>[]
 |(t,v)::r=>(t,match ofind t up with
  |some w=>w
  |none=>v)::over up r
def fover(up:List (Nat×PV)):AEnv→(AEnv→Prop)→Prop
 |[],k=>k []
 |(t,v)::r,k=>match ofind t up with
  |some w=>fover up r fun r'=>k ((t,w)::r')
  |none=>fover up r fun r'=>k ((t,v)::r')
theorem fover_eq{up:List (Nat×PV)}:∀{ρ:AEnv}{k:AEnv→Prop},fover up ρ k↔k (over up ρ)
 |[],_=>Iff.rfl
 |(t,v)::r,k=>by
  simp only[fover,over];cases ofind t up with
  |some w=>exact fover_eq (ρ:=r) (k:=fun r'=>k ((t,w)::r'))
  |none=>exact fover_eq (ρ:=r) (k:=fun r'=>k ((t,v)::r'))
theorem loop_over{K:AX→AS→Prop}(up:G→List (Nat×PV))(sto:G→Sto)(I:G→Prop)(μ:G→Nat)(g0:G)(h0:I g0)(hρ:over (up g0) ρ=ρ)(hst:sto g0=st)
  (h:∀g,I g→fover (up g) ρ fun ρ1=>VC C c ρ1 (sto g) fun x ρ' st'=>match x with
   | .normal=>VAgain C ks k0 ρ' st' fun s=>∃g',I g'∧μ g'<μ g∧s=⟨over (up g') ρ,sto g'⟩
   |x=>K x ⟨ρ',st'⟩):FindsL C ks k0 c ⟨ρ,st⟩ K:=by
 have:=loop_intro (C:=C) (ks:=ks) (k0:=k0) (c:=c) (K:=K) (fun g=>(⟨over (up g) ρ,sto g⟩:AS)) I μ (fun g hg=>fover_eq.1 (h g hg)) g0 h0
 grind
theorem aret_take(hp:rs.all (pur 8)=true)(h0:(st.take k0).all (soIn fun i=>Nat.blt i k0)=true):aret C f k0 rs st=some (rs,st.take k0):=by
 unfold aret;cases hk:C.keep f<;>simp only[pubL_pure hp,hp,h0,Bool.and_self]
theorem vret_take(hp:rs.all (pur 8)=true)(h0:(st.take k0).all (soIn fun i=>Nat.blt i k0)=true)(k:Q (.ret rs) (st.take k0)):VRet C f k0 rs st Q:=
 ⟨rs,_,aret_take hp h0,k⟩
theorem vback{r:AEnd}(hi:(endIn (fun j=>Nat.blt j st1.length) r&&st1.all (soIn fun j=>Nat.blt j st1.length))=true)(k:K (renEnd (back π st.length) r) (putAll (back π st.length) π st1 st++(st1.drop π.length).map (renSO (back π st.length)))):VBack π st r st1 K:=
 ⟨_,_,by unfold comeBack;rw[hi],k⟩
end
theorem gU{P P':Prop}(q:A)(w:P'→P:=by intro p;(conv=>whnf);exact p)(f:A→P':=by
  first
  |exact Go.Am.VIf.tt (by exact rfl)
  |exact Go.Am.VIf.ff (by exact rfl)
  |exact Go.Am.VIf.not
  |exact Go.Am.VIf.dtt (by assumption)
  |exact Go.Am.VIf.dff (by assumption)
  |exact Go.Am.VIf.tt (by assumption)
  |exact Go.Am.VIf.ff (by assumption)
  |exact Go.Am.VOk.mk (by exact rfl)
  |exact Go.Am.VPan.mk (by exact rfl)
  |exact Go.Am.VPur.mk (by exact rfl)
  |exact Go.Am.VNat.mk _ (by exact rfl)
  |exact Go.Am.VArith.fits (by unfold Go.Gw.i64;omega)
  |exact Go.Am.vret_pf (by exact rfl)
  |exact Go.Am.vret_take (by exact rfl) (by exact rfl)
  |fail):P:=w (f q)
theorem gK{K:List Nat→Prop}(k:K t):VTch t K:=VTch.mk t rfl k
theorem gE{p:Prop}[Decidable p](a:p→A)(b:¬p→B):VIf (decide p) A B:=VIf.dec a b
theorem gM{b:Bool}(t:b=true→A)(f:b=false→B):VIf b A B:=VIf.mk t f
theorem gX{rs:List PV}{K:AEnd→Sto→Prop}(h:Pf C f args rs)(k:K (.ret rs) st)(hp:args.all (pur 8)=true:=by exact rfl)(hr:rs.all (pur 8)=true:=by exact rfl):VCall C f args st K:=vcall_pf h hp hr k
theorem gZ{sz z:Nat}{xs:List PV}{e:TypeId}{K:Prop}(h:sz=z∨xs=[])(k:K)(ht:tsl P T=some (e,z):=by exact rfl):VOk (szOk P T sz xs) K:=VOk.mk (szOk_of ht h) k
end Go.Am
