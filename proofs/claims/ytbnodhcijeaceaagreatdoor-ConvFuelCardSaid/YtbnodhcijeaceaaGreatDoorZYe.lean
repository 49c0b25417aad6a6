/- Terms stay right in their contexts: reduction and types; no error of form behind the first look. -/
import Derived.Test.YtbnodhcijeaceaaGreatDoorZQs
set_option linter.all false
set_option maxHeartbeats 8000000
set_option maxRecDepth 100000
namespace Go.Proofs.YtbnodhcijeaceaaGreatDoor
open Go Go.Am Go.Gw
variable{k l l':Int}{ctx:List Tm}{lv:Lv}{i:Nat}{a t x:Tm}
theorem jqd{f:Tm}(h1:allT f 4 k=true)(h2:allT a 4 k=true):allT (.mk 4 0 [] [] [f,a]) 4 k=true:=by
 simp[allT,j2g,j0I,j0H,j1c,j0z,j0a,j08,h1,h2]
theorem ji4{k:Int}:∀(ts:List Tm) (b:Tm),allT b 4 k=true→(∀a∈ts,allT a 4 k=true)→allT (appF b ts) 4 k=true
 |[],b,hb,_=>hb
 |a::r,b,hb,h=>ji4 r _ (jqd hb (h a List.mem_cons_self)) fun x hx=>h x (List.mem_cons_of_mem _ hx)
theorem juE(h:allT t 4 k=true)(hi:(i:Int)<j0I t.kind):allT (t.arg i) 4 (j0a (j08 t.kind) i k)=true∧sizT (t.arg i)<sizT t:=by
 obtain⟨k1,n,s,ls,ts⟩:=t;obtain⟨-,hl,-,-,hts⟩:=j0g h;have hi':(i:Int)<j0I k1:=hi;have hg:=getD_at (ts:=ts) (i:=i) (by omega)
 have e:(Tm.mk k1 n s ls ts).arg i=ts.getD i tz:=rfl;rw[e];refine⟨?_,?_⟩
 ·have:=j2I hts hg;rw[Int.zero_add] at this;exact this
 ·have:=jaS (List.mem_of_getElem? hg);have hz:sizT (.mk k1 n s ls ts)=1+j09 ls+j0B ts:=rfl;rw[j6K] at hz;omega
theorem ScT.arg(h:ScT k t)(hi:(i:Int)<j0I t.kind){k':Int}(he:j0a (j08 t.kind) i k=k'):ScT k' (t.arg i):=by
 obtain⟨h1,h2⟩:=juE h.1 hi;rw[he] at h1;exact⟨h1,by have:=h.2;omega⟩
theorem jso{p p':Int}{bys:List Lv}(ht:allT t p' 0=true)(h:atF p t bys=.ok x):ScT 0 x:=by
 unfold atF at h;split at h
 ·cases h
 ·split at h
  ·cases h
  ·rename_i hx;cases h;exact jfR ht hx
theorem j6D{e:En}(h:j2j e=true):allT e.ty e.pars 0=true∧(e.kind=2→allT e.val e.pars 0=true)∧(e.kind=6→¬e.val.kind=0→∃p,allT e.val p 0=true):=by
 simp only[j2j,Bool.and_eq_true] at h;obtain⟨-,-,-,h1,h2,-⟩:=h;have e0:min (0:Int) 1125899906842624=0:=by omega
 have h1:=(j1d h1).2.2.2;rw[e0] at h1;refine⟨h1,fun hk=>?_,fun hk hv=>?_⟩
 ·unfold j7Y at h2;rw[if_pos (.inl hk)] at h2;have h2:=(j1d h2).2.2.2;rw[e0] at h2;exact h2
 ·unfold j7Y at h2;rw[if_neg (by omega),if_pos hk,Bool.or_eq_true] at h2
  rcases h2 with h2|h2
  ·exfalso;apply hv;rw[(jir e.val tz).1 h2];rfl
  ·have h2:=(j1d h2).2.2.2;rw[e0] at h2;exact⟨_,h2⟩
section
variable{E:Nv}
variable{e k l l':Int}{bys:List Lv}{s:List UInt8}{t x:Tm}{hd:Tm→M Tm}{α:Type}
theorem jpU(hE:NvOk E)(h:typeAt E s bys=.ok x):ScT 0 x:=by
 unfold typeAt ja3 at h;split at h
 ·cases h
 ·rename_i e he;dsimp only at h;unfold jfF at h;have hr:=j2A hE he;rw[if_pos hr] at h;exact jso (j6D hr).1 h
theorem jpT(hE:NvOk E):typeAt E s bys≠.error 10:=by
 intro h;unfold typeAt ja3 at h;split at h
 ·cases h
 ·rename_i e he;dsimp only at h;unfold jfF at h;rw[if_pos (j2A hE he)] at h;unfold atF at h;split at h
  ·cases h
  ·split at h<;>cases h
theorem jmz(hE:NvOk E)(h:j2e E s bys=.ok x):ScT 0 x:=by
 unfold j2e ja3 at h;split at h
 ·cases h
 ·rename_i e he;dsimp only at h;unfold jap at h;have hr:=j2A hE he;rw[if_pos hr] at h;split at h
  ·rename_i hk;exact jso ((j6D hr).2.1 hk) h
  ·cases h
theorem jqm(hE:NvOk E){ofs:List (List UInt8)}{e:En}{fs:List Tm}(ht:allT t 4 k=true)(h:j8o E t ofs=some (e,fs)):(∃p,allT e.val p 0=true)∧∀a∈fs,allT a 4 k=true:=by
 unfold j8o at h;split at h
 ·split at h
  ·cases h
  ·rename_i e' he;split at h
   ·rename_i hc;cases h;exact⟨(j6D (j2A hE he)).2.2 hc.1 hc.2.1,fun a ha=>(ja0 t 4 k ht).1 a (j0O.1 ha)⟩
   ·cases h
 ·cases h
def N10{α:Type}(x:M α):Prop:=∀l l',x l≠some (.error 10,l')
theorem j1e(a:α):N10 (mok a):=fun l l' h=>by cases h
theorem j7g{b:Bool}(he:¬e=10):N10 (j2P b e):=fun l l' h=>by
 cases b
 ·cases h;exact he rfl
 ·cases h
theorem joX{o:Option α}(he:¬e=10):N10 (optF o e):=fun l l' h=>by
 cases o
 ·cases h;exact he rfl
 ·cases h
theorem jaK:N10 j4o:=fun l l' h=>by
 rcases j0S h with⟨-,-,h3⟩|⟨-,-,h3⟩<;>cases h3
theorem j0q{β:Type}{x:M α}{f:α→M β}(hx:N10 x)(hf:∀a l l',x l=some (.ok a,l')→N10 (f a)):N10 (bnd x f):=fun l l' h=>by
 rcases j06 h with⟨e,h1,h2⟩|⟨a,l1,h1,h2⟩
 ·cases h2;exact hx _ _ h1
 ·exact hf a _ _ h1 _ _ h2
theorem j7f(o:Option Tm):N10 (j4n o):=j0q (joX (by omega)) fun _ _ _ _=>j0q (j7g (by omega)) fun _ _ _ _=>j1e _
theorem jha(l:Lv):N10 (j5j l):=j0q (j7g (by omega)) fun _ _ _ _=>j1e _
theorem jaM(c:List Tm)(t:Tm):N10 (j7w c t):=j0q (j7g (by omega)) fun _ _ _ _=>j1e _
theorem jr5(o:Option Tm):N10 (j7r o):=j0q jaK fun _ _ _ _=>j0q (joX (by omega)) fun _ _ _ _=>j0q (j7g (by omega)) fun _ _ _ _=>j1e _
theorem jr4(h:∀t,N10 (hd t))(t:Tm):N10 (j7p E hd t):=by
 unfold j7p jiv;split
 ·exact j1e _
 split
 ·exact j1e _
 split
 ·unfold j1U;split
  ·exact j1e _
  split
  ·exact j1e _
  split
  ·exact j1e _
  split
  ·unfold jeO;split
   ·exact j1e _
   ·refine j0q (h _) fun x _ _ _=>?_
    split<;>exact j1e _
  ·exact j1e _
 ·exact j1e _
theorem jf3:∀(n:Nat) (t:Tm),N10 (j6o E n t)
 |0,t=>fun l l' h=>by cases h
 |n+1,t=>j0q (jr4 (jf3 n) t) fun r _ _ _=>by
  split
  ·exact j1e _
  ·exact j0q (jr5 _) fun x _ _ _=>jf3 n x
theorem jo4{ts:List Tm}(h:∀a∈ts,allT a 4 k=true∧sizT a≤2000){i:Nat}(hi:i<ts.length):ScT k (ts.getD i tz):=h _ (List.mem_of_getElem? (getD_at hi))
theorem jtu(hE:NvOk E)(hk:0≤k)(hh:∀a l x l',ScT k a→hd a l=some (.ok x,l')→ScT k x)(ht:ScT k t){q:Int}{o:Tm}(h:j7p E hd t l=some (.ok (some (q,some o)),l')):allT o 4 k=true:=by
 obtain⟨sA,sH⟩:=ja0 t 4 k ht.1;obtain⟨z1,z2⟩:=j4H t;have hH:ScT k (spF t).1:=⟨sH,by have:=ht.2;omega⟩
 have hA:∀a∈j0M t,allT a 4 k=true∧sizT a≤2000:=fun a ha=>⟨sA a (j0O.1 ha),by have:=z2 a (j0O.1 ha);have:=ht.2;omega⟩
 have app:∀{r:Option Tm}{ts:List Tm}{x:Tm},(∀y,r=some y→allT y 4 k=true)→(∀a∈ts,allT a 4 k=true)→appO r ts=some x→allT x 4 k=true:=fun{r ts x} h1 h2 h3=>by
  cases r with
  |none=>cases h3
  |some y=>
   cases h3;exact ji4 _ _ (h1 y rfl) h2
 unfold j7p jiv at h;split at h
 ·rename_i hc;simp only[mok,Option.some.injEq,Prod.mk.injEq,Except.ok.injEq] at h;refine app (fun y hy=>?_) (fun a ha=>(hA a (List.mem_of_mem_drop ha)).1) h.1.2
  have hb:=hH.arg (i:=1) (k':=k+1) (by rw[hc.1];decide) (by rw[hc.1];simp[j0a,j08])
  have ha0:=jo4 hA (i:=0) (by omega)
  exact jaX hk hb.1 ha0.1 ha0.2 hy
 split at h
 ·rename_i hc;simp only[mok,Option.some.injEq,Prod.mk.injEq,Except.ok.injEq] at h;refine app (fun y hy=>?_) (fun a ha=>(hA a ha).1) h.1.2
  have hb:=hH.arg (i:=2) (k':=k+1) (by rw[hc];decide) (by rw[hc];simp[j0a,j08])
  have hv:=hH.arg (i:=1) (k':=k) (by rw[hc];decide) (by rw[hc];simp[j0a,j08])
  exact jaX hk hb.1 hv.1 hv.2 hy
 split at h
 ·unfold j1U at h;cases he:j0T E (spF t).1.name with
  |none=>
   rw[he] at h;simp[mok] at h
  |some e=>
  rw[he] at h;dsimp only at h;split at h
  ·simp[mok] at h
  split at h
  ·simp only[mok,Option.some.injEq,Prod.mk.injEq,Except.ok.injEq] at h;refine app (fun y hy=>?_) (fun a ha=>(hA a ha).1) h.1.2
   cases hv:j2e E (spF t).1.name (spF t).1.levels with
   |error e=>rw[hv] at hy;cases hy
   |ok z=>
    rw[hv] at hy;cases hy;exact((jmz hE hv).mono hk).1
  split at h
  ·rename_i hk7;unfold jeO at h;split at h
   ·simp[mok] at h
   ·rename_i hlen;rcases j06 h with⟨e',h1,h2⟩|⟨x,l1,h1,h2⟩
    ·cases h2
    ·have hn:=j3U (j2A hE he) (.inr hk7);have hq:(j4d e+e.idx).toNat<(j0M t).length:=by
      unfold j4d at hlen⊢;omega
     have hx:=hh _ _ _ _ (jo4 hA hq) h1;cases hc:j8o E x e.ctors with
     |none=>
      rw[hc] at h2;simp[mok] at h2
     |some kf=>
      obtain⟨k2,fs⟩:=kf;rw[hc] at h2;obtain⟨⟨p,hp⟩,hf⟩:=jqm hE hx.1 hc;simp only[mok,Option.some.injEq,Prod.mk.injEq,Except.ok.injEq] at h2;refine app (fun y hy=>j3m y 4 0 k (jfR hp hy).1 hk) (fun a ha=>?_) h2.1.2
      rcases List.mem_append.1 ha with ha|ha
      ·exact(hA a (List.mem_of_mem_take ha)).1
      ·rcases List.mem_append.1 ha with ha|ha
       ·exact hf a (List.mem_of_mem_drop ha)
       ·exact(hA a (List.mem_of_mem_drop ha)).1
  ·simp[mok] at h
 ·simp[mok] at h
theorem jiC(hE:NvOk E){k:Int}(hk:0≤k):∀(n:Nat) (t:Tm) (l:Int) (x:Tm) (l':Int),ScT k t→j6o E n t l=some (.ok x,l')→ScT k x
 |0,t,l,x,l',ht,h=>by cases h
 |n+1,t,l,x,l',ht,h=>by
  rw[j9J] at h;rcases j06 h with⟨e,h1,h2⟩|⟨r,l1,h1,h2⟩
  ·cases h2
  ·match r,h1,h2 with
   |none,h1,h2=>
    cases h2;exact ht
   |some (q,o),h1,h2=>
    rcases j06 h2 with⟨e,h3,h4⟩|⟨y,l2,h3,h4⟩
    ·cases h4
    ·obtain⟨-,-,ho,hn⟩:=joL h3;subst ho;exact jiC hE hk n y _ _ _ ⟨jtu hE hk (fun a l x l' ha hx=>jiC hE hk n a l x l' ha hx) ht h1,j1C hn⟩ h4
mutual
theorem joZ:∀(t:Tm) (p kk:Int),allT t p kk=true→kk+sizT t≤1099511627776→j7s t=true
 | .mk k n s ls ts,p,kk,h,hs=>by
  obtain⟨-,-,hnd,-,hts⟩:=j0g h;have hz:sizT (.mk k n s ls ts)=1+j09 ls+j0B ts:=rfl;rw[j7s,Bool.and_eq_true];refine⟨?_,jkw ts k 0 p kk hts (by omega)⟩
  by_cases h1:k=1
  ·have:=j0U hnd h1;simp[h1];omega
  ·simp[h1]
theorem jkw:∀(ts:List Tm) (k i p kk:Int),j0z ts k i p kk=true→kk+1+j0B ts≤1099511627776→j8M ts=true
 |[],k,i,p,kk,h,hs=>rfl
 |t::r,k,i,p,kk,h,hs=>by
  simp only[j0z,Bool.and_eq_true] at h;simp only[j0B] at hs;rw[j8M,Bool.and_eq_true];have hi:j0a (j08 k) i kk≤kk+1:=by unfold j0a;split<;>omega
  exact⟨joZ t p _ h.1 (by omega),jkw r k (i+1) p kk h.2 (by omega)⟩
end
theorem ScT.pack(hk:k≤1000)(h:ScT k t):j9R t=true:=by
 unfold j9R;rw[Bool.and_eq_true];refine⟨?_,joZ t 4 k h.1 (by have:=h.2;omega)⟩
 unfold j0N;simp only[Bool.and_eq_true,decide_eq_true_eq];exact⟨by omega,by omega,by omega,jpB h.2,j3m t 4 k _ h.1 (by omega)⟩
theorem jaL(n:Nat)(hk:k≤1000)(h:ScT k t):N10 (j1K E n t):=fun l l' hx=>by
 unfold j1K at hx;rw[h.pack hk] at hx;exact jf3 n t l l' hx
theorem jji(hE:NvOk E)(n:Nat)(h0:0≤k)(h:ScT k t)(hx:j1K E n t l=some (.ok x,l')):ScT k x:=by
 rcases j06 hx with⟨e,h1,h2⟩|⟨u,l1,h1,h2⟩
 ·cases h2
 ·exact jiC hE h0 n t _ _ _ h h2
end
open Go Go.Am Go.Gw
def CtxS(ctx:List Tm):Prop:=ctx.length≤64∧∀(i:Nat) (t:Tm),ctx[i]?=some t→ScT i t
theorem CtxS.snoc(h:CtxS ctx)(ht:ScT ctx.length t)(hl:ctx.length<64):CtxS (ctx++[t]):=by
 refine⟨by simp;omega,fun i x hx=>?_⟩
 by_cases hi:i<ctx.length
 ·rw[List.getElem?_append_left hi] at hx;exact h.2 i x hx
 ·have hi2:i=ctx.length:=by
   have:=(List.getElem?_eq_some_iff.1 hx).1;simp at this;omega
  subst hi2;simp at hx;subst hx;exact ht
theorem j9m{c2:List Tm}(h:j7w ctx t l=some (.ok c2,l')):c2=ctx++[t]∧ctx.length<64:=by
 rcases j06 h with⟨e,h1,h2⟩|⟨u,l1,h1,h2⟩
 ·cases h2
 ·obtain⟨-,h3⟩:=j0C h1;cases h2;rcases h3 with⟨h3,-⟩|⟨-,h3⟩
  ·exact⟨rfl,of_decide_eq_true h3⟩
  ·cases h3
theorem j5F{o:Option Tm}(h:j4n o l=some (.ok x,l')):o=some x∧sizT x≤2000:=by
 rcases j06 h with⟨e,h1,h2⟩|⟨y,l1,h1,h2⟩
 ·cases h2
 ·cases o with
  |none=>cases h1
  |some z=>
   cases h1;rcases j06 h2 with⟨e,h3,h4⟩|⟨u,l2,h3,h4⟩
   ·cases h4
   ·obtain⟨-,h5⟩:=j0C h3;cases h4;rcases h5 with⟨h5,-⟩|⟨-,h5⟩
    ·exact⟨rfl,j1C (of_decide_eq_true h5)⟩
    ·cases h5
theorem j7P{b:Bool}{e:Int}{u:Unit}(h:j2P b e l=some (.ok u,l')):b=true∧l'=l:=by
 obtain⟨h1,h2⟩:=j0C h;rcases h2 with⟨h2,-⟩|⟨-,h2⟩
 ·exact⟨h2,h1⟩
 ·cases h2
theorem jhA{x:Lv}(h:j5j lv l=some (.ok x,l')):x=lv∧j0m lv 4=true:=by
 rcases j06 h with⟨e,h1,h2⟩|⟨u,l1,h1,h2⟩
 ·cases h2
 ·cases h2;exact⟨rfl,(j7P h1).1⟩
theorem jpF(h:j0m lv 4=true):ScT k (jau lv):=⟨by simp[jau,allT,j2g,j0I,j0H,j1c,j0z,h],by have:=(j6E h).2.1;simp only[jau,sizT,j0B,j09];omega⟩
theorem jvL{b:Tm}(h1:allT a 4 k=true)(h2:allT b 4 (k+1)=true):allT (overR 6 [a] b) 4 k=true:=by
 simp[overR,allT,j2g,j0I,j0H,j1c,j0z,j0a,j08,h1,h2]
def TypS(T:List Tm→Tm→M Tm):Prop:=∀ctx t,CtxS ctx→ScT ctx.length t→(∀l x l',T ctx t l=some (.ok x,l')→ScT ctx.length x)∧N10 (T ctx t)
section
variable{E:Nv}{n:Nat}{T:List Tm→Tm→M Tm}
theorem jf4(hE:NvOk E)(hT:TypS T){ctx:List Tm}{t:Tm}(hc:CtxS ctx)(ht:ScT ctx.length t):N10 (sortB (j1K E n) T ctx t):=
 j0q jaK fun _ _ _ _=>j0q (hT ctx t hc ht).2 fun x l l' hx=>j0q (jaL n (by have:=hc.1;omega) ((hT ctx t hc ht).1 _ _ _ hx)) fun s _ _ _=>j0q (j7g (by omega)) fun _ _ _ _=>j1e _
theorem ju7(hE:NvOk E)(hT:TypS T):TypS (typB E (j1K E n) T):=by
 intro ctx t hc ht;have h64:=hc.1;have hk:1≤t.kind∧t.kind≤7:=by
  obtain⟨k,n,s,ls,ts⟩:=t;exact(j0g ht.1).1
 have hnum:t.kind=1→0≤t.num∧t.num<ctx.length:=fun e=>by
  obtain⟨k,n,s,ls,ts⟩:=t;exact j0U (j0g ht.1).2.2.1 e
 have wsc:∀{k:Int}{y f:Tm}{l l':Int},0≤k→ScT k y→j1K E n y l=some (.ok f,l')→ScT k f:=fun h0 hy hx=>jji hE n h0 hy hx
 have aI:∀{k:Int}{i:Nat},t.kind=k→(i:Int)<j0I k→∀{k':Int},j0a (j08 k) i ctx.length=k'→ScT k' (t.arg i):=fun{k i} e hi {k'} he=>ht.arg (by rw[e];exact hi) (by rw[e];exact he)
 constructor
 ·intro l x l' h;rcases j06 h with⟨e,h1,h2⟩|⟨u,l1,h1,h2⟩
  ·cases h2
  clear h h1;split at h2
  ·rename_i c1;obtain⟨n0,n1⟩:=hnum c1;rcases j06 h2 with⟨e,h3,h4⟩|⟨u,l2,h3,h4⟩
   ·cases h4
   obtain⟨h5,h6⟩:=j5F h4;obtain⟨i,hi⟩:∃i:Nat,(ctx.length:Int)-1-t.num=i:=⟨((ctx.length:Int)-1-t.num).toNat,by omega⟩
   rw[hi,show((i:Int)).toNat=i by simp] at h5
   have hs:=hc.2 i _ (getD_at (ts:=ctx) (i:=i) (by omega))
   have:=jmO (by omega) hs.1 h5
   rw[show(i:Int)+(t.num+1)=ctx.length by omega] at this
   exact⟨this,h6⟩
  split at h2
  ·rcases j06 h2 with⟨e,h3,h4⟩|⟨y,l2,h3,h4⟩
   ·cases h4
   obtain⟨rfl,hr⟩:=jhA h3;cases h4;exact jpF hr
  split at h2
  ·rename_i c1 c2 c3;unfold exF at h2;simp only[Option.some.injEq,Prod.mk.injEq] at h2;exact(jpU hE h2.1).mono (by omega)
  split at h2
  ·rename_i c1 c2 c3 c4;rcases j06 h2 with⟨e,h3,h4⟩|⟨y,l2,h3,h4⟩
   ·cases h4
   rcases j06 h4 with⟨e,h5,h6⟩|⟨f,l3,h5,h6⟩
   ·cases h6
   rcases j06 h6 with⟨e,h7,h8⟩|⟨u,l4,h7,h8⟩
   ·cases h8
   have hf6:=of_decide_eq_true (j7P h7).1;obtain⟨h9,h10⟩:=j5F h8;have a0:=aI (i:=0) c4 (by decide) (k':=ctx.length) (by simp[j0a,j08])
   have a1:=aI (i:=1) c4 (by decide) (k':=ctx.length) (by simp[j0a,j08])
   have hf:=wsc (by omega) ((hT _ _ hc a0).1 _ _ _ h3) h5
   have hb:=hf.arg (i:=1) (k':=ctx.length+1) (by rw[hf6];decide) (by rw[hf6];simp[j0a,j08])
   exact⟨jaX (by omega) hb.1 a1.1 a1.2 h9,h10⟩
  split at h2
  ·rename_i c1 c2 c3 c4 c5;rcases j06 h2 with⟨e,h3,h4⟩|⟨cc,l2,h3,h4⟩
   ·cases h4
   obtain⟨rfl,hl⟩:=j9m h3;rcases j06 h4 with⟨e,h5,h6⟩|⟨b,l3,h5,h6⟩
   ·cases h6
   obtain⟨h9,h10⟩:=j5F h6;cases h9;have a0:=aI (i:=0) c5 (by decide) (k':=ctx.length) (by simp[j0a,j08])
   have a1:=aI (i:=1) c5 (by decide) (k':=ctx.length+1) (by simp[j0a,j08])
   have hc2:=hc.snoc a0 hl;have hb:=(hT _ _ hc2 (by simpa using a1)).1 _ _ _ h5
   exact⟨jvL a0.1 (by simpa using hb.1),h10⟩
  split at h2
  ·rcases j06 h2 with⟨e,h3,h4⟩|⟨y,l2,h3,h4⟩
   ·cases h4
   rcases j06 h4 with⟨e,h5,h6⟩|⟨cc,l3,h5,h6⟩
   ·cases h6
   rcases j06 h6 with⟨e,h7,h8⟩|⟨m,l4,h7,h8⟩
   ·cases h8
   rcases j06 h8 with⟨e,h9,h10⟩|⟨q,l5,h9,h10⟩
   ·cases h10
   obtain⟨rfl,hr⟩:=jhA h9;cases h10;exact jpF hr
  ·rename_i c1 c2 c3 c4 c5 c6;have c7:t.kind=7:=by omega
   rcases j06 h2 with⟨e,h3,h4⟩|⟨y,l2,h3,h4⟩
   ·cases h4
   obtain⟨h9,h10⟩:=j5F h3;have a1:=aI (i:=1) c7 (by decide) (k':=ctx.length) (by simp[j0a,j08])
   have a2:=aI (i:=2) c7 (by decide) (k':=ctx.length+1) (by simp[j0a,j08])
   exact(hT _ _ hc ⟨jaX (by omega) a2.1 a1.1 a1.2 h9,h10⟩).1 _ _ _ h4
 ·refine j0q jaK fun _ _ _ _=>?_
  split
  ·rename_i c1;obtain⟨n0,n1⟩:=hnum c1;rw[decide_eq_true n1];exact j0q (j1e _) fun _ _ _ _=>j7f _
  split
  ·exact j0q (jha _) fun _ _ _ _=>j1e _
  split
  ·intro l l' h;unfold exF at h;simp only[Option.some.injEq,Prod.mk.injEq] at h;exact jpT hE h.1
  split
  ·rename_i c1 c2 c3 c4;have a0:=aI (i:=0) c4 (by decide) (k':=ctx.length) (by simp[j0a,j08])
   exact j0q (hT _ _ hc a0).2 fun y _ _ hy=>j0q (jaL n (by omega) ((hT _ _ hc a0).1 _ _ _ hy)) fun f _ _ _=>j0q (j7g (by omega)) fun _ _ _ _=>j7f _
  split
  ·rename_i c1 c2 c3 c4 c5;have a0:=aI (i:=0) c5 (by decide) (k':=ctx.length) (by simp[j0a,j08])
   have a1:=aI (i:=1) c5 (by decide) (k':=ctx.length+1) (by simp[j0a,j08])
   refine j0q (jaM _ _) fun cc _ _ h3=>?_
   obtain⟨rfl,hl⟩:=j9m h3;exact j0q (hT _ _ (hc.snoc a0 hl) (by simpa using a1)).2 fun _ _ _ _=>j7f _
  split
  ·rename_i c1 c2 c3 c4 c5 c6;have a0:=aI (i:=0) c6 (by decide) (k':=ctx.length) (by simp[j0a,j08])
   have a1:=aI (i:=1) c6 (by decide) (k':=ctx.length+1) (by simp[j0a,j08])
   refine j0q (jf4 hE hT hc a0) fun _ _ _ _=>j0q (jaM _ _) fun cc _ _ h3=>?_
   obtain⟨rfl,hl⟩:=j9m h3;exact j0q (jf4 hE hT (hc.snoc a0 hl) (by simpa using a1)) fun _ _ _ _=>j0q (jha _) fun _ _ _ _=>j1e _
  ·rename_i c1 c2 c3 c4 c5 c6;have c7:t.kind=7:=by omega
   have a1:=aI (i:=1) c7 (by decide) (k':=ctx.length) (by simp[j0a,j08])
   have a2:=aI (i:=2) c7 (by decide) (k':=ctx.length+1) (by simp[j0a,j08])
   refine j0q (j7f _) fun y _ _ h3=>?_
   obtain⟨h9,h10⟩:=j5F h3;exact(hT _ _ hc ⟨jaX (by omega) a2.1 a1.1 a1.2 h9,h10⟩).2
theorem jfE(hE:NvOk E):∀n,TypS (typF E n)
 |0=>fun ctx t hc ht=>⟨fun l x l' h=>(by cases h),fun l l' h=>by cases h⟩
 |n+1=>ju7 (n:=n) hE (jfE hE n)
end
open Go Go.Am Go.Gw
theorem jbV{x:M (Option Tm)}:N10 (j4M x):=fun l l' h=>by
 rcases j2q h with⟨a,h1,h2⟩|⟨e,he,h1,h2⟩|⟨e,he,h1,h2⟩
 ·cases h2
 ·cases h2;omega
 ·cases h2
def jhX(S:List Tm→Tm→Tm→M Bool):Prop:=∀ctx a b,CtxS ctx→ScT ctx.length a→ScT ctx.length b→N10 (S ctx a b)
section
variable{E:Nv}{n:Nat}{T:List Tm→Tm→M Tm}{S:List Tm→Tm→Tm→M Bool}
variable{l l':Int}{ctx:List Tm}{a b t:Tm}{W:Tm→M Tm}
theorem jp8(hT:TypS T){p:Tm}(hc:CtxS ctx)(ht:ScT ctx.length t)(h:j9T W T ctx t l=some (.ok (some p),l')):ScT ctx.length p:=by
 rcases j2q h with⟨a,h1,h2⟩|⟨e,he,h1,h2⟩|⟨e,he,h1,h2⟩
 ·cases h2;rcases j06 h1 with⟨e,h3,h4⟩|⟨u,l1,h3,h4⟩
  ·cases h4
  rcases j06 h4 with⟨e,h5,h6⟩|⟨ty,l2,h5,h6⟩
  ·cases h6
  rcases j06 h6 with⟨e,h7,h8⟩|⟨s,l3,h7,h8⟩
  ·cases h8
  have hs:=(hT ctx t hc ht).1 _ _ _ h5;cases hz:jcV s with
  |true=>
   rw[hz] at h8;cases h8;exact hs
  |false=>
   rw[hz] at h8;cases h8
 ·cases h2
 ·cases h2
theorem jdB{S:Tm→Tm→M Bool}:∀(x y:List Tm),(∀a∈x,∀b∈y,N10 (S a b))→N10 (j6i S x y)
 |a::r,b::s,h=>j0q (h a List.mem_cons_self b List.mem_cons_self) fun q _ _ _=>(match q with
  |true=>jdB r s fun x hx y hy=>h x (List.mem_cons_of_mem _ hx) y (List.mem_cons_of_mem _ hy)
  |false=>j1e _)
 |[],_,_=>j1e _
 |_::_,[],_=>j1e _
theorem jn5{k:Int}(ht:ScT k t):∀a∈j0M t,ScT k a:=fun a ha=>⟨(ja0 t 4 k ht.1).1 a (j0O.1 ha),by have:=(j4H t).2 a (j0O.1 ha);have:=ht.2;omega⟩
theorem jdC(hS:jhX S)(hc:CtxS ctx)(ha:ScT ctx.length a)(hb:ScT ctx.length b):N10 (j3g S ctx a b):=by
 unfold j3g jgF;split
 ·split
  ·exact jdB _ _ fun x hx y hy=>hS _ _ _ hc (jn5 ha x hx) (jn5 hb y hy)
  ·exact j1e _
 ·exact j1e _
theorem joV(hS:jhX S){f:Tm}(hc:CtxS ctx)(hf:ScT ctx.length f)(hk:f.kind=5)(ht:ScT ctx.length t):N10 (etaB S ctx f t):=by
 have a0:=hf.arg (i:=0) (k':=ctx.length) (by rw[hk];decide) (by rw[hk];simp[j0a,j08])
 have a1:=hf.arg (i:=1) (k':=ctx.length+1) (by rw[hk];decide) (by rw[hk];simp[j0a,j08])
 refine j0q (j7f _) fun up _ _ h1=>j0q (jaM _ _) fun c2 _ _ h2=>j0q (j7f _) fun u _ _ h3=>?_
 obtain⟨h4,h5⟩:=j5F h1;obtain⟨rfl,hl⟩:=j9m h2;obtain⟨h6,h7⟩:=j5F h3;cases h6;have hu:=jmO (by omega) ht.1 h4
 have hlen:((ctx++[f.arg 0]).length:Int)=ctx.length+1:=by simp
 refine hS _ _ _ (hc.snoc a0 hl) (by rw[hlen];exact a1) ⟨?_,h7⟩
 rw[hlen];exact ji4 _ _ hu fun a ha=>by
  rw[List.mem_singleton.1 ha];exact j2H (by omega) (by omega)
theorem joW(hS:jhX S)(hc:CtxS ctx)(ha:ScT ctx.length a)(hb:ScT ctx.length b):N10 (j3u S ctx a b):=by
 unfold j3u;split
 ·exact j1e _
 split
 ·rename_i c2;obtain⟨e,hk⟩:=c2;have key:∀{k:Int},(k=6∨k=5)→∀{x:Tm},x.kind=k→ScT ctx.length x→ScT ctx.length (x.arg 0)∧ScT (ctx.length+1) (x.arg 1):=fun{k} hk {x} hx hs=>by
   refine⟨hs.arg ?_ ?_,hs.arg ?_ ?_⟩<;>rw[hx]<;>rcases hk with rfl|rfl<;>simp[j0a,j08,j0I]
  obtain⟨p0,p1⟩:=key hk rfl ha;obtain⟨q0,q1⟩:=key hk e.symm hb;refine j0q (hS _ _ _ hc p0 q0) fun q _ _ _=>?_
  split
  ·refine j0q (jaM _ _) fun c2 _ _ h2=>?_
   obtain⟨rfl,hl⟩:=j9m h2;have hlen:((ctx++[a.arg 0]).length:Int)=ctx.length+1:=by simp
   exact hS _ _ _ (hc.snoc p0 hl) (by rw[hlen];exact p1) (by rw[hlen];exact q1)
  ·exact j1e _
 split
 ·rename_i c3;exact joV hS hc ha c3 hb
 split
 ·rename_i c4;exact joV hS hc hb c4 ha
 ·exact jdC hS hc ha hb
theorem jlZ(hT:TypS T)(hS:jhX S)(hc:CtxS ctx)(ha:ScT ctx.length a)(hb:ScT ctx.length b):N10 (j2m W T S ctx a b):=by
 refine j0q jbV fun p _ _ hp=>?_
 split
 ·exact j1e _
 ·have p1:=jp8 hT hc ha hp;refine j0q jbV fun q _ _ hq=>?_
  split
  ·exact j1e _
  ·exact hS _ _ _ hc p1 (jp8 hT hc hb hq)
theorem jrQ(hE:NvOk E)(hT:TypS T)(hS:jhX S):jhX (jhx (j1K E n) T S):=by
 intro ctx a b hc ha hb;have h64:=hc.1;refine j0q jaK fun _ _ _ _=>?_
 split
 ·exact j1e _
 ·refine j0q ?_ fun ok _ _ _=>?_
  ·unfold j6r;split
   ·exact jdC hS hc ha hb
   ·exact j1e _
  ·split
   ·exact j1e _
   ·refine j0q (jaL n (by omega) ha) fun x _ _ hx=>j0q (jaL n (by omega) hb) fun y _ _ hy=>?_
    have sx:=jji hE n (by omega) ha hx
    have sy:=jji hE n (by omega) hb hy
    refine j0q ?_ fun q _ _ _=>?_
    ·unfold j2R;split
     ·exact j1e _
     ·exact joW hS hc sx sy
    ·split
     ·exact j1e _
     ·exact jlZ hT hS hc sx sy
theorem jkL(hE:NvOk E):∀n,jhX (j1T E n)
 |0=>fun ctx a b hc ha hb l l' h=>by cases h
 |n+1=>jrQ (n:=n) hE (jfE hE n) (jkL hE n)
theorem jny:∀(ctx:List Tm) (j:Nat),ctxF ctx j=true→∀(i:Nat) (t:Tm),ctx[i]?=some t→ScT ((j:Int)+i) t
 |[],j,h,i,t,hi=>by simp at hi
 |a::r,j,h,i,t,hi=>by
  rw[ctxF,Bool.and_eq_true] at h;cases i with
  |zero=>
   simp at hi;subst hi;have:=j1d h.1;exact⟨j3m _ 4 _ _ this.2.2.2 (by omega),j1C this.2.2.1⟩
  |succ i=>
   have:=jny r (j+1) (by rw[show((j+1:Nat):Int)=(j:Int)+1 by omega];exact h.2) i t (by simpa using hi)
   rw[show(((j+1:Nat):Int)+i)=(j:Int)+((i+1:Nat):Int) by omega] at this
   exact this
theorem j4c{ts:List Tm}(h:j1h ctx ts=true):CtxS ctx∧∀t∈ts,ScT ctx.length t:=by
 unfold j1h at h;rw[Bool.and_eq_true,Bool.and_eq_true,decide_eq_true_iff] at h;refine⟨⟨h.1,fun i t hi=>?_⟩,fun t ht=>?_⟩
 ·have:=jny ctx 0 h.2.1 i t hi;rw[show(((0:Nat):Int)+i)=(i:Int) by omega] at this
  exact this
 ·have:=j1d (List.all_eq_true.1 h.2.2 t ht);exact⟨j3m _ 4 _ _ this.2.2.2 (by omega),j1C this.2.2.1⟩
theorem j8A{α:Type}{b:Bool}{x:M α}(hx:b=true→N10 x)(h:bnd (j2P b 10) (fun _=>x) l=some (.error 10,l')):l'=l:=by
 rcases j06 h with⟨e,h1,h2⟩|⟨u,l1,h1,h2⟩
 ·exact(j0C h1).1
 ·exact absurd h2 (hx (j7P h1).1 _ _)
end
open Go Go.Am Go.Gw
def jsW(q:Bool):List UInt8:=match q with
 |true=>[115,111]
 |false=>[]
theorem jcn(q:Bool):Pf C1 60 [bv q] [sv (jsW q)]:=by
 cases q;all_goals
  refine j00 Tryz.func60 rfl rfl rfl ?_;repeat'(refine gU ?_)<;>conv=>whnf
 all_goals rfl
theorem jit(t:Tm)(v:PV)(h:TmP t v):∃q,Pf C1 10 [v] [bv q]:=by
 have hN:=j6O t v h 150 (by omega) (by omega)
 refine⟨decide (useN t 150≤150),?_⟩;cases h.c;refine j00 Tryz.func10 rfl rfl rfl ?_;repeat'(first|refine gU ?_|refine gX hN ?_)<;>conv=>whnf
 all_goals rfl
def errS(o:Except Int (List UInt8)):List PV:=match o with
 | .ok s=>[sv s,iv 0]
 | .error e=>[sv [],iv e]
noncomputable def askF(E:Nv)(n:Nat)(ctx:List Tm)(a b:Tm)(what:Int):M (List UInt8):=
 if what=0 then bnd (j7y E n ctx a) fun x=>mok (textF x)
 else if what=1 then bnd (jba E n ctx a) fun x=>mok (j8G x)
 else if what=2 then bnd (j4r E n ctx a b) fun q=>mok (jsW q)
 else bnd (j6f E n ctx a) fun _=>mok [116,111,108,100]
theorem jiK:j8G (.mk 0 0 [])=[]:=by decide +kernel
theorem lvPz:LvP (.mk 0 0 []) (.ag zLv):=⟨true,0,[],rfl,.inr rfl,rfl,by simp⟩
theorem jn6(E:Nv)(cs:List PV)(hE:NvP E (.cp cs))(tot:Int)(ht:tot≤1048576)(n:Nat)(ctx:List Tm)(b:Bool)(z:Nat)(xs:List PV)(hz:z=5∨(xs=[]∧b=true∧z=0))(hxs:TmsP ctx xs)(hbd:ctx.length≤1759218604441)(t:Tm)(v:PV)(h:TmP t v)(u:Tm)(w:PV)(hu:TmP u w)(what:Int)(hw:0≤what∧what≤3)(l:Int)(r:Except Int (List UInt8))(l':Int)(h0:0≤l)(h1:l≤tot)(hx:askF E n ctx t u what l=some (r,l')):Fr 12 [.ci [.bp 0 0],.sl b z xs,v,w,iv what] cs tot l (.ret (errS r)) l':=by
 have hv:=h;have hw':=hu;cases h.c;cases hu.c;unfold askF at hx;obtain rfl|rfl|rfl|rfl:what=0∨what=1∨what=2∨what=3:=by omega
 ·rw[if_pos rfl] at hx;rcases j06 hx with⟨e,q1,rfl⟩|⟨x,la,q1,q2⟩
  ·have hf:=(j8l E cs hE tot ht n ctx b z xs hz hxs hbd t _ hv l _ l' h0 h1 q1).2;have hX:=jfV tz _ j4A;rw[js0] at hX;simp only[errV,errS] at hf⊢;refine j00 Tryz.func12 rfl rfl rfl ?_;repeat'(first|refine gU ?_|refine gW hf ?_|refine gX hX ?_)<;>conv=>whnf
   all_goals exact gJ
  ·cases q2;obtain⟨g1,hf⟩:=j8l E cs hE tot ht n ctx b z xs hz hxs hbd t _ hv l _ _ h0 h1 q1;have hX:=jfV x _ (g1 x rfl).2.2;simp only[errV,errS] at hf⊢;obtain⟨k9,n9,s9,b9,z9,x9,c9,y9,ys9,he9⟩:=j07 x;rw[he9] at hf hX;refine j00 Tryz.func12 rfl rfl rfl ?_;repeat'(first|refine gU ?_|refine gW hf ?_|refine gX hX ?_)<;>conv=>whnf
   all_goals exact gJ
 ·rw[if_neg (by omega),if_pos rfl] at hx
  rcases j06 hx with⟨e,q1,rfl⟩|⟨x,la,q1,q2⟩
  ·have hf:=(jbb E cs hE tot ht n ctx b z xs hz hxs hbd t _ hv l _ l' h0 h1 q1).2;have hX:=jfQ _ _ lvPz;rw[jiK] at hX;simp only[errL,errS] at hf⊢;refine j00 Tryz.func12 rfl rfl rfl ?_;repeat'(first|refine gU ?_|refine gW hf ?_|refine gX hX ?_)<;>conv=>whnf
   all_goals exact gJ
  ·cases q2;obtain⟨g1,hf⟩:=jbb E cs hE tot ht n ctx b z xs hz hxs hbd t _ hv l _ _ h0 h1 q1;obtain⟨wl,hwl⟩:=g1 x rfl;have hX:=jfQ x _ (jbn _ _ hwl);simp only[errL,errS] at hf⊢;obtain⟨k9,n9,b9,z9,x9,he9⟩:=j0v x;rw[he9] at hf hX;refine j00 Tryz.func12 rfl rfl rfl ?_;repeat'(first|refine gU ?_|refine gW hf ?_|refine gX hX ?_)<;>conv=>whnf
   all_goals exact gJ
 ·rw[if_neg (by omega),if_neg (by omega),if_pos rfl] at hx
  rcases j06 hx with⟨e,q1,rfl⟩|⟨x,la,q1,q2⟩
  ·have hf:=j2p E cs hE tot ht n ctx b z xs hz hxs hbd t _ hv u _ hw' l _ l' h0 h1 q1;have hX:Pf C1 _ _ [sv []]:=jcn false;simp only[errB,errS] at hf⊢;refine j00 Tryz.func12 rfl rfl rfl ?_;repeat'(first|refine gU ?_|refine gW hf ?_|refine gX hX ?_)<;>conv=>whnf
   all_goals exact gJ
  ·cases q2;have hf:=j2p E cs hE tot ht n ctx b z xs hz hxs hbd t _ hv u _ hw' l _ _ h0 h1 q1;have hX:=jcn x;simp only[errB,errS] at hf⊢;refine j00 Tryz.func12 rfl rfl rfl ?_;repeat'(first|refine gU ?_|refine gW hf ?_|refine gX hX ?_)<;>conv=>whnf
   all_goals exact gJ
 ·rw[if_neg (by omega),if_neg (by omega),if_neg (by omega)] at hx
  rcases j06 hx with⟨e,q1,rfl⟩|⟨x,la,q1,q2⟩
  ·have he:¬e=0:=fun e0=>by
    subst e0;exact(j03 (j0l (by omega)) fun _=>j03 (j2L (j0i n) (j0r n) ctx t) fun _=>j0j _:Fine (j6f E n ctx t)).nz _ _ q1
   have hf:=j9t E cs hE tot ht n ctx b z xs hz hxs hbd t _ hv l _ l' h0 h1 q1;have hX:Pf C1 _ _ [sv []]:=jcn false;simp only[errB,errS] at hf⊢;refine j00 Tryz.func12 rfl rfl rfl ?_;repeat'(first|refine gU ?_|refine gW hf ?_|refine gX hX ?_)<;>conv=>whnf
   all_goals exact gJ
  ·cases q2;have hf:=j9t E cs hE tot ht n ctx b z xs hz hxs hbd t _ hv l _ _ h0 h1 q1;simp only[errB,errS] at hf⊢;refine j00 Tryz.func12 rfl rfl rfl ?_;repeat'(first|refine gU ?_|refine gW hf ?_)<;>conv=>whnf
   all_goals exact gJ
open Go Go.Am Go.Gw
section
variable{E:Nv}
theorem jbv(n:Nat)(c:List Tm)(t:Tm):Fine (j6f E n c t):=j03 (j0l (by omega)) fun _=>j03 (j2L (j0i n) (j0r n) c t) fun _=>j0j _
theorem jdk(n:Nat)(c:List Tm)(t:Tm):Fine (jba E n c t):=j03 (j0l (by omega)) fun _=>j1B (j0i n) (j0r n) c t
theorem jjS(n:Nat)(c:List Tm)(a b:Tm)(w:Int):Fine (askF E n c a b w):=by
 unfold askF;split
 ·exact j03 (j6W _ _) fun _=>j0j _
 split
 ·exact j03 (jdk _ _ _) fun _=>j0j _
 split
 ·exact j03 (j3Q _ _ _) fun _=>j0j _
 ·exact j03 (jbv _ _ _) fun _=>j0j _
theorem jdA(c:List Tm)(t:Tm):Mono fun n=>j7y E n c t:=fun _ _ h=>jkd h c t
theorem jdz(c:List Tm)(t:Tm):Mono fun n=>jba E n c t:=j1j (j0E _) fun _=>j4Z c t
theorem jbT(c:List Tm)(t:Tm):Mono fun n=>j6f E n c t:=j1j (j0E _) fun _=>j1j (j6v c t) fun _=>j0E _
theorem jkt(c:List Tm)(a b:Tm)(w:Int):Mono fun n=>askF E n c a b w:=by
 unfold askF;split
 ·exact j1j (jdA c a) fun _=>j0E _
 split
 ·exact j1j (jdz c a) fun _=>j0E _
 split
 ·exact j1j (j7e c a b) fun _=>j0E _
 ·exact j1j (jbT c a) fun _=>j0E _
theorem jno(hE:NvOk E)(q:Int)(c:List Tm)(t:Tm):TotU (fun n=>jba E n c t) q:=TotU.pre (fun l=>j1z _ _ l) (j0l (by omega)) fun _=>jfu hE (jaV hE _) c t
theorem jle(hE:NvOk E)(q:Int)(c:List Tm)(t:Tm):TotU (fun n=>j6f E n c t) q:=TotU.pre (fun l=>j1z _ _ l) (j0l (by omega)) fun _=>TotU.bnd (jkB hE (jaV hE _) c t) (fun n=>j2L (j0i n) (j0r n) c t) (j6v c t) (fun _=>j1r _) (fun _=>j0E _)
theorem jn7(hE:NvOk E)(q:Int)(c:List Tm)(a b:Tm)(w:Int):TotU (fun n=>askF E n c a b w) q:=by
 unfold askF;split
 ·exact TotU.bnd (jgi hE q c a) (fun n=>j6W c a) (jdA c a) (fun _=>j1r _) (fun _=>j0E _)
 split
 ·exact TotU.bnd (jno hE q c a) (fun n=>jdk n c a) (jdz c a) (fun _=>j1r _) (fun _=>j0E _)
 split
 ·exact TotU.bnd (jgh hE q c a b) (fun n=>j3Q c a b) (j7e c a b) (fun _=>j1r _) (fun _=>j0E _)
 ·exact TotU.bnd (jle hE q c a) (fun n=>jbv n c a) (jbT c a) (fun _=>j1r _) (fun _=>j0E _)
variable{l l' w:Int}{c:List Tm}{n:Nat}{a b:Tm}{α:Type}
theorem jf8{b:Bool}{e:Int}{x:M α}(hx:∀l a l',0≤l→x l=some (.ok a,l')→l'<l){a:α}(h0:0≤l)(h:bnd (j2P b e) (fun _=>x) l=some (.ok a,l')):l'<l:=by
 rcases j06 h with⟨e,h1,h2⟩|⟨u,l1,h1,h2⟩
 ·cases h2
 ·obtain⟨rfl,-⟩:=j0C h1;exact hx _ _ _ h0 h2
theorem jvn:∀(n:Nat) {c:List Tm}{t:Tm}(l:Int) (a:Tm) (l':Int),0≤l→typF E n c t l=some (.ok a,l')→l'<l
 |0,_,_,_,_,_,_,h=>by cases h
 |n+1,c,t,l,a,l',h0,h=>by
  have hf:Fine (typK E (j1K E n) (typF E n) c t):=by
   unfold typK;split
   ·exact j03 (j0l (by omega)) fun _=>j1b _
   split
   ·exact j03 (j4Q _) fun _=>j0j _
   split
   ·exact jnT (jcq _ _)
   split
   ·exact j03 (j0r n _ _) fun _=>j03 (j0i n _) fun _=>j03 (j0l (by omega)) fun _=>j1b _
   split
   ·exact j03 (j1H _ _) fun _=>j03 (j0r n _ _) fun _=>j1b _
   split
   ·exact j03 (j1B (j0i n) (j0r n) _ _) fun _=>j03 (j1H _ _) fun _=>j03 (j1B (j0i n) (j0r n) _ _) fun _=>j03 (j4Q _) fun _=>j0j _
   ·exact j03 (j1b _) fun _=>j0r n _ _
  rw[jhJ,jpR] at h;exact jb8 hf h0 h
theorem jfA{x:M α}(hx:∀l r l',0≤l→x l=some (r,l')→l'≤l){r:Except Int α}(h0:0≤l)(hr:r≠.error 22)(h:bnd j4o (fun _=>x) l=some (r,l')):l'<l:=by
 rcases j06 h with⟨e,h1,h2⟩|⟨u,l1,h1,h2⟩
 ·rcases j0S h1 with⟨a1,a2,a3⟩|⟨a1,a2,a3⟩
  ·cases a3
  ·cases a3;exact absurd h2 hr
 ·rcases j0S h1 with⟨a1,a2,a3⟩|⟨a1,a2,a3⟩
  ·have:=hx _ _ _ (by omega) h2
   omega
  ·cases a3
theorem jlE(n:Nat)(c:List Tm)(a b:Tm):Fine (match eqTm a b with
 |true=>mok true
 |false=>bnd (j6r (j1T E n) c a b) fun ok=>match ok with
  |true=>mok true
  |false=>bnd (j1K E n a) fun x=>bnd (j1K E n b) fun y=>bnd (j2R (j1T E n) c a b x y) fun q=>match q with
   |true=>mok true
   |false=>j2m (j1K E n) (typF E n) (j1T E n) c x y:M Bool):=by
 split
 ·exact j0j _
 ·refine j03 ?_ fun ok=>?_
  ·unfold j6r;split
   ·exact j4a (j1X n) _ _ _
   ·exact j0j _
  ·split
   ·exact j0j _
   ·refine j03 (j0i n _) fun _=>j03 (j0i n _) fun _=>j03 ?_ fun q=>?_
    ·unfold j2R;split
     ·exact j0j _
     ·exact j6X (j1X n) _ _ _
    ·split
     ·exact j0j _
     ·exact jby (j0i n) (j0r n) (j1X n) _ _ _
theorem juF{s:List UInt8}(h0:0≤l)(h:askF E n c a b w l=some (.ok s,l')):l'<l:=by
 have mk:∀{α:Type}{x:M α}{f:α→List UInt8},(∀y l1,x l=some (.ok y,l1)→l1<l)→bnd x (fun y=>mok (f y)) l=some (.ok s,l')→l'<l:=fun{α x f} hx h=>by
  rcases j06 h with⟨e,h1,h2⟩|⟨y,l1,h1,h2⟩
  ·cases h2
  ·cases h2;exact hx _ _ h1
 unfold askF at h;split at h
 ·exact mk (fun y l1 hy=>jf8 (fun l a l' h0 h=>jvn n l a l' h0 h) h0 hy) h
 split at h
 ·refine mk (fun y l1 hy=>jf8 (fun l a l' h0 h=>jfA (fun l r l' h0 hx=>?_) h0 (by simp) h) h0 hy) h
  exact((j03 (j0r n _ _) fun _=>j03 (j0i n _) fun _=>j03 (j0l (by omega)) fun _=>j0j _).dn l r l' h0 hx).2
 split at h
 ·refine mk (fun y l1 hy=>jf8 (fun l a' l' h0 h=>?_) h0 hy) h
  cases n with
  |zero=>cases h
  |succ n=>
   rw[jdP] at h;exact jfA (fun l r l' h0 hx=>((jlE (E:=E) n c a b).dn l r l' h0 hx).2) h0 (by simp) h
 ·refine mk (fun y l1 hy=>jf8 (fun l a' l' h0 h=>?_) h0 hy) h
  rcases j06 h with⟨e,h1,h2⟩|⟨p,l1,h1,h2⟩
  ·cases h2
  ·cases h2;have hR:∀l r l',0≤l→(bnd (typF E n c a) fun ty=>bnd (sortB (j1K E n) (typF E n) c ty) fun s=>mok (match jcV s with
     |true=>some ty
     |false=>none)) l=some (r,l')→l'≤l:=fun l r l' h0 hx=>((j03 (j0r n _ _) fun _=>j03 (j1B (j0i n) (j0r n) _ _) fun _=>j0j _).dn l r l' h0 hx).2
   rcases j2q h1 with⟨q,h3,h4⟩|⟨e,he,h3,h4⟩|⟨e,he,h3,h4⟩
   ·exact jfA hR h0 (by simp) h3
   ·cases h4
   ·exact jfA hR h0 (fun e'=>he (.inl (by cases e';rfl))) h3
theorem jqh(hE:NvOk E)(h:askF E n c a b w l=some (.error 10,l')):l'=l:=by
 have mk:∀{α:Type}{x:M α}{f:α→List UInt8},bnd x (fun y=>mok (f y)) l=some (.error 10,l')→x l=some (.error 10,l'):=fun{α x f} h=>by
  rcases j06 h with⟨e,h1,h2⟩|⟨y,l1,h1,h2⟩
  ·cases h2;exact h1
  ·cases h2
 unfold askF at h;split at h
 ·exact j8A (fun hb=>(jfE hE n c a (j4c hb).1 ((j4c hb).2 a (by simp))).2) (mk h)
 split at h
 ·exact j8A (fun hb=>jf4 hE (jfE hE n) (j4c hb).1 ((j4c hb).2 a (by simp))) (mk h)
 split at h
 ·exact j8A (fun hb=>jkL hE n c a b (j4c hb).1 ((j4c hb).2 a (by simp)) ((j4c hb).2 b (by simp))) (mk h)
 ·exact j8A (fun hb=>j0q jbV fun _ _ _ _=>j1e _) (mk h)
theorem jgq(hE:NvOk E)(c:List Tm)(a b:Tm)(w:Int)(l k:Int)(h0:0≤l)(hk:0≤k):∃n r l' r2 l2,askF E n c a b w l=some (r,l')∧askF E n c a b w (l+k)=some (r2,l2)∧0≤l'∧l'≤l∧0≤l2∧((r=.error 22∧l'=0∧l2≤k)∨(¬r=.error 22∧r2=r∧l2=l'+k∧(∀x,r=.ok x→l'<l)∧(r=.error 10→l'=l))):=by
 obtain⟨n1,r,l',h1⟩:=jn7 hE (l+k) c a b w l h0 (by omega)
 obtain⟨n2,r2,l2,h2⟩:=jn7 hE (l+k) c a b w (l+k) (by omega) (by omega)
 have g1:=jkt c a b w n1 (max n1 n2) (by omega) _ _ _ h1
 have g2:=jkt c a b w n2 (max n1 n2) (by omega) _ _ _ h2
 obtain⟨d1,d2,d3,d4⟩:=jjX (jjS _ c a b w) h0 hk g1 g2;refine⟨max n1 n2,r,l',r2,l2,g1,g2,d1,d2,d3,d4.imp id fun⟨e1,e2,e3⟩=>⟨e1,e2,e3,fun x hx=>?_,fun hx=>?_⟩⟩
 ·subst hx;exact juF h0 g1
 ·subst hx;exact jqh hE g1
end
open Go Go.Am Go.Gw
theorem jgp(ctx:List Tm)(b:Bool)(z:Nat)(xs:List PV)(hz:z=5∨(xs=[]∧b=true∧z=0))(hxs:TmsP ctx xs)(hbd:ctx.length≤1759218604441)(t:Tm)(v:PV)(h:TmP t v)(u:Tm)(w:PV)(hu:TmP u w)(fuel more:Int):Pf C1 3 [.sl b z xs,v,w,iv fuel,iv more] [bv true]:=by
 have ha:=ji1;have hlen:=hxs.len;have hz':z=5∨xs=[]:=hz.imp id (·.1)
 obtain⟨q1,hf1⟩:=jit t v h;obtain⟨q2,hf2⟩:=jit u w hu;have hv:=h;have hw:=hu;cases h.c;cases hu.c
 by_cases hb:0≤fuel∧fuel≤300∧0≤more∧more≤300
 rotate_left
 ·refine j00 Tryz.func3 rfl rfl rfl ?_;repeat'(first|refine gU ?_|apply gE<;>intro h|apply gM<;>intro h|refine gX ha ?_|refine gX hf1 ?_|refine gX hf2 ?_)<;>conv=>whnf
  all_goals first|rfl|(exfalso;omega)
 obtain⟨f0,f1,m0,m1⟩:=hb;obtain⟨cs,hE,hB⟩:=jb6;have hB1:=hB fuel (by omega) (by omega)
 have hB2:=hB (fuel+more) (by omega) (by omega)
 have hok:NvOk nv14:=by
  obtain⟨_,_,_,_,_,_,hok⟩:=hE;exact hok
 refine j00 Tryz.func3 rfl rfl rfl ?_;repeat'(first|refine gU ?_|apply gE<;>intro h|apply gM<;>intro h|refine gX ha ?_|refine gX hf1 ?_|refine gX hf2 ?_)<;>conv=>whnf
 all_goals first|rfl|(exfalso;omega)|skip
 refine j04 (G:=Nat) (fun i=>[(11,iv i)]) (fun _=>_) (fun i=>i≤ctx.length) (fun i=>ctx.length-i) 0 (by omega) rfl rfl ?_
 intro i hi;dsimp only at hi⊢;repeat'(first|refine gU ?_|apply gE<;>intro h)<;>conv=>whnf
 ·have hi':i<ctx.length:=by omega
  obtain⟨tc,htc⟩:∃tc,ctx[i]?=some tc:=⟨_,List.getElem?_eq_getElem hi'⟩;obtain⟨vc,hvc,hl⟩:=hxs.at htc;obtain⟨q3,hf3⟩:=jit tc vc hl;cases hl.c;repeat'(first|refine gU ?_|apply gM<;>intro h|refine VIdx.mk _ hvc ?_|refine gZ hz' ?_|refine gX hf3 ?_)<;>conv=>whnf
  all_goals first|rfl|exact VAgain.mk _ rfl _ (j0b rfl rfl rfl) ⟨i+1,by omega,by omega,rfl⟩
 clear hi;refine j04 (G:=Nat) (fun i=>[(12,iv i)]) (fun _=>_) (fun i=>i≤4) (fun i=>4-i) 0 (by omega) rfl rfl ?_
 intro q hq;dsimp only at hq⊢;repeat'(first|refine gU ?_|apply gE<;>intro h)<;>conv=>whnf
 ·obtain⟨n,r,l',r2,l2',g1,g2,d1,d2,d3,d4⟩:=jgq hok ctx t u q fuel more f0 m0;have sa:=jn6 nv14 cs hE fuel (by omega) n ctx b z xs hz hxs hbd t _ hv u _ hw q (by omega) fuel r l' f0 (by omega) g1
  have sb:=jn6 nv14 cs hE (fuel+more) (by omega) n ctx b z xs hz hxs hbd t _ hv u _ hw q (by omega) (fuel+more) r2 l2' (by omega) (by omega) g2
  have ca:=j1V cs fuel l';have cb:=j1V cs (fuel+more) l2';have ua:=j9d cs fuel l';have ub:=j9d cs (fuel+more) l2';have lfa:=jqV cs fuel l';rcases d4 with⟨rfl,d5,d6⟩|⟨hne,rfl,d5,d6,d7⟩
  ·obtain⟨s3,e3,he3⟩:∃s e,errS r2=[sv s,iv e]:=by cases r2<;>exact⟨_,_,rfl⟩
   rw[he3] at sb;simp only[errS] at sa;repeat'(first|refine gU ?_|refine j3k hB1 rfl rfl (j1x rfl ?_))<;>conv=>whnf
   repeat'(first|refine gU ?_|refine j3k hB2 rfl rfl (j1x rfl ?_)|refine jcB ?_|refine j0n (i:=2) sa rfl rfl rfl rfl rfl rfl rfl ?_)<;>conv=>whnf
   repeat'(first|refine gU ?_|apply gE<;>intro h|refine j0n (i:=3) sb rfl rfl rfl rfl rfl rfl rfl ?_|refine j0n (i:=2) ca rfl rfl rfl rfl rfl rfl rfl ?_|refine j0n (i:=2) ua rfl rfl rfl rfl rfl rfl rfl ?_|refine j0n (i:=2) lfa rfl rfl rfl rfl rfl rfl rfl ?_)<;>conv=>whnf
   all_goals first|(exfalso;omega)|skip
   repeat'(first|refine gU ?_|apply gE<;>intro h|refine j0n (i:=3) cb rfl rfl rfl rfl rfl rfl rfl ?_|refine j0n (i:=3) ub rfl rfl rfl rfl rfl rfl rfl ?_|refine j4m ?_)<;>conv=>whnf
   all_goals first|(exfalso;omega)|exact VAgain.mk _ rfl _ (j0b rfl rfl rfl) ⟨q+1,by omega,by omega,rfl⟩|(exfalso;simp_all;done)|skip
  ·obtain⟨s3,e3,he3,he4,he5,he6,he7⟩:∃s e,errS r2=[sv s,iv e]∧¬e=22∧(e=0→l'<fuel)∧(e=10→l'=fuel)∧(¬e=0→s=[]):=by
    have hz:=(jjS (E:=nv14) n ctx t u q).nz fuel l';cases r2 with
    |ok s=>exact⟨s,0,rfl,by omega,fun _=>d6 s rfl,fun e=>by omega,fun e=>absurd rfl e⟩
    |error e=>exact⟨[],e,rfl,fun h=>hne (by rw[h]),fun h=>absurd (by rw[←h];exact g1) hz,fun h=>d7 (by rw[h]),fun _=>rfl⟩
   rw[he3] at sa sb
   by_cases e0:e3=0
   ·subst e0;have hlt:=he5 rfl;repeat'(first|refine gU ?_|refine j3k hB1 rfl rfl (j1x rfl ?_))<;>conv=>whnf
    repeat'(first|refine gU ?_|refine j3k hB2 rfl rfl (j1x rfl ?_)|refine jcB ?_|refine j0n (i:=2) sa rfl rfl rfl rfl rfl rfl rfl ?_)<;>conv=>whnf
    repeat'(first|refine gU ?_|apply gE<;>intro h|refine j0n (i:=3) sb rfl rfl rfl rfl rfl rfl rfl ?_|refine j0n (i:=2) ca rfl rfl rfl rfl rfl rfl rfl ?_|refine j0n (i:=2) ua rfl rfl rfl rfl rfl rfl rfl ?_|refine j0n (i:=2) lfa rfl rfl rfl rfl rfl rfl rfl ?_)<;>conv=>whnf
    all_goals first|(exfalso;omega)|skip
    repeat'(first|refine gU ?_|apply gE<;>intro h|apply gM<;>intro h|refine j0n (i:=3) cb rfl rfl rfl rfl rfl rfl rfl ?_|refine j0n (i:=3) ub rfl rfl rfl rfl rfl rfl rfl ?_|refine j4m ?_)<;>conv=>whnf
    all_goals first|(exfalso;omega)|exact VAgain.mk _ rfl _ (j0b rfl rfl rfl) ⟨q+1,by omega,by omega,rfl⟩|(exfalso;simp_all;done)|skip
   ·obtain rfl:=he7 e0;repeat'(first|refine gU ?_|refine j3k hB1 rfl rfl (j1x rfl ?_))<;>conv=>whnf
    repeat'(first|refine gU ?_|refine j3k hB2 rfl rfl (j1x rfl ?_)|refine jcB ?_|refine j0n (i:=2) sa rfl rfl rfl rfl rfl rfl rfl ?_)<;>conv=>whnf
    repeat'(first|refine gU ?_|apply gE<;>intro h|refine j0n (i:=3) sb rfl rfl rfl rfl rfl rfl rfl ?_|refine j0n (i:=2) ca rfl rfl rfl rfl rfl rfl rfl ?_|refine j0n (i:=2) ua rfl rfl rfl rfl rfl rfl rfl ?_|refine j0n (i:=2) lfa rfl rfl rfl rfl rfl rfl rfl ?_)<;>conv=>whnf
    all_goals first|(exfalso;omega)|skip
    repeat'(first|refine gU ?_|apply gE<;>intro h|refine j0n (i:=3) cb rfl rfl rfl rfl rfl rfl rfl ?_|refine j0n (i:=3) ub rfl rfl rfl rfl rfl rfl rfl ?_|refine j4m ?_)<;>conv=>whnf
    all_goals first|(exfalso;omega)|exact VAgain.mk _ rfl _ (j0b rfl rfl rfl) ⟨q+1,by omega,by omega,rfl⟩|(exfalso;simp_all;done)|skip
end Go.Proofs.YtbnodhcijeaceaaGreatDoor
