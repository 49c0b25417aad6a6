/- Code of the plain machine, in a round or not: the model does the same. Plain lemmas, no statement of the seat. -/
import Derived.Test.YtbnodhcijeaceaaGreatDoorXAd
import Derived.RecoverIn
set_option linter.all false
namespace Go.Am
open Go Go.Hb
open Go.Gw (tk tf tz tsl tar tpl isAggD)
section
variable{P:Program}{E:Entry}{m:Mem}{φ:Ph}{μ:Own}{st:Sto}{ρ:AEnv}{a:Act}{w:World}{C:Cfg}{e:Ev}{n:Nat}
def SR.kind:∀{k:Nat}{st:Sto}{μ:Own}{r:Res}{b:Nat},SR m φ k st μ→r∈μ→r.holds w→r.foot=some b→(∃c T fr,w.heap[b]?=some (.cells c T fr))∨(∃l,w.heap[b]?=some (.loop l))∨(∃en c,w.heap[b]?=some (.map en c))∨∃c q s r,w.heap[b]?=some (.chan c q false s r false)
 |_,[],μ,r,b,h,hr,_,_=>by have h:μ=[]:=h;subst h;simp at hr
 |k,o::st,μ,r,b,h,hr,hh,hf=>by
  obtain⟨rs,μ',rfl,h2,h3⟩:=h;rcases BJ.1 hr with hr|hr
  ·cases o with
   |dead=>have h2:rs=[]:=h2;subst h2;simp at hr
   |box T cs=>
    obtain⟨b',vs,_,rfl,_⟩:=h2;simp only[BD] at hr;subst hr;simp only[bx,Res.foot,AD] at hf;subst hf;exact .inl ⟨_,_,_,hh⟩
   |frz cs=>obtain⟨rfl,_⟩:=h2;simp at hr
   |lp ρ ps a b' s=>
    obtain⟨l,rc,_,rfl,_⟩:=h2;simp only[BD] at hr;subst hr;simp only[Res.foot,AD] at hf;subst hf;exact .inr (.inl ⟨_,hh⟩)
   |mp ks vs=>
    obtain⟨l,en,clock,_,rfl,_⟩:=h2;simp only[BD] at hr;subst hr;simp only[Res.foot,AD] at hf;subst hf;exact .inr (.inr (.inl ⟨_,_,hh⟩))
   |ch cap q=>
    obtain⟨l,us,s,r,_,rfl,_⟩:=h2;simp only[BD] at hr;subst hr;simp only[Res.foot,AD] at hf;subst hf;exact .inr (.inr (.inr ⟨_,_,_,_,hh⟩))
   |row p e sz xs=>
    obtain⟨a',cap,vss,_,rfl,_⟩:=h2;simp only[BD] at hr;subst hr;obtain⟨_,h4⟩:=hh;rcases h4 with⟨h4,_⟩|⟨g,cap',cur,fz,h4,h5,_⟩
    ·rw[h4] at hf;simp[Res.foot,Value.ownBlock] at hf
    ·rw[h4] at hf;simp only[Res.foot,Value.ownBlock,AD] at hf;subst hf;exact .inl ⟨_,_,_,h5⟩
  ·exact SR.kind h3 hr hh hf
def Sit.notMark(hs:Sit E m φ μ st w){b:Nat}{x:Option (List Deferred)}(hb:w.heap[b]?=some (.deferred x)):∀r∈μ,r.foot≠some b:=fun r hr hf=>by
 rcases hs.sto.kind hr (hs.good.holds r hr) hf with⟨c,T,fr,h⟩|⟨l,h⟩|⟨en,c,h⟩|⟨c,q,s,r',h⟩
 ·rw[hb] at h;cases h
 ·rw[hb] at h;cases h
 ·rw[hb] at h;cases h
 ·rw[hb] at h;cases h
structure MarksL (E:Entry) (D:List Deferred) (w:World):Prop where
 at_:∀d∈D,∃b,d={ target:=.collected b,args:=#[] }∧w.heap[b]?=some (.deferred (some []))∧E.w.heap.size≤b
 apart:D.Pairwise (fun d d'=>d≠d')
def Marks(B:List Deferred)(E:Entry)(D:List Deferred)(w:World):Prop:=∃D1,D=D1++B∧MarksL E D1 w
variable{s':AS}{x:AX}{as bd:Code}{B D:List Deferred}{m' m0:Mem}{kk:Nat}{ro:Option Nat}{μ':Own}{φ0:Ph}{st0:Sto}{w':World}
def Marks.nil:Marks B E B w:=⟨[],rfl,fun _ h=>by simp at h,.nil⟩
def Marks.of(hM:Marks B E D w)(h:∀b:Nat,w.heap[b]?=some (Obj.deferred (some []))→w'.heap[b]?=w.heap[b]?):Marks B E D w':=by
 obtain⟨D1,rfl,hM⟩:=hM;refine⟨D1,rfl,fun d hd=>?_,hM.apart⟩
 obtain⟨b,h1,h2,h3⟩:=hM.at_ d hd;exact⟨b,h1,(h b h2).trans h2,h3⟩
def Marks.keep(hM:Marks B E D w)(hs:Sit E m φ μ st w)(k:Hb.Good ⟨w,m,feetOf μ⟩ w' m' μ'):Marks B E D w':=
 hM.of fun b h2=>k.keep b (j1Y h2) (fun⟨r,hr,hf⟩=>hs.notMark h2 r hr hf)
def Marks.cons(hM:Marks B E D w)(h:∀b:Nat,w.heap[b]?=some (Obj.deferred (some []))→w'.heap[b]?=w.heap[b]?)(hb:w'.heap[w.heap.size]?=some (.deferred (some [])))(hE:E.w.heap.size≤w.heap.size):
  Marks B E ({ target:=.collected w.heap.size,args:=#[] }::D) w':=by
 obtain⟨D1,rfl,hM⟩:=hM;refine⟨{ target:=.collected w.heap.size,args:=#[] }::D1,rfl,fun d hd=>?_,CA.2 ⟨fun d hd e'=>?_,hM.apart⟩⟩
 ·rcases AN.1 hd with rfl|hd
  ·exact⟨_,rfl,hb,hE⟩
  ·obtain⟨b,h1,h2,h3⟩:=hM.at_ d hd;exact⟨b,h1,(h b h2).trans h2,h3⟩
 ·obtain⟨b,q1,q2,_⟩:=hM.at_ d hd;rw[q1] at e';simp only[Deferred.mk.injEq,Target.collected.injEq,and_true] at e';have:=j1Y q2;omega
def jcF(B:List Deferred)(E:Entry)(n:Nat)(m:Mem)(φ:Ph)(st:Sto)(x:AX)(s':AS)(ex:Exit)(a':Act)(w':World):Prop:=
 ∃m' φ' μ',Mem.le m m'∧Ext st s'.st φ φ'∧Sit E m' φ' μ' s'.st w'∧EnvR m' φ' s'.env a'∧a'.tmps.size=n∧Marks B E a'.defers w'∧XR m' φ' x ex
def Sit.start(hs:Sit E m φ μ st w):Sit ⟨w,m,feetOf μ⟩ m φ μ st w:=⟨Hb.Good.start (ν:=[]) (by simpa using hs.good),hs.sto,hs.dom⟩
def Sit.back{φ':Ph}{st':Sto}(hs:Sit E m φ μ st w)(k:Sit ⟨w,m,feetOf μ⟩ m' φ' μ' st' w'):Sit E m' φ' μ' st' w':=
 ⟨by simpa using Hb.Good.back (ν:=[]) (by simpa using hs.good) k.good,k.sto,k.dom⟩
def Post.toM{ex:Exit}{a':Act}(hs:Sit E m φ μ st w)(hM:Marks B E D w)(h:Post D ⟨w,m,feetOf μ⟩ n m0 φ0 st0 x s' ex a' w'):jcF B E n m0 φ0 st0 x s' ex a' w':=by
 obtain⟨m',φ',μ',q1,q2,q3,q4,q5,q6,q7⟩:=h;exact⟨m',φ',μ',q1,q2,hs.back q3,q4,q5,by rw[q6];exact hM.keep hs q3.good,q7⟩
def LoopIn(ro:Option Nat)(P:Program)(c:Code)(Q:Exit→Act→World→Prop)(a:Act)(w:World):Prop:=
 ∀(b:Frame) (k:List Item) (cs:List Frame),b.roundOf=ro→∃e a' w',Q e a' w'∧ArrivesIn (Machine.fenced P (FF ro)) P (lone (b.atR a (.code c::.inLoop c::k)) cs w) b k cs e a' w'
def jrR(P:Program)(loop:List Nat→Nat→Code→AS→Option (AX×AS)):Prop:=
 ∀ks k0 c s x s',loop ks k0 c s=some (x,s')→∀(ro:Option Nat) (B:List Deferred) (E:Entry) n m0 φ0 st0 m φ μ a w,slots n c=true→(ro.isSome=true→j1f c=true)→st0.length≤k0→k0≤s.st.length→(∀id,k0≤id→φ0 id=none)→Mem.le m0 m→Ext st0 s.st φ0 φ→Sit E m φ μ s.st w→EnvR m φ s.env a→a.tmps.size=n→Marks B E a.defers w →
  LoopIn ro P c (jcF B E n m0 φ0 st0 x s') a w
structure EvOk (C:Cfg) (e:Ev):Prop where
 call:CallOk C.P e.call
 loop:jrR C.P e.loop
 yield:j2Z (YieldD C.P) e.yield
def Sit.free{i l:Nat}{r r':Loop}{ρ':List (Nat×PV)}{ps:List Nat}{s:LpS}(hs:Sit E m φ μ st w)(hi:st[i]?=some (.lp ρ' ps as bd s))(hφ:φ i=some (.blk l))(hl:w.heap[l]?=some (.loop r)):
  ∃μ',Sit E m φ μ' (st.set i .dead) (w.putObj l (.loop r')):=by
 obtain⟨μ1,rs,μ2,e1,e2,e3⟩:=hs.sto.get hi;rw[AP] at e2 e3;obtain⟨l',rc,h1,rfl,_⟩:=e2;rw[hφ] at h1;cases h1;have hg:Hb.Good E w m (.blk l (.loop rc)::(μ1++μ2)):=hs.good.perm (by rw[e1];simp)
 have hA:l<w.heap.size:=j1Y hl;have ht:Hb.Good E (w.putObj l (.loop r')) m (.blk l (.loop r')::(μ1++μ2)):=hg.turn rfl rfl rfl (by simp) (fun b hb hf=>World.putObj_heap_other (fun e=>hf (by simp[Res.foot,e]))) (fun b o v hf hm=>by
   simp only[Res.foot,AD] at hf;subst hf;obtain⟨c,T,fr,h1,_⟩:=hg.sub _ o v hm;rw[hl] at h1;cases h1) (World.putObj_heap_same hA) (fun b hb=>.inl ⟨hb,AU _⟩)
 exact⟨μ1++μ2,ht.drop (EN _ _),by simpa using e3 (o':=.dead) (rs':=[]) (Mem.le.refl m) (Le.refl φ) (fun _ _=>rfl) rfl,fun id hid=>hs.dom id (by simpa using hid)⟩
def jrh(he:EvOk C e){f:Operand}{ps:Array Tmp}{s:AS}(gF:ro=none)(hx:j4i C e f ps as bd s=some (x,s'))(hE:slots n (.rangeFunc f ps as bd)=true)
  (hJ:∀id,st0.length≤id→φ0 id=none) (hm:Mem.le m0 m) (hC:Ext st0 s.st φ0 φ) (hs:Sit E m φ μ s.st w) (h:EnvR m φ s.env a) (hn:a.tmps.size=n) (hM:Marks B E a.defers w):(Code.rangeFunc f ps as bd).wpIn (FF ro) kk C.P (jcF B E n m0 φ0 st0 x s') a w:=by
 subst gF;unfold j4i at hx;split at hx;rotate_left
 ·cases hx
 rename_i g xs ys hg;split at hx;rotate_left
 ·cases hx
 rename_i hc;simp only[AB] at hc;obtain⟨⟨hA,gI⟩,qI⟩:=hc;simp only[slots,AB] at hE;obtain⟨⟨wF,qF⟩,kF⟩:=hE;have rg:=j0j h hg;generalize gH:a.eval f=eg at rg;cases rg with
 | @fn _ _ _ _ us ws hl gG hi wG=>
  cases gD:j2K C e g (xs++[.yl s.st.length]++ys) (s.st++[.lp s.env ps.toList as bd .ready]) with
  |none=>rw[gD] at hx;cases hx
  |some res=>
   obtain⟨r,st2⟩:=res;rw[gD] at hx;cases r with
   |pan v=>cases hx
   |ret rs=>
    simp only at hx;refine wpIn_rangeFunc (fun fn _=>?_)
    obtain⟨rec,qA⟩:∃rec:Loop,rec={ state:=.ready,pending:=none,fn,tmps:=a.tmps,params:=ps,assign:=as,body:=bd,defers:=w.heap.size }:=⟨_,rfl⟩;obtain⟨w1,wD⟩:∃w1,w1=(w.alloc (.deferred (some []))).alloc (.loop rec):=⟨_,rfl⟩;have wA:w1={ { w with heap:=w.heap.push (.deferred (some [])) } with heap:=(w.heap.push (.deferred (some []))).push (.loop rec) }:=by rw[wD];rfl
    have hF:w1.heap.size=w.heap.size+2:=by rw[wA];simp
    have wI:w1.heap[w.heap.size+1]?=some (.loop rec):=by
     rw[wA];simp only[EY,FK,if_true]
    have kI:w1.heap[w.heap.size]?=some (.deferred (some [])):=by
     rw[wA];simp only[EY,FK];rw[if_neg (by omega)]
     simp
    have hold:∀b,b<w.heap.size→w1.heap[b]?=w.heap[b]?:=fun b hb=>by
     rw[wA];simp only[EY,FK];rw[if_neg (by omega),if_neg (by omega)]
    have kE:=(hs.good.new (.deferred (some []))).new (.loop rec);simp only[FK] at kE;have kH:Hb.Good E w1 m (μ++[.blk (w.heap.size+1) (.loop rec)]):=by
     rw[wA];refine(kE.drop (μ':=.blk (w.heap.size+1) (.loop rec)::μ) ?_).perm (by simpa using(EQ (l₁:=[Res.blk (w.heap.size+1) (Obj.loop rec)]) (l₂:=μ)))
     exact .cons_cons _ (EN _ _)
    obtain⟨φ1,hφ1⟩:∃φ1:Ph,φ1=fun id=>if id=s.st.length then some (.blk (w.heap.size+1)) else φ id:=⟨_,rfl⟩
    have hφa:φ1 s.st.length=some (.blk (w.heap.size+1)):=by rw[hφ1];simp
    have hφb:∀{id},id≠s.st.length→φ1 id=φ id:=fun{id} hD=>by rw[hφ1];simp[hD]
    have gA:Le φ φ1:=fun id=>by
     by_cases hid:id=s.st.length
     ·rw[hs.dom id (by omega)]
      exact⟨fun b hb=>(by cases hb),fun sv n sz hb=>(by cases hb)⟩
     ·rw[hφb hid];exact Le.refl φ id
    have qC:Sit E m φ1 (μ++[.blk (w.heap.size+1) (.loop rec)]) (s.st++[.lp s.env ps.toList as bd .ready]) w1:=by
     refine⟨kH,SR.snoc (hs.sto.mono (Mem.le.refl m) gA (fun id _ hid=>hφb (by omega))) ?_,fun id hid=>?_⟩
     ·rw[AP];refine⟨w.heap.size+1,rec,hφa,rfl,by rw[qA];exact⟨rfl,rfl⟩,by rw[qA],by rw[qA],by rw[qA],by rw[qA];rw[hn];exact qF,by rw[qA];rw[hn];exact kF,by rw[qA];rw[hn];exact wF,fun t y ht=>?_⟩
      obtain⟨v,q1,q2⟩:=h t y ht;exact⟨v,by rw[qA];exact q1,q2.mono (Mem.le.refl m) gA⟩
     ·simp only[AL,AC,AG] at hid;rw[hφb (by omega)]
      exact hs.dom id (by omega)
    have kJ:Marks B E a.defers w1:=hM.of fun b hb=>hold b (j1Y hb)
    have hI:Marks B E ({ target:=.collected w.heap.size,args:=#[] }::a.defers) w1:=hM.cons (fun b hb=>hold b (j1Y hb)) kI hs.good.size
    have wB:Rl m φ1 (xs++[.yl s.st.length]++ys) (us++[.func (.yield (w.heap.size+1)) #[] #[]]++ws):=
     ((Rl.mono (Mem.le.refl m) gA ⟨hl,hi⟩).append (.cons (.yl hφa) .nil)).append (Rl.mono (Mem.le.refl m) gA ⟨gG,wG⟩)
    have hG:=jfI (E:=⟨w1,m,feetOf (μ++[.blk (w.heap.size+1) (.loop rec)])⟩) he.call qC.start wB gD;refine⟨w.heap.size+1,[{ target:=.collected w.heap.size,args:=#[] }],w1,{ target:=.fn (.func g) ws.toArray,args:=us.toArray ++ #[.func (.yield (w.heap.size+1)) #[] #[]] },w1,g,
     (us++[Value.func (.yield (w.heap.size+1)) #[] #[]]++ws).toArray,w1,?_,?_,fun _ _=>trivial,?_,fun e'=>(by cases e'),?_⟩
    ·rw[wD,qA];exact run_enterLoop_outer _ _ _ _ _
    ·have qD:a.eval (.const (.func (.yield (w.heap.size+1)) #[] #[]))=.func (.yield (w.heap.size+1)) #[] #[]:=rfl;simp[resolve,gH,Deferred.ofValue,qD]
    ·unfold Gw.callable at hA;split at hA
     ·rename_i fn' qH;rw[AB] at hA;cases hb:fn'.body with
      |none=>simp[hb] at hA
      |some body=>
       have hD:¬fn'.name = "runtime.NumGoroutine" :=by simpa using hA.2
       simp[invoke,callFunc,qH,hD,hb]
     ·cases hA
    ·refine jjq (Calls.mono hG fun en w2 hq=>?_)
     obtain⟨m2,φ2,μ2,q1,q2,q3,us',rfl,q5⟩:=hq;have q3':=qC.back q3;have wH:=hI.keep qC q3.good;have hφ2:φ2 s.st.length=some (.blk (w.heap.size+1)):=(q2.le _).1 _ hφa
     -- the loop's record
     have key:∀(ls:LpS) (j:Option Code) ρ' ps' as' bd',st2[s.st.length]?=some (.lp ρ' ps' as' bd' ls)→(∀r:Loop,ls.is r→r.state≠.busy∧r.pending=j) →
       (∀w4 μ4,Sit E m2 φ2 μ4 (st2.set s.st.length .dead) w4→Marks B E ({ target:=.collected w.heap.size,args:=#[] }::a.defers) w4→match j with
        |none=>jcF B E n m0 φ0 st0 x s' .normal { a with defers:={ target:=.collected w.heap.size,args:=#[] }::a.defers } w4
        |some c=>c.wpIn (FF none) kk C.P (jcF B E n m0 φ0 st0 x s') { a with defers:={ target:=.collected w.heap.size,args:=#[] }::a.defers } w4) →
       rangePost (FF none) kk C.P (w.heap.size+1) (jcF B E n m0 φ0 st0 x s') { a with defers:=[{ target:=.collected w.heap.size,args:=#[] }]++a.defers } (.returned (Gw.tup us')) w2:=fun ls j ρ' ps' as' bd' gB qG hH=>by
      obtain⟨μ1,rs1,μ3,e1,e2,_⟩:=q3'.sto.get gB;rw[AP] at e2;obtain⟨l',rc,h1,h2,h3,_⟩:=e2;rw[hφ2] at h1;cases h1;have wC:w2.heap[w.heap.size+1]?=some (.loop rc):=q3'.good.holds (.blk (w.heap.size+1) (.loop rc)) (by rw[e1,h2];simp)
      obtain⟨h4,h5⟩:=qG rc h3;obtain⟨μ4,hB⟩:=q3'.free (r':={ rc with state:=.exhausted }) gB hφ2 wC
      have gC:(Instr.endLoop (w.heap.size+1)).run C.P w2=.ok j (w2.putObj (w.heap.size+1) (.loop { rc with state:=.exhausted })):=by
       rw[←h5];exact run_endLoop wC h4
      refine⟨j,_,gC,?_⟩;have qB:Marks B E ({ target:=.collected w.heap.size,args:=#[] }::a.defers) (w2.putObj (w.heap.size+1) (.loop { rc with state:=.exhausted })):=wH.of fun b hb=>World.putObj_heap_other (fun e'=>by
       subst e';rw[wC] at hb;cases hb)
      have:=hH _ μ4 hB qB;cases j with
      |none=>exact this
      |some c=>exact this
     have fin:∀(x1:AX) (ex:Exit),(x1,(⟨s.env,st2.set s.st.length .dead⟩:AS))=(x,s')→XR m2 φ2 x1 ex→∀w4 μ4,Sit E m2 φ2 μ4 (st2.set s.st.length .dead) w4→Marks B E ({ target:=.collected w.heap.size,args:=#[] }::a.defers) w4 →
       jcF B E n m0 φ0 st0 x s' ex { a with defers:={ target:=.collected w.heap.size,args:=#[] }::a.defers } w4:=fun x1 ex wE qE w4 μ4 hB qB=>by
      cases wE;refine⟨m2,φ2,μ4,hm.trans q1,⟨hC.le.trans (gA.trans q2.le),?_,fun id hid=>?_⟩,hB,fun t y ht=>?_,hn,qB,qE⟩
      ·have k1:=hC.len;have k2:=q2.len;simp only[AL,AC,AG,EZ] at k2⊢;omega
      ·obtain⟨d1,d2⟩:=hC.dead id hid;have kG:=(AK.1 d1).1;obtain⟨d3,d4⟩:=q2.dead id (by rw[AW kG];exact d1)
       exact⟨by rw[CJ (by omega)];exact d3,by rw[d4,hφb (by omega),d2]⟩
      ·obtain⟨v,k1,k2⟩:=h t y ht;exact⟨v,k1,k2.mono q1 (gA.trans q2.le)⟩
     split at hx
     ·rename_i ρ' ps' as' bd' ls gB;split at hx
      ·exact key .ready none ρ' ps' as' bd' gB (fun r hr=>⟨by rw[hr.1];simp,hr.2⟩) (fun w4 μ4 hB qB=>fin .normal .normal (BP hx) rfl w4 μ4 hB qB)
      ·exact key (.done none) (some .ret) ρ' ps' as' bd' gB (fun r hr=>⟨by rw[hr.1];simp,hr.2⟩) (fun w4 μ4 hB qB=>wpIn_ret (fin .ret .ret (BP hx) rfl w4 μ4 hB qB))
      ·rename_i i;exact key (.done (some i)) (some (.exit i)) ρ' ps' as' bd' gB (fun r hr=>⟨by rw[hr.1];simp,hr.2⟩) (fun w4 μ4 hB qB=>wpIn_exit (fin (.exit i) (.exit i) (BP hx) rfl w4 μ4 hB qB))
      ·cases hx
     ·cases hx
def j9C(wA:C.P.follows .mixedOrders=true)(he:EvOk C e):∀{c:Code}{s s':AS}{x:AX}{m0:Mem}{φ0:Ph}{st0:Sto}{m:Mem}{φ:Ph}{μ:Own}{a:Act}{w:World},exec C e c s=some (x,s')→slots n c=true→(ro.isSome=true→j1f c=true)→(∀id,st0.length≤id→φ0 id=none)→Mem.le m0 m→Ext st0 s.st φ0 φ→Sit E m φ μ s.st w→EnvR m φ s.env a→a.tmps.size=n→Marks B E a.defers w →
  c.wpIn (FF ro) kk C.P (jcF B E n m0 φ0 st0 x s') a w:=by
 intro c
 induction c with
 |skip=>
  intro s s' x m0 φ0 st0 m φ μ a w hx _ _ _ hm hA hs h hn hD;simp only[exec,AD,BB] at hx;obtain⟨rfl,rfl⟩:=hx;exact wpIn_skip ⟨m,φ,μ,hm,hA,hs,h,hn,hD,rfl⟩
 |region id ops draw=>
  intro s s' x m0 φ0 st0 m φ μ a w hx qA _ _ hm hA hs h hn hD;simp only[exec] at hx;split at hx
  ·exact wpIn_mono (wpIn_region_list (j7S (E:=⟨w,m,feetOf μ⟩) he.call he.yield hx qA hm hA hs.start h hn rfl)) fun ex a' w' hp=>Post.toM hs hD hp
  ·exact wpIn_mono (jjf (E:=⟨w,m,feetOf μ⟩) wA he.call hx qA hm hA hs.start h hn rfl) fun ex a' w' hp=>Post.toM hs hD hp
 |seq c1 c2 ih1 ih2=>
  intro s s' x m0 φ0 st0 m φ μ a w hx qA hR gA hm hA hs h hn hD;simp only[slots,AB] at qA;have wB:ro.isSome=true→j1f c1=true:=fun e'=>by have:=hR e';simp only[j1f,AB] at this;exact this.1
  have gB:ro.isSome=true→j1f c2=true:=fun e'=>by have:=hR e';simp only[j1f,AB] at this;exact this.2
  simp only[exec] at hx;cases h1:exec C e c1 s with
  |none=>simp[h1] at hx
  |some r=>
   obtain⟨x1,s1⟩:=r;rw[h1] at hx;refine wpIn_seq (Code.wpIn_mono (fun ex a' w' hp=>?_) (ih1 h1 qA.1 wB gA hm hA hs h hn hD))
   obtain⟨m',φ',μ',q1,q2,q3,q4,q5,q6,q7⟩:=hp;cases x1 with
   |normal=>
    obtain rfl:=q7;exact ih2 hx qA.2 gB gA q1 q2 q3 q4 q5 q6
   |exit i=>
    obtain rfl:=q7;cases hx;exact⟨m',φ',μ',q1,q2,q3,q4,q5,q6,rfl⟩
   |ret=>
    obtain rfl:=q7;cases hx;exact⟨m',φ',μ',q1,q2,q3,q4,q5,q6,rfl⟩
   |pan y=>
    obtain⟨v,⟨ch,rfl,hB⟩,q8⟩:=q7;cases hx;exact⟨m',φ',μ',q1,q2,q3,q4,q5,q6,v,⟨ch,rfl,hB⟩,q8⟩
 |cond c1 c2 c3 ih1 ih2=>
  intro s s' x m0 φ0 st0 m φ μ a w hx qA hR gA hm hA hs h hn hD;simp only[slots,AB] at qA;have wB:ro.isSome=true→j1f c2=true:=fun e'=>by have:=hR e';simp only[j1f,AB] at this;exact this.1
  have gB:ro.isSome=true→j1f c3=true:=fun e'=>by have:=hR e';simp only[j1f,AB] at this;exact this.2
  simp only[exec] at hx;split at hx
  ·rename_i b hb;have hv:=(j0j h hb).sc_eq;refine wpIn_cond_split hv (fun e'=>?_) (fun e'=>?_)
   ·subst e';exact ih1 hx qA.1 wB gA hm hA hs h hn hD
   ·subst e';exact ih2 hx qA.2 gB gA hm hA hs h hn hD
  ·cases hx
 |block id c1 ih=>
  intro s s' x m0 φ0 st0 m φ μ a w hx qA hR gA hm hA hs h hn hD;simp only[slots] at qA;simp only[j1f] at hR;simp only[exec] at hx;cases h1:exec C e c1 s with
  |none=>simp[h1] at hx
  |some r=>
   obtain⟨x1,s1⟩:=r;rw[h1] at hx;refine wpIn_block (Code.wpIn_mono (fun ex a' w' hp=>?_) (ih h1 qA hR gA hm hA hs h hn hD))
   obtain⟨m',φ',μ',q1,q2,q3,q4,q5,q6,q7⟩:=hp;cases x1 with
   |normal=>
    obtain rfl:=q7;cases hx;exact⟨m',φ',μ',q1,q2,q3,q4,q5,q6,rfl⟩
   |exit i=>
    obtain rfl:=q7;simp only at hx;show if i=id then _ else _
    split at hx
    ·rename_i hb;cases hx;rw[if_pos (AH hb)];exact⟨m',φ',μ',q1,q2,q3,q4,q5,q6,rfl⟩
    ·rename_i hb;cases hx;rw[if_neg (fun e'=>by subst e';simp at hb)]
     exact⟨m',φ',μ',q1,q2,q3,q4,q5,q6,rfl⟩
   |ret=>
    obtain rfl:=q7;cases hx;exact⟨m',φ',μ',q1,q2,q3,q4,q5,q6,rfl⟩
   |pan y=>
    obtain⟨v,⟨ch,rfl,hB⟩,q8⟩:=q7;cases hx;exact⟨m',φ',μ',q1,q2,q3,q4,q5,q6,v,⟨ch,rfl,hB⟩,q8⟩
 |loop c1 ih=>
  intro s s' x m0 φ0 st0 m φ μ a w hx qA hR gA hm hA hs h hn hD;simp only[slots] at qA;simp only[j1f] at hR;simp only[exec] at hx
  intro b k cs hC hb hr;obtain⟨ex,a',w',hq,qB⟩:=he.loop _ _ c1 s x s' hx ro B E n m0 φ0 st0 m φ μ a w qA hR hA.len (AU _) (fun id hid=>gA id (BL hA.len hid)) hm hA hs h hn hD b k cs hC
  exact⟨ex,a',w',hq,.of_steps (.one (fenced_calm hb hr rfl) stepR_loop) qB⟩
 |exit i=>
  intro s s' x m0 φ0 st0 m φ μ a w hx _ _ _ hm hA hs h hn hD;simp only[exec,AD,BB] at hx;obtain⟨rfl,rfl⟩:=hx;exact wpIn_exit ⟨m,φ,μ,hm,hA,hs,h,hn,hD,rfl⟩
 |ret=>
  intro s s' x m0 φ0 st0 m φ μ a w hx _ _ _ hm hA hs h hn hD;simp only[exec,AD,BB] at hx;obtain⟨rfl,rfl⟩:=hx;exact wpIn_ret ⟨m,φ,μ,hm,hA,hs,h,hn,hD,rfl⟩
 |rangeFunc f ps as bd _ _=>
  intro s s' x m0 φ0 st0 m φ μ a w hx qA hR gA hm hA hs h hn hD;simp only[exec] at hx;refine jrh he ?_ hx qA gA hm hA hs h hn hD;cases ro with
  |none=>rfl
  |some l=>have:=hR rfl;simp[j1f] at this
 |_=>
  intro s s' x m0 φ0 st0 m φ μ a w hx;simp[exec] at hx
end
open Go Go.Hb
open Go.Gw (tk tf tz tsl tar tpl isAggD looks deps statOk)
section
variable{P:Program}{E:Entry}{m:Mem}{φ:Ph}{μ:Own}{st:Sto}{ρ:AEnv}{a:Act}{w:World}{C:Cfg}{e:Ev}{n:Nat}
def jfS:∀{vs:List PV}{i t:Nat}{x:PV},aget (argE i vs) t=some x→i≤t∧vs[t-i]?=some x
 |[],i,t,x,h=>by simp[argE,aget] at h
 |u::r,i,t,x,h=>by
  simp only[argE,aget] at h;split at h
  ·simp_all
  ·obtain⟨h3,h4⟩:=jfS h
   grind
variable{ops:Array Oper}{c:Code}{u:FrameMode}{cs:List Frame}{r:List Oper}{d kk:Nat}{o:Oper}{v:Option PV}
def jdC{K K':Act→World→Prop}{Q Q':Exit→Act→World→Prop}(h:∀a w,K a w→K' a w)(hq:∀e a w,e≠.normal→Q e a w→Q' e a w)(hh:o.wpIn (FF none) kk P a w K Q):o.wpIn (FF none) kk P a w K' Q':=by
 have hl:LetsOut Q→LetsOut Q':=fun⟨a,w,h⟩=>⟨a,w,hq _ _ _ (by simp) h⟩
 unfold Oper.wpIn at *;refine⟨hh.1,?_⟩;have hh:=hh.2;generalize(o.semAt (FF none).round a.eval).run P w=r at *;cases r with
 |ok x w'=>
  cases x<;>simp only[Oper.uponIn] at hh⊢<;>
   first
    |exact h _ _ hh
    |exact⟨hh.1,CallsIn.mono hh.2 (fun e w'' he=>by grind)⟩
    |exact⟨hh.1,RowsIn.mono hh.2 (fun _ _ he=>h _ _ he)⟩
    |exact⟨hh.1,RoundIn.mono hh.2 (fun e w'' he=>by grind)⟩
 |halt x w'=>cases x<;>simp only[Oper.uponIn] at hh⊢<;>first|grind|exact hh
def j6f{kk:Nat}{ops:Array Oper}{Q Q':Exit→Act→World→Prop}(hq:∀e a w,Q e a w→Q' e a w):∀{l:List Oper}{a:Act}{w:World},wpListIn (FF none) kk P ops Q l a w→wpListIn (FF none) kk P ops Q' l a w
 |[],a,w,h=>hq _ _ _ h
 |o::r,a,w,h=>by
  unfold wpListIn at h⊢;split at h
  ·rename_i hw;rw[if_pos hw];exact jdC (fun a w hk=>j6f hq hk) (fun e a w _=>hq e a w) h
  ·rename_i hw;rw[if_neg hw];exact⟨h.1,j6f hq h.2⟩
def j7i{kk:Nat}{ops:Array Oper}{Q:Exit→Act→World→Prop}{l2:List Oper}:∀{l:List Oper}{a:Act}{w:World},wpListIn (FF none) kk P ops (Exit.then (wpListIn (FF none) kk P ops Q l2) Q) l a w→wpListIn (FF none) kk P ops Q (l++l2) a w
 |[],a,w,h=>h
 |o::r,a,w,h=>by
  rw[BY];unfold wpListIn at h⊢;split at h
  ·rename_i hw;rw[if_pos hw];exact jdC (fun a w hk=>j7i hk) (fun e a w hA hq=>by
    cases e with
    |normal=>exact absurd rfl hA
    |_=>exact hq) h
  ·rename_i hw;rw[if_neg hw];exact⟨h.1,j7i h.2⟩
def jme{id:Nat}{Q:Exit→Act→List Frame→World→Prop}{Q0:List Frame→Exit→Act→World→Prop}(hB:ops.toList=o::r)(hA:jiI o=some d)
  (h:∀v cs',(recoverD cs=some (v,cs')∨(recoverD cs=none∧v=.nilIface∧cs'=cs))→wpListIn (FF none) kk P ops (Q0 cs') r (a.put (some d) v) w) (hQ:∀cs' e a w,Q0 cs' e a w→Q e a cs' w):(Code.region id ops false).wpSIn (FF none) kk P Q a cs w:=by
 have ho:ops[0]?=some o:=by
  have:ops.toList[0]?=some o:=by rw[hB];rfl
  simpa using this
 have hsz:ops.size=r.length+1:=by grind [Array.length_toList]
 obtain⟨dst,op,ty,pos,after,gd⟩:=o;unfold jiI at hA;split at hA
 ·rename_i xs ts d' hC hg hd;simp only at hC hg hd;subst hC hg hd;split at hA
  ·rename_i qD;obtain rfl:d'=d:=BP hA;have qC:xs = #[]:=by grind
   subst qC;have wC:(execOp a.eval ⟨some d',.call ⟨.builtin .recover,#[],ts⟩,ty,pos,after,none⟩).run P w=.ok .recover w:=by rfl
   intro b k hb gB hF qA;have h0:(lone (b.atR a (.inRegion ops (List.range ops.size)::k)) cs w).fenced P (FF none):=by
    rw[hsz,GS,List.range'_succ];exact fenced_oper hF qA ho (fun f hf=>trivial)
   have hw:Region.wanted ⟨some d',.call ⟨.builtin .recover,#[],ts⟩,ty,pos,after,none⟩ (yielded ops a.tmps)=true:=rfl;have gA:List.range ops.size=0::List.range' 1 r.length:=by rw[hsz,GS,List.range'_succ]
   have hg:=stepGR_op (P:=P) (b:=b) (a:=a) (k:=k) (cs:=cs) (w:=w) (rest:=List.range' 1 r.length) ho hw;rw[gB,Oper.semAt_none] at hg;have hD:∀v,(b.atR a (.inRegion ops (0::List.range' 1 r.length)::k)).finish v=b.atR (a.put (some d') v) (.inRegion ops (List.range' 1 r.length)::k):=by
    simp_all[Frame.finish_atR]
   have hk:(b.atR a (.inRegion ops (0::List.range' 1 r.length)::k)).kind=.deferred:=hb;have gD:=tryRecover_deferred hk cs;have wA:∀j,r[j]?=ops[1+j]?:=fun j=>by
    have:ops.toList[1+j]?=r[j]?:=by grind
    rw[←this];simp
   have go:∀v cs',(recoverD cs=some (v,cs')∨(recoverD cs=none∧v=.nilIface∧cs'=cs))→cs'.length=cs.length→(stepG P true { frame:=b.atR a (.inRegion ops (0::List.range' 1 r.length)::k),callers:=cs,status:=.running,dying:=none } w).bare=.go { frame:=b.atR (a.put (some d') v) (.inRegion ops (List.range' 1 r.length)::k),callers:=cs',status:=.running,dying:=none } w →
     ∃e a' cs'' w',cs''.length=cs.length∧Q e a' cs'' w'∧ArrivesIn (Machine.fenced P (FF none)) P (lone (b.atR a (.code (.region id ops false)::k)) cs w) b k cs'' e a' w':=fun v cs' hv hlen gC=>by
    have h1:=h v cs' hv;have h2:wpOpsIn (FF none) kk P ops (Q0 cs') (List.range' 1 r.length) (a.put (some d') v) w:=by
     rw[wpOpsIn_eq_wpListIn r 1 wA];exact h1
    obtain⟨e',a',w',hq,qB⟩:=wp_opsIn _ _ _ h2 b k cs' gB hF (hlen▸qA);refine⟨e',a',cs',w',hlen,hQ _ _ _ _ hq,.of_steps (.head (fenced_calm hF qA rfl) stepR_region (.one h0 ?_)) qB⟩;rw[gA];exact step_lone_go gC
   cases wB:recoverD cs with
   |some q=>
    obtain⟨v,cs'⟩:=q;refine go v cs' (.inl wB) (recoverD_length wB) ?_
    simp_all[Frame.atR,stepG.apply]
   |none=>
    simp_all[Frame.atR,stepG.apply]
  ·cases hA
 ·cases hA
def jnX{D:List Deferred}(gA:C.P.follows .mixedOrders=true)(he:EvOk C e):∀{c:Code}{s s':AS}{x:AX}{m0:Mem}{φ0:Ph}{st0:Sto}{m:Mem}{φ:Ph}{μ:Own}{a:Act}{w:World},exec C e c s=some (x,s')→slots n c=true→jbw c=true→Mem.le m0 m→Ext st0 s.st φ0 φ→Sit E m φ μ s.st w→EnvR m φ s.env a→a.tmps.size=n→a.defers=D →
  c.wpIn (FF none) kk C.P (Post D E n m0 φ0 st0 x s') a w:=by
 intro c
 induction c with
 |skip=>
  intro s s' x m0 φ0 st0 m φ μ a w hx _ _ hm hA hs h hn hD;simp only[exec,AD,BB] at hx;obtain⟨rfl,rfl⟩:=hx;exact wpIn_skip ⟨m,φ,μ,hm,hA,hs,h,hn,hD,rfl⟩
 |region id ops draw=>
  intro s s' x m0 φ0 st0 m φ μ a w hx qA _ hm hA hs h hn hD;simp only[exec] at hx;split at hx
  ·exact wpIn_region_list (j7S he.call he.yield hx qA hm hA hs h hn hD)
  ·exact jjf gA he.call hx qA hm hA hs h hn hD
 |seq c1 c2 ih1 ih2=>
  intro s s' x m0 φ0 st0 m φ μ a w hx qA hf hm hA hs h hn hD;simp only[slots,AB] at qA;simp only[jbw,AB] at hf;simp only[exec] at hx;cases h1:exec C e c1 s with
  |none=>simp[h1] at hx
  |some r=>
   obtain⟨x1,s1⟩:=r;rw[h1] at hx;refine wpIn_seq (Code.wpIn_mono (fun ex a' w' hp=>?_) (ih1 h1 qA.1 hf.1 hm hA hs h hn hD))
   obtain⟨m',φ',μ',q1,q2,q3,q4,q5,q6,q7⟩:=hp;cases x1 with
   |normal=>
    obtain rfl:=q7;exact ih2 hx qA.2 hf.2 q1 q2 q3 q4 q5 q6
   |exit i=>
    obtain rfl:=q7;cases hx;exact⟨m',φ',μ',q1,q2,q3,q4,q5,q6,rfl⟩
   |ret=>
    obtain rfl:=q7;cases hx;exact⟨m',φ',μ',q1,q2,q3,q4,q5,q6,rfl⟩
   |pan y=>
    obtain⟨v,⟨ch,rfl,wA⟩,q8⟩:=q7;cases hx;exact⟨m',φ',μ',q1,q2,q3,q4,q5,q6,v,⟨ch,rfl,wA⟩,q8⟩
 |cond c1 c2 c3 ih1 ih2=>
  intro s s' x m0 φ0 st0 m φ μ a w hx qA hf hm hA hs h hn hD;simp only[slots,AB] at qA;simp only[jbw,AB] at hf;simp only[exec] at hx;split at hx
  ·rename_i b hb;have hv:=(j0j h hb).sc_eq;refine wpIn_cond_split hv (fun e'=>?_) (fun e'=>?_)
   ·grind
   grind
  ·cases hx
 |block id c1 ih=>
  intro s s' x m0 φ0 st0 m φ μ a w hx qA hf hm hA hs h hn hD;simp only[slots] at qA;simp only[jbw] at hf;simp only[exec] at hx;cases h1:exec C e c1 s with
  |none=>simp[h1] at hx
  |some r=>
   obtain⟨x1,s1⟩:=r;rw[h1] at hx;refine wpIn_block (Code.wpIn_mono (fun ex a' w' hp=>?_) (ih h1 qA hf hm hA hs h hn hD))
   obtain⟨m',φ',μ',q1,q2,q3,q4,q5,q6,q7⟩:=hp;cases x1 with
   |normal=>
    obtain rfl:=q7;cases hx;exact⟨m',φ',μ',q1,q2,q3,q4,q5,q6,rfl⟩
   |exit i=>
    obtain rfl:=q7;simp only at hx;show if i=id then _ else _
    split at hx
    ·rename_i hb;cases hx;rw[if_pos (AH hb)];exact⟨m',φ',μ',q1,q2,q3,q4,q5,q6,rfl⟩
    ·rename_i hb;cases hx;rw[if_neg (fun e'=>by subst e';simp at hb)]
     exact⟨m',φ',μ',q1,q2,q3,q4,q5,q6,rfl⟩
   |ret=>
    obtain rfl:=q7;cases hx;exact⟨m',φ',μ',q1,q2,q3,q4,q5,q6,rfl⟩
   |pan y=>
    obtain⟨v,⟨ch,rfl,wA⟩,q8⟩:=q7;cases hx;exact⟨m',φ',μ',q1,q2,q3,q4,q5,q6,v,⟨ch,rfl,wA⟩,q8⟩
 |exit i=>
  intro s s' x m0 φ0 st0 m φ μ a w hx _ _ hm hA hs h hn hD;simp only[exec,AD,BB] at hx;obtain⟨rfl,rfl⟩:=hx;exact wpIn_exit ⟨m,φ,μ,hm,hA,hs,h,hn,hD,rfl⟩
 |ret=>
  intro s s' x m0 φ0 st0 m φ μ a w hx _ _ hm hA hs h hn hD;simp only[exec,AD,BB] at hx;obtain⟨rfl,rfl⟩:=hx;exact wpIn_ret ⟨m,φ,μ,hm,hA,hs,h,hn,hD,rfl⟩
 |_=>
  intro s s' x m0 φ0 st0 m φ μ a w hx qA hf;simp[jbw] at hf
def jh1(h:recR c=some (ops,d,r)):∃id o,c=.region id ops false∧ops.toList=o::r∧jiI o=some d:=by
 unfold recR at h
 grind
def jpf{rest:Code}(h:recC c=some (ops,d,r,rest)):∃id o,(c=.seq (.region id ops false) rest∨(c=.region id ops false∧rest=.skip))∧ops.toList=o::r∧jiI o=some d:=by
 unfold recC at h;split at h
 ·split at h
  ·rename_i hr;cases h;obtain⟨id,o,rfl,h2,h3⟩:=jh1 hr
   grind
  ·cases h
 ·split at h
  ·rename_i hr;cases h;obtain⟨id,o,rfl,h2,h3⟩:=jh1 hr
   grind
  ·cases h
def jpg(h:jiI o=some d):o.dst=some d:=by
 grind [jiI]
def jsx(m:Mem)(φ:Ph)(v:Option PV)(u:FrameMode):Prop:=match v with
 |none=>u=.returning
 |some x=>∃uv c,u=.panicking c∧PanL uv c∧R m φ x uv
def jtO(m:Mem)(φ:Ph)(o:Option PV)(en:Ending)(u:FrameMode):Prop:=match o with
 |none=>(∃x,en=.returned x)∧settle u=.returning
 |some y=>∃c uy,en=.panicked c∧(∃c',raised u c=.panicking c'∧PanL uy c')∧R m φ y uy
def jcX(u:FrameMode):Prop:=settle u=.returning∧∀c uy,PanL uy c→∃c',raised u c=.panicking c'∧PanL uy c'
def jlL:jcX .returning:=⟨rfl,fun c uy h=>⟨c,rfl,h⟩⟩
def jlK{v:Value}{ol:List PanicEntry}(h:∀p∈ol,p.goexit=false):jcX (.panicking (⟨v,true,false⟩::ol)):=by
 refine⟨?_,fun c uy ⟨ol',h1,h2⟩=>⟨_,rfl,ol'++(⟨v,true,false⟩::ol),by rw[h1];rfl,fun p hp=>?_⟩⟩
 ·have h2:ol.dropWhile (!·.goexit)=[]:=by
   induction ol with
   |nil=>rfl
   |cons p r ih=>
    simp_all
  simp only[settle,h2]
 grind
def jph{c₀:Frame}(hc:c₀.mode=u)(hu:jsx m φ v u){x:Value}{cs':List Frame}(h:recoverD (c₀::cs)=some (x,cs')∨(recoverD (c₀::cs)=none∧x=.nilIface∧cs'=c₀::cs)):
  ∃u1,cs'={ c₀ with mode:=u1 }::cs∧jcX u1∧R m φ (jlP v) x:=by
 subst hc;cases v with
 |none=>
  have hu:c₀.mode=.returning:=hu;have hn:recoverD (c₀::cs)=none:=by simp[recoverD,hu]
  rcases h with h|⟨_,rfl,rfl⟩
  ·rw[hn] at h;cases h
  ·exact⟨.returning,by rw[←hu],jlL,.sc rfl⟩
 |some y=>
  obtain⟨uv,c,hu,⟨ol,rfl,hA⟩,hr⟩:=hu;have hn:recoverD (c₀::cs)=some (uv,{ c₀ with mode:=.panicking ({ v:=uv,recovered:=true }::ol) }::cs):=by simp[recoverD,hu]
  rcases h with h|⟨h,_⟩
  ·rw[hn] at h;cases h;exact⟨_,rfl,jlK hA,hr⟩
  grind
def jqg(gC:C.P.follows .mixedOrders=true)(hP:jkr C.P=true)(he:EvOk C e){D:FuncId}{args:List PV}{o:Option PV}{st':Sto}(hx:j6j C e D args v st=some (o,st')){vs:List Value}(hs:Sit E m φ μ st w)(hr:Rl m φ args vs)(hu:jsx m φ v u):
  CallsDIn (FF none) kk C.P D vs.toArray u w fun en u' w'=>∃m' φ' μ',Mem.le m m'∧Ext st st' φ φ'∧Sit E m' φ' μ' st' w'∧jtO m' φ' o en u':=by
 unfold j6j at hx;split at hx;rotate_left
 ·cases hx
 rename_i fn hE;split at hx;rotate_left
 ·cases hx
 rename_i c hc;split at hx;rotate_left
 ·cases hx
 rename_i ops d r rest qC;split at hx;rotate_left
 ·cases hx
 rename_i hb;simp only[AB,EB] at hb;obtain⟨gF,_,hF,qF,wB⟩:=hb;obtain⟨id,o0,gA,gB,gD⟩:=jpf qC;have wA:slots fn.ntmps c=true:=by
  have:=AF.1 hP fn (AE (l:=C.P.funcs.toList) (i:=D) (a:=fn) (by simpa using hE))
  grind
 have hD:(ops.toList.all fun o=>jaw fn.ntmps o.dst&&j4L o.op)=true∧slots fn.ntmps rest=true:=by
  rcases gA with rfl|⟨rfl,rfl⟩
  ·simp_all[slots,AB]
  ·exact⟨wA,rfl⟩
 have hB:=hD.1;rw[gB,BH,AB,AB,jpg gD] at hB;obtain⟨⟨hd,_⟩,wE⟩:=hB;have hsz:vs.length≤fn.ntmps:=by rw[←hr.1];simp_all
 have qD:(vs.toArray++Array.replicate (fn.ntmps-vs.toArray.size) undef).size=fn.ntmps:=by simp;omega
 generalize hC:({ tmps:=vs.toArray++Array.replicate (fn.ntmps-vs.toArray.size) undef,defers:=[] }:Act)=act0;have wD:act0.tmps.size=fn.ntmps:=by grind
 have wF:act0.defers=[]:=by rw[←hC]
 have wC:EnvR m φ (argE 0 args) act0:=fun t y ht=>by
  obtain⟨_,h2⟩:=jfS ht;simp only[FH] at h2;obtain⟨v,h3,h4⟩:=hr.get h2
  grind
 have qA:∀(a':Act) (w':World),(results fn a'.tmps).run C.P w'=.ok (.tuple #[]) w':=fun a' w'=>by
  simp_all[results]
 refine callsDIn_of_wpSIn hE hc trivial fun c₀ cs hc₀=>?_
 rw[hC]
 -- the end
 have fin:∀(q:AX×AS) u1,jcX u1→dend q=some (o,st')→∀ex a' w',Post [] E fn.ntmps m φ st q.1 q.2 ex a' w'→bodyPostS C.P fn c₀ cs (fun en u' w'=>∃m' φ' μ',Mem.le m m'∧Ext st st' φ φ'∧Sit E m' φ' μ' st' w'∧jtO m' φ' o en u') ex a' ({ c₀ with mode:=u1 }::cs) w':=fun q u1 hA hq ex a' w' ⟨m',φ',μ',p1,p2,p3,p4,p5,p6,p7⟩=>by
  obtain⟨x,s⟩:=q;cases x with
  |normal=>
   obtain rfl:=p7;simp only[dend,AD,BB] at hq;obtain⟨rfl,rfl⟩:=hq;exact⟨p6,u1,rfl,_,qA a' w',m',φ',μ',p1,p2,p3,⟨_,rfl⟩,hA.1⟩
  |ret=>
   obtain rfl:=p7;simp only[dend,AD,BB] at hq;obtain⟨rfl,rfl⟩:=hq;exact⟨p6,u1,rfl,_,qA a' w',m',φ',μ',p1,p2,p3,⟨_,rfl⟩,hA.1⟩
  |pan y=>
   obtain⟨uy,⟨ch,rfl,kE⟩,q8⟩:=p7;simp only[dend,AD,BB] at hq;obtain⟨rfl,rfl⟩:=hq;exact⟨p6,u1,rfl,m',φ',μ',p1,p2,p3,ch,uy,rfl,hA.2 ch uy kE,q8⟩
  |exit i=>simp[dend] at hq
 have first:∀{x1:AX}{s1:AS},aops C e ops r ⟨aput (some d) (jlP v) (argE 0 args),st⟩=some (x1,s1)→∀{Q:Exit→Act→List Frame→World→Prop},(∀u1 ex a' w',jcX u1→Post [] E fn.ntmps m φ st x1 s1 ex a' w'→Q ex a' ({ c₀ with mode:=u1 }::cs) w')→(Code.region id ops false).wpSIn (FF none) kk C.P Q act0 (c₀::cs) w:=fun{x1 s1} qB {Q} hQ=>by
  refine jme (Q0:=fun cs' ex a' w'=>∃u1,cs'={ c₀ with mode:=u1 }::cs∧jcX u1∧Post [] E fn.ntmps m φ st x1 s1 ex a' w') gB gD (fun x cs' qE=>?_) (fun cs' ex a' w' ⟨u1,h1,h2,h3⟩=>h1▸hQ u1 ex a' w' h2 h3)
  obtain⟨u1,h1,h2,h3⟩:=jph hc₀ hu qE;have hl:=j7S (D:=[]) (k:=kk) (ro:=none) (E:=E) he.call he.yield qB wE (Mem.le.refl m) (Ext.refl st φ) hs ((wC).put wD hd h3) (by rw[j8W];exact wD) (by rw[put_defers];exact wF)
  simp_all
 cases h1:aops C e ops r ⟨aput (some d) (jlP v) (argE 0 args),st⟩ with
 |none=>simp[h1] at hx
 |some q=>
  obtain⟨x1,s1⟩:=q;rw[h1] at hx;have nn:x1≠.normal→dend (x1,s1)=some (o,st'):=fun kG=>by
   grind
  rcases gA with rfl|⟨rfl,rfl⟩
  ·refine wpSIn_seq (first h1 fun u1 ex a' w' hA hp=>?_)
   by_cases hx1:x1=.normal
   ·subst hx1;have hG:=hp;obtain⟨m',φ',μ',p1,p2,p3,p4,p5,p6,p7⟩:=hp;obtain rfl:=p7;simp only at hx;cases h2:exec C e rest s1 with
    |none=>simp[h2] at hx
    |some q2=>
     rw[h2] at hx;have hw:=jnX (D:=[]) (kk:=kk) gC he h2 hD.2 wB p1 p2 p3 p4 p5 p6;exact wpSIn_of_wpIn rfl (wpIn_mono hw fun ex a2 w2 kF=>fin q2 u1 hA hx ex a2 w2 kF)
   ·have:=fin (x1,s1) u1 hA (nn hx1) ex a' w' hp;obtain⟨m',φ',μ',p1,p2,p3,p4,p5,p6,p7⟩:=hp;cases x1 with
    |normal=>exact absurd rfl hx1
    |exit i=>obtain rfl:=p7;exact this
    |ret=>obtain rfl:=p7;exact this
    |pan y=>obtain⟨uy,⟨ch,rfl,kE⟩,q8⟩:=p7;exact this
  ·refine first h1 fun u1 ex a' w' hA hp=>?_
   by_cases hx1:x1=.normal
   ·subst hx1;simp only[exec] at hx;exact fin (.normal,s1) u1 hA hx ex a' w' hp
   ·exact fin (x1,s1) u1 hA (nn hx1) ex a' w' hp
def jnx{g:Operand}(h:cutR c=some (ops,o,g)):∃id ty pos after ts t2,c=.region id ops false∧ops.toList=[o,⟨none,.defer ⟨.value g,#[],ts⟩,ty,pos,after,t2⟩]∧t2=none:=by
 unfold cutR at h;split at h
 ·split at h
  ·rename_i o' d qA;split at h
   ·rename_i g' hA hg hd;cases h;obtain⟨dst,op,ty,pos,after,gd⟩:=d;simp only at hA hg hd;subst hg hd;unfold ju5 at hA;split at hA
    ·rename_i g2 xs ts;split at hA
     ·simp_all
     ·cases hA
    ·cases hA
   ·cases h
  ·cases h
 ·cases h
def DefR(m:Mem)(φ:Ph)(cl:PV)(d:Deferred):Prop:=match cl with
 | .fn D p q=>∃us ws,d={ target:=.fn (.func D) (List.toArray ws),args:=List.toArray us }∧Rl m φ p us∧Rl m φ q ws
 |_=>False
def jsy(E:Entry)(n:Nat)(m:Mem)(φ:Ph)(st:Sto)(x:AX)(s':AS)(cl:Option PV)(ex:Exit)(a':Act)(w':World):Prop:=match cl with
 |none=>jcF [] E n m φ st x s' ex a' w'
 |some c=>∃d,(∃m1 φ1,DefR m1 φ1 c d∧∃m' φ' μ',Mem.le m1 m'∧Le φ1 φ'∧Mem.le m m'∧Ext st s'.st φ φ'∧Sit E m' φ' μ' s'.st w'∧EnvR m' φ' s'.env a'∧a'.tmps.size=n∧Marks [d] E a'.defers w'∧XR m' φ' x ex)
def jqn(qA:C.P.follows .mixedOrders=true)(he:EvOk C e):∀{c:Code}{s s':AS}{x:AX}{cl:Option PV}{m0:Mem}{φ0:Ph}{st0:Sto}{m:Mem}{φ:Ph}{μ:Own}{a:Act}{w:World},j5J C e c s=some (x,s',cl)→jcd n c=true→(∀id,st0.length≤id→φ0 id=none)→Mem.le m0 m→Ext st0 s.st φ0 φ→Sit E m φ μ s.st w→EnvR m φ s.env a→a.tmps.size=n→a.defers=[] →
  c.wpIn (FF none) kk C.P (jsy E n m0 φ0 st0 x s' cl) a w:=by
 intro c;have plain:∀{c:Code},jcd n c=slots n c→(∀s,j5J C e c s=match exec C e c s with
  |some (x,s1)=>some (x,s1,none)
  |none=>none)→∀{s s':AS}{x:AX}{cl:Option PV}{m0:Mem}{φ0:Ph}{st0:Sto}{m:Mem}{φ:Ph}{μ:Own}{a:Act}{w:World},j5J C e c s=some (x,s',cl)→jcd n c=true→(∀id,st0.length≤id→φ0 id=none)→Mem.le m0 m→Ext st0 s.st φ0 φ→Sit E m φ μ s.st w→EnvR m φ s.env a→a.tmps.size=n→a.defers=[]→c.wpIn (FF none) kk C.P (jsy E n m0 φ0 st0 x s' cl) a w:=fun{c} hA hex {s s' x cl m0 φ0 st0 m φ μ a w} hx hd qB hm gA hs h hn hD=>by
  rw[hex] at hx;cases h1:exec C e c s with
  |none=>simp[h1] at hx
  |some q=>
   obtain⟨x1,s1⟩:=q;rw[h1] at hx;cases hx;exact j9C (B:=[]) (ro:=none) qA he h1 (hA▸hd) (fun e'=>by cases e') qB hm gA hs h hn (by rw[hD];exact Marks.nil)
 induction c with
 |seq c1 c2 ih1 ih2=>
  intro s s' x cl m0 φ0 st0 m φ μ a w hx hA qB hm gA hs h hn gB;simp only[j5J] at hx;simp only[jcd] at hA;split at hx
  ·rename_i ops o g hc;rw[hc] at hA;simp only[AB] at hA;split at hx
   ·rename_i s1 h1;split at hx
    ·rename_i D p q hg;split at hx
     ·rename_i x2 s2 h2;cases hx;obtain⟨id,ty,pos,after,ts,t2,rfl,hB,rfl⟩:=jnx hc;refine wpIn_seq (wpIn_region_list ?_);rw[hB];refine j7i (l:=[o]) (j6f (fun ex a1 w1 hp=>?_) (j7S (D:=[]) (k:=kk) (ro:=none) (E:=E) he.call he.yield h1 (by grind) hm gA hs h hn gB))
      obtain⟨m1,φ1,μ1,q1,q2,q3,q4,q5,q6,q7⟩:=hp;obtain rfl:=q7;show wpListIn _ _ _ _ _ _ _ _
      have rg:=j0j q4 hg;generalize qC:a1.eval g=eg at rg;cases rg with
      | @fn _ _ _ _ us ws hl wB hi hC=>
       refine wpListIn_plain rfl fun K hK=>?_
       refine⟨fun _ _=>trivial,?_⟩
       have wA:((⟨none,.defer ⟨.value g,#[],ts⟩,ty,pos,after,none⟩:Oper).semAt (FF none).round a1.eval).run C.P w1=.ok (.defer { target:=.fn (.func D) ws.toArray,args:=us.toArray }) w1:=by
        show(execOp a1.eval ⟨none,.defer ⟨.value g,#[],ts⟩,ty,pos,after,none⟩).run C.P w1=_
        simp[execOp,resolve,Deferred.ofValue,qC]
       rw[wA];refine hK _ _ ?_;show(Exit.then _ _) _ _ _
       refine wpIn_mono (j9C (B:=[{ target:=.fn (.func D) ws.toArray,args:=us.toArray }]) (ro:=none) (kk:=kk) (a:={ a1 with defers:={ target:=.fn (.func D) ws.toArray,args:=us.toArray }::a1.defers }) (m0:=m1) (φ0:=φ1) (st0:=s1.st) qA he h2 hA.2 (fun e'=>by cases e') q3.dom (Mem.le.refl m1) (Ext.refl s1.st φ1) q3 (fun t y ht=>q4 t y ht) q5 (by
        show Marks _ _ (_::a1.defers) _
        rw[q6];exact Marks.nil)) fun ex a2 w2 ⟨m2,φ2,μ2,p1,p2,p3,p4,p5,p6,p7⟩=>?_
       exact⟨_,m1,φ1,⟨us,ws,rfl,⟨hl,hi⟩,⟨wB,hC⟩⟩,m2,φ2,μ2,p1,p2.le,q1.trans p1,q2.trans p2,p3,p4,p5,p6,p7⟩
     ·cases hx
    ·cases hx
   ·cases hx
  ·rename_i hc;rw[hc] at hA;simp only[AB] at hA;cases h1:exec C e c1 s with
   |none=>simp[h1] at hx
   |some r=>
    obtain⟨x1,s1⟩:=r;rw[h1] at hx;refine wpIn_seq (Code.wpIn_mono (fun ex a' w' hp=>?_) (jnX (D:=[]) qA he h1 hA.1 hA.2.1 hm gA hs h hn gB))
    obtain⟨m',φ',μ',q1,q2,q3,q4,q5,q6,q7⟩:=hp;have hM:Marks [] E a'.defers w':=by rw[q6];exact Marks.nil
    cases x1 with
    |normal=>
     obtain rfl:=q7;exact ih2 hx hA.2.2 qB q1 q2 q3 q4 q5 q6
    |exit i=>
     obtain rfl:=q7;cases hx;exact⟨m',φ',μ',q1,q2,q3,q4,q5,hM,rfl⟩
    |ret=>
     obtain rfl:=q7;cases hx;exact⟨m',φ',μ',q1,q2,q3,q4,q5,hM,rfl⟩
    |pan y=>
     obtain⟨v,⟨ch,rfl,gC⟩,q8⟩:=q7;cases hx;exact⟨m',φ',μ',q1,q2,q3,q4,q5,hM,v,⟨ch,rfl,gC⟩,q8⟩
 |_=>exact plain rfl fun s=>rfl
end
