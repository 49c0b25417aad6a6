/- Code of the plain machine, in a round or not: the model does the same. Plain lemmas, no statement of the seat. -/
import Derived.Test.YtbnodhcijeaceaaGreatDoorZAd
import Derived.RecoverIn
set_option linter.all false
namespace Go.Am
open Go Go.Hb
open Go.Gw (tk tf tz tsl tar tpl isAggD)
section
variable{P:Program}{E:Entry}{m:Mem}{φ:Ph}{μ:Own}{st:Sto}{ρ:AEnv}{a:Act}{w:World}{C:Cfg}{e:Ev}{n:Nat}
theorem SR.kind:∀{k:Nat}{st:Sto}{μ:Own}{r:Res}{b:Nat},SR m φ k st μ→r∈μ→r.holds w→r.foot=some b→(∃c T fr,w.heap[b]?=some (.cells c T fr))∨(∃l,w.heap[b]?=some (.loop l))∨(∃en c,w.heap[b]?=some (.map en c))∨∃c q s r,w.heap[b]?=some (.chan c q false s r false)
 |_,[],μ,r,b,h,hr,_,_=>by have h:μ=[]:=h;subst h;simp at hr
 |k,o::st,μ,r,b,h,hr,hh,hf=>by
  obtain⟨rs,μ',rfl,h2,h3⟩:=h;rcases List.mem_append.1 hr with hr|hr
  ·cases o with
   |dead=>have h2:rs=[]:=h2;subst h2;simp at hr
   |box T cs=>
    obtain⟨b',vs,_,rfl,_⟩:=h2;simp only[List.mem_singleton] at hr;subst hr;simp only[bx,Res.foot,Option.some.injEq] at hf;subst hf;exact .inl ⟨_,_,_,hh⟩
   |frz cs=>obtain⟨rfl,_⟩:=h2;simp at hr
   |lp ρ ps a b' s=>
    obtain⟨l,rc,_,rfl,_⟩:=h2;simp only[List.mem_singleton] at hr;subst hr;simp only[Res.foot,Option.some.injEq] at hf;subst hf;exact .inr (.inl ⟨_,hh⟩)
   |mp ks vs=>
    obtain⟨l,en,clock,_,rfl,_⟩:=h2;simp only[List.mem_singleton] at hr;subst hr;simp only[Res.foot,Option.some.injEq] at hf;subst hf;exact .inr (.inr (.inl ⟨_,_,hh⟩))
   |ch cap q=>
    obtain⟨l,us,s,r,_,rfl,_⟩:=h2;simp only[List.mem_singleton] at hr;subst hr;simp only[Res.foot,Option.some.injEq] at hf;subst hf;exact .inr (.inr (.inr ⟨_,_,_,_,hh⟩))
   |row p e sz xs=>
    obtain⟨a',cap,vss,_,rfl,_⟩:=h2;simp only[List.mem_singleton] at hr;subst hr;obtain⟨_,h4⟩:=hh;rcases h4 with⟨h4,_⟩|⟨g,cap',cur,fz,h4,h5,_⟩
    ·rw[h4] at hf;simp[Res.foot,Value.ownBlock] at hf
    ·rw[h4] at hf;simp only[Res.foot,Value.ownBlock,Option.some.injEq] at hf;subst hf;exact .inl ⟨_,_,_,h5⟩
  ·exact SR.kind h3 hr hh hf
theorem Sit.notMark(hs:Sit E m φ μ st w){b:Nat}{x:Option (List Deferred)}(hb:w.heap[b]?=some (.deferred x)):∀r∈μ,r.foot≠some b:=fun r hr hf=>by
 rcases hs.sto.kind hr (hs.good.holds r hr) hf with⟨c,T,fr,h⟩|⟨l,h⟩|⟨en,c,h⟩|⟨c,q,s,r',h⟩
 ·rw[hb] at h;cases h
 ·rw[hb] at h;cases h
 ·rw[hb] at h;cases h
 ·rw[hb] at h;cases h
structure MarksL (E:Entry) (D:List Deferred) (w:World):Prop where
 at_:∀d∈D,∃b,d={ target:=.collected b,args:=#[] }∧w.heap[b]?=some (.deferred (some []))∧E.w.heap.size≤b
 apart:D.Pairwise (fun d d'=>d≠d')
def Marks(B:List Deferred)(E:Entry)(D:List Deferred)(w:World):Prop:=∃D1,D=D1++B∧MarksL E D1 w
variable{s':AS}{x:AX}{as bd:Code}{B D:List Deferred}{m' m0:Mem}{kk:Nat}{ro:Option Nat}{μ':Own}{φ0:Ph}{st0:Sto}{w':World}
theorem Marks.nil:Marks B E B w:=⟨[],rfl,fun _ h=>by simp at h,.nil⟩
theorem Marks.of(hM:Marks B E D w)(h:∀b:Nat,w.heap[b]?=some (Obj.deferred (some []))→w'.heap[b]?=w.heap[b]?):Marks B E D w':=by
 obtain⟨D1,rfl,hM⟩:=hM;refine⟨D1,rfl,fun d hd=>?_,hM.apart⟩
 obtain⟨b,h1,h2,h3⟩:=hM.at_ d hd;exact⟨b,h1,(h b h2).trans h2,h3⟩
theorem Marks.keep(hM:Marks B E D w)(hs:Sit E m φ μ st w)(k:Hb.Good ⟨w,m,feetOf μ⟩ w' m' μ'):Marks B E D w':=
 hM.of fun b h2=>k.keep b (j1Q h2) (fun⟨r,hr,hf⟩=>hs.notMark h2 r hr hf)
theorem Marks.cons(hM:Marks B E D w)(h:∀b:Nat,w.heap[b]?=some (Obj.deferred (some []))→w'.heap[b]?=w.heap[b]?)(hb:w'.heap[w.heap.size]?=some (.deferred (some [])))(hE:E.w.heap.size≤w.heap.size):
  Marks B E ({ target:=.collected w.heap.size,args:=#[] }::D) w':=by
 obtain⟨D1,rfl,hM⟩:=hM;refine⟨{ target:=.collected w.heap.size,args:=#[] }::D1,rfl,fun d hd=>?_,List.pairwise_cons.2 ⟨fun d hd e'=>?_,hM.apart⟩⟩
 ·rcases List.mem_cons.1 hd with rfl|hd
  ·exact⟨_,rfl,hb,hE⟩
  ·obtain⟨b,h1,h2,h3⟩:=hM.at_ d hd;exact⟨b,h1,(h b h2).trans h2,h3⟩
 ·obtain⟨b,q1,q2,_⟩:=hM.at_ d hd;rw[q1] at e';simp only[Deferred.mk.injEq,Target.collected.injEq,and_true] at e';have:=j1Q q2;omega
def jcb(B:List Deferred)(E:Entry)(n:Nat)(m:Mem)(φ:Ph)(st:Sto)(x:AX)(s':AS)(ex:Exit)(a':Act)(w':World):Prop:=
 ∃m' φ' μ',Mem.le m m'∧Ext st s'.st φ φ'∧Sit E m' φ' μ' s'.st w'∧EnvR m' φ' s'.env a'∧a'.tmps.size=n∧Marks B E a'.defers w'∧XR m' φ' x ex
theorem Sit.start(hs:Sit E m φ μ st w):Sit ⟨w,m,feetOf μ⟩ m φ μ st w:=⟨Hb.Good.start (ν:=[]) (by simpa using hs.good),hs.sto,hs.dom⟩
theorem Sit.back{φ':Ph}{st':Sto}(hs:Sit E m φ μ st w)(k:Sit ⟨w,m,feetOf μ⟩ m' φ' μ' st' w'):Sit E m' φ' μ' st' w':=
 ⟨by simpa using Hb.Good.back (ν:=[]) (by simpa using hs.good) k.good,k.sto,k.dom⟩
theorem Post.toM{ex:Exit}{a':Act}(hs:Sit E m φ μ st w)(hM:Marks B E D w)(h:Post D ⟨w,m,feetOf μ⟩ n m0 φ0 st0 x s' ex a' w'):jcb B E n m0 φ0 st0 x s' ex a' w':=by
 obtain⟨m',φ',μ',q1,q2,q3,q4,q5,q6,q7⟩:=h;exact⟨m',φ',μ',q1,q2,hs.back q3,q4,q5,by rw[q6];exact hM.keep hs q3.good,q7⟩
def LoopIn(ro:Option Nat)(P:Program)(c:Code)(Q:Exit→Act→World→Prop)(a:Act)(w:World):Prop:=
 ∀(b:Frame) (k:List Item) (cs:List Frame),b.roundOf=ro→∃e a' w',Q e a' w'∧ArrivesIn (Machine.fenced P (FF ro)) P (lone (b.atR a (.code c::.inLoop c::k)) cs w) b k cs e a' w'
def jr7(P:Program)(loop:List Nat→Nat→Code→AS→Option (AX×AS)):Prop:=
 ∀ks k0 c s x s',loop ks k0 c s=some (x,s')→∀(ro:Option Nat) (B:List Deferred) (E:Entry) n m0 φ0 st0 m φ μ a w,slots n c=true→(ro.isSome=true→j0Y c=true)→st0.length≤k0→k0≤s.st.length→(∀id,k0≤id→φ0 id=none)→Mem.le m0 m→Ext st0 s.st φ0 φ→Sit E m φ μ s.st w→EnvR m φ s.env a→a.tmps.size=n→Marks B E a.defers w →
  LoopIn ro P c (jcb B E n m0 φ0 st0 x s') a w
structure EvOk (C:Cfg) (e:Ev):Prop where
 call:CallOk C.P e.call
 loop:jr7 C.P e.loop
 yield:j3H (YieldD C.P) e.yield
theorem Sit.free{i l:Nat}{r r':Loop}{ρ':List (Nat×PV)}{ps:List Nat}{s:LpS}(hs:Sit E m φ μ st w)(hi:st[i]?=some (.lp ρ' ps as bd s))(hφ:φ i=some (.blk l))(hl:w.heap[l]?=some (.loop r)):
  ∃μ',Sit E m φ μ' (st.set i .dead) (w.putObj l (.loop r')):=by
 obtain⟨μ1,rs,μ2,e1,e2,e3⟩:=hs.sto.get hi;rw[Nat.zero_add] at e2 e3;obtain⟨l',rc,h1,rfl,_⟩:=e2;rw[hφ] at h1;cases h1;have hg:Hb.Good E w m (.blk l (.loop rc)::(μ1++μ2)):=hs.good.perm (by rw[e1];simp)
 have hlt:l<w.heap.size:=j1Q hl;have ht:Hb.Good E (w.putObj l (.loop r')) m (.blk l (.loop r')::(μ1++μ2)):=hg.turn rfl rfl rfl (by simp) (fun b hb hf=>World.putObj_heap_other (fun e=>hf (by simp[Res.foot,e]))) (fun b o v hf hm=>by
   simp only[Res.foot,Option.some.injEq] at hf;subst hf;obtain⟨c,T,fr,h1,_⟩:=hg.sub _ o v hm;rw[hl] at h1;cases h1) (World.putObj_heap_same hlt) (fun b hb=>.inl ⟨hb,Nat.le_refl _⟩)
 exact⟨μ1++μ2,ht.drop (List.sublist_cons_self _ _),by simpa using e3 (o':=.dead) (rs':=[]) (Mem.le.refl m) (Le.refl φ) (fun _ _=>rfl) rfl,fun id hid=>hs.dom id (by simpa using hid)⟩
theorem jqw(he:EvOk C e){f:Operand}{ps:Array Tmp}{s:AS}(hro:ro=none)(hx:j3P C e f ps as bd s=some (x,s'))(hsl:slots n (.rangeFunc f ps as bd)=true)
  (hd0:∀id,st0.length≤id→φ0 id=none) (hm:Mem.le m0 m) (hxt:Ext st0 s.st φ0 φ) (hs:Sit E m φ μ s.st w) (h:EnvR m φ s.env a) (hn:a.tmps.size=n) (hM:Marks B E a.defers w):(Code.rangeFunc f ps as bd).wpIn (FF ro) kk C.P (jcb B E n m0 φ0 st0 x s') a w:=by
 subst hro;unfold j3P at hx;split at hx;rotate_left
 ·cases hx
 rename_i g xs ys hg;split at hx;rotate_left
 ·cases hx
 rename_i hc;simp only[Bool.and_eq_true] at hc;obtain⟨⟨hcall,hna⟩,hnb⟩:=hc;simp only[slots,Bool.and_eq_true] at hsl;obtain⟨⟨hps,hsa⟩,hsb⟩:=hsl;have rg:=j0h h hg;generalize heg:a.eval f=eg at rg;cases rg with
 | @fn _ _ _ _ us ws hl hl' hi hi'=>
  cases hac:j2s C e g (xs++[.yl s.st.length]++ys) (s.st++[.lp s.env ps.toList as bd .ready]) with
  |none=>rw[hac] at hx;cases hx
  |some res=>
   obtain⟨r,st2⟩:=res;rw[hac] at hx;cases r with
   |pan v=>cases hx
   |ret rs=>
    simp only at hx;refine wpIn_rangeFunc (fun fn _=>?_)
    obtain⟨rec,hrec⟩:∃rec:Loop,rec={ state:=.ready,pending:=none,fn,tmps:=a.tmps,params:=ps,assign:=as,body:=bd,defers:=w.heap.size }:=⟨_,rfl⟩;obtain⟨w1,hw1⟩:∃w1,w1=(w.alloc (.deferred (some []))).alloc (.loop rec):=⟨_,rfl⟩;have hw1h:w1={ { w with heap:=w.heap.push (.deferred (some [])) } with heap:=(w.heap.push (.deferred (some []))).push (.loop rec) }:=by rw[hw1];rfl
    have hsz1:w1.heap.size=w.heap.size+2:=by rw[hw1h];simp
    have hl1:w1.heap[w.heap.size+1]?=some (.loop rec):=by
     rw[hw1h];simp only[Array.getElem?_push,Array.size_push,if_true]
    have hD1:w1.heap[w.heap.size]?=some (.deferred (some [])):=by
     rw[hw1h];simp only[Array.getElem?_push,Array.size_push];rw[if_neg (by omega)]
     simp
    have hold:∀b,b<w.heap.size→w1.heap[b]?=w.heap[b]?:=fun b hb=>by
     rw[hw1h];simp only[Array.getElem?_push,Array.size_push];rw[if_neg (by omega),if_neg (by omega)]
    have hg1:=(hs.good.new (.deferred (some []))).new (.loop rec);simp only[Array.size_push] at hg1;have hg2:Hb.Good E w1 m (μ++[.blk (w.heap.size+1) (.loop rec)]):=by
     rw[hw1h];refine(hg1.drop (μ':=.blk (w.heap.size+1) (.loop rec)::μ) ?_).perm (by simpa using(List.perm_append_comm (l₁:=[Res.blk (w.heap.size+1) (Obj.loop rec)]) (l₂:=μ)))
     exact .cons_cons _ (List.sublist_cons_self _ _)
    obtain⟨φ1,hφ1⟩:∃φ1:Ph,φ1=fun id=>if id=s.st.length then some (.blk (w.heap.size+1)) else φ id:=⟨_,rfl⟩
    have hφa:φ1 s.st.length=some (.blk (w.heap.size+1)):=by rw[hφ1];simp
    have hφb:∀{id},id≠s.st.length→φ1 id=φ id:=fun{id} hne=>by rw[hφ1];simp[hne]
    have hle1:Le φ φ1:=fun id=>by
     by_cases hid:id=s.st.length
     ·rw[hs.dom id (by omega)]
      exact⟨fun b hb=>(by cases hb),fun sv n sz hb=>(by cases hb)⟩
     ·rw[hφb hid];exact Le.refl φ id
    have hs1:Sit E m φ1 (μ++[.blk (w.heap.size+1) (.loop rec)]) (s.st++[.lp s.env ps.toList as bd .ready]) w1:=by
     refine⟨hg2,SR.snoc (hs.sto.mono (Mem.le.refl m) hle1 (fun id _ hid=>hφb (by omega))) ?_,fun id hid=>?_⟩
     ·rw[Nat.zero_add];refine⟨w.heap.size+1,rec,hφa,rfl,by rw[hrec];exact⟨rfl,rfl⟩,by rw[hrec],by rw[hrec],by rw[hrec],by rw[hrec];rw[hn];exact hsa,by rw[hrec];rw[hn];exact hsb,by rw[hrec];rw[hn];exact hps,fun t y ht=>?_⟩
      obtain⟨v,q1,q2⟩:=h t y ht;exact⟨v,by rw[hrec];exact q1,q2.mono (Mem.le.refl m) hle1⟩
     ·simp only[List.length_append,List.length_cons,List.length_nil] at hid;rw[hφb (by omega)]
      exact hs.dom id (by omega)
    have hM1:Marks B E a.defers w1:=hM.of fun b hb=>hold b (j1Q hb)
    have hM2:Marks B E ({ target:=.collected w.heap.size,args:=#[] }::a.defers) w1:=hM.cons (fun b hb=>hold b (j1Q hb)) hD1 hs.good.size
    have hargs:Rl m φ1 (xs++[.yl s.st.length]++ys) (us++[.func (.yield (w.heap.size+1)) #[] #[]]++ws):=
     ((Rl.mono (Mem.le.refl m) hle1 ⟨hl,hi⟩).append (.cons (.yl hφa) .nil)).append (Rl.mono (Mem.le.refl m) hle1 ⟨hl',hi'⟩)
    have hok:=jfj (E:=⟨w1,m,feetOf (μ++[.blk (w.heap.size+1) (.loop rec)])⟩) he.call hs1.start hargs hac;refine⟨w.heap.size+1,[{ target:=.collected w.heap.size,args:=#[] }],w1,{ target:=.fn (.func g) ws.toArray,args:=us.toArray ++ #[.func (.yield (w.heap.size+1)) #[] #[]] },w1,g,
     (us++[Value.func (.yield (w.heap.size+1)) #[] #[]]++ws).toArray,w1,?_,?_,fun _ _=>trivial,?_,fun e'=>(by cases e'),?_⟩
    ·rw[hw1,hrec];exact run_enterLoop_outer _ _ _ _ _
    ·have hcst:a.eval (.const (.func (.yield (w.heap.size+1)) #[] #[]))=.func (.yield (w.heap.size+1)) #[] #[]:=rfl;simp[resolve,heg,Deferred.ofValue,hcst]
    ·unfold Gw.callable at hcall;split at hcall
     ·rename_i fn' hfn;rw[Bool.and_eq_true] at hcall;cases hb:fn'.body with
      |none=>simp[hb] at hcall
      |some body=>
       have hne:¬fn'.name = "runtime.NumGoroutine" :=by simpa using hcall.2
       simp[invoke,callFunc,hfn,hne,hb]
     ·cases hcall
    ·refine jiQ (Calls.mono hok fun en w2 hq=>?_)
     obtain⟨m2,φ2,μ2,q1,q2,q3,us',rfl,q5⟩:=hq;have q3':=hs1.back q3;have hM3:=hM2.keep hs1 q3.good;have hφ2:φ2 s.st.length=some (.blk (w.heap.size+1)):=(q2.le _).1 _ hφa
     -- the loop's record
     have key:∀(ls:LpS) (j:Option Code) ρ' ps' as' bd',st2[s.st.length]?=some (.lp ρ' ps' as' bd' ls)→(∀r:Loop,ls.is r→r.state≠.busy∧r.pending=j) →
       (∀w4 μ4,Sit E m2 φ2 μ4 (st2.set s.st.length .dead) w4→Marks B E ({ target:=.collected w.heap.size,args:=#[] }::a.defers) w4→match j with
        |none=>jcb B E n m0 φ0 st0 x s' .normal { a with defers:={ target:=.collected w.heap.size,args:=#[] }::a.defers } w4
        |some c=>c.wpIn (FF none) kk C.P (jcb B E n m0 φ0 st0 x s') { a with defers:={ target:=.collected w.heap.size,args:=#[] }::a.defers } w4) →
       rangePost (FF none) kk C.P (w.heap.size+1) (jcb B E n m0 φ0 st0 x s') { a with defers:=[{ target:=.collected w.heap.size,args:=#[] }]++a.defers } (.returned (Gw.tup us')) w2:=fun ls j ρ' ps' as' bd' hst hls hgo=>by
      obtain⟨μ1,rs1,μ3,e1,e2,_⟩:=q3'.sto.get hst;rw[Nat.zero_add] at e2;obtain⟨l',rc,h1,h2,h3,_⟩:=e2;rw[hφ2] at h1;cases h1;have hrc:w2.heap[w.heap.size+1]?=some (.loop rc):=q3'.good.holds (.blk (w.heap.size+1) (.loop rc)) (by rw[e1,h2];simp)
      obtain⟨h4,h5⟩:=hls rc h3;obtain⟨μ4,hs4⟩:=q3'.free (r':={ rc with state:=.exhausted }) hst hφ2 hrc
      have hrun:(Instr.endLoop (w.heap.size+1)).run C.P w2=.ok j (w2.putObj (w.heap.size+1) (.loop { rc with state:=.exhausted })):=by
       rw[←h5];exact run_endLoop hrc h4
      refine⟨j,_,hrun,?_⟩;have hM4:Marks B E ({ target:=.collected w.heap.size,args:=#[] }::a.defers) (w2.putObj (w.heap.size+1) (.loop { rc with state:=.exhausted })):=hM3.of fun b hb=>World.putObj_heap_other (fun e'=>by
       subst e';rw[hrc] at hb;cases hb)
      have:=hgo _ μ4 hs4 hM4;cases j with
      |none=>exact this
      |some c=>exact this
     have fin:∀(x1:AX) (ex:Exit),(x1,(⟨s.env,st2.set s.st.length .dead⟩:AS))=(x,s')→XR m2 φ2 x1 ex→∀w4 μ4,Sit E m2 φ2 μ4 (st2.set s.st.length .dead) w4→Marks B E ({ target:=.collected w.heap.size,args:=#[] }::a.defers) w4 →
       jcb B E n m0 φ0 st0 x s' ex { a with defers:={ target:=.collected w.heap.size,args:=#[] }::a.defers } w4:=fun x1 ex hxe hxr w4 μ4 hs4 hM4=>by
      cases hxe;refine⟨m2,φ2,μ4,hm.trans q1,⟨hxt.le.trans (hle1.trans q2.le),?_,fun id hid=>?_⟩,hs4,fun t y ht=>?_,hn,hM4,hxr⟩
      ·have k1:=hxt.len;have k2:=q2.len;simp only[List.length_append,List.length_cons,List.length_nil,List.length_set] at k2⊢;omega
      ·obtain⟨d1,d2⟩:=hxt.dead id hid;have hlt:=(List.getElem?_eq_some_iff.1 d1).1;obtain⟨d3,d4⟩:=q2.dead id (by rw[List.getElem?_append_left hlt];exact d1)
       exact⟨by rw[List.getElem?_set_ne (by omega)];exact d3,by rw[d4,hφb (by omega),d2]⟩
      ·obtain⟨v,k1,k2⟩:=h t y ht;exact⟨v,k1,k2.mono q1 (hle1.trans q2.le)⟩
     split at hx
     ·rename_i ρ' ps' as' bd' ls hst;split at hx
      ·exact key .ready none ρ' ps' as' bd' hst (fun r hr=>⟨by rw[hr.1];simp,hr.2⟩) (fun w4 μ4 hs4 hM4=>fin .normal .normal (Option.some.inj hx) rfl w4 μ4 hs4 hM4)
      ·exact key (.done none) (some .ret) ρ' ps' as' bd' hst (fun r hr=>⟨by rw[hr.1];simp,hr.2⟩) (fun w4 μ4 hs4 hM4=>wpIn_ret (fin .ret .ret (Option.some.inj hx) rfl w4 μ4 hs4 hM4))
      ·rename_i i;exact key (.done (some i)) (some (.exit i)) ρ' ps' as' bd' hst (fun r hr=>⟨by rw[hr.1];simp,hr.2⟩) (fun w4 μ4 hs4 hM4=>wpIn_exit (fin (.exit i) (.exit i) (Option.some.inj hx) rfl w4 μ4 hs4 hM4))
      ·cases hx
     ·cases hx
theorem j9c(hmix:C.P.follows .mixedOrders=true)(he:EvOk C e):∀{c:Code}{s s':AS}{x:AX}{m0:Mem}{φ0:Ph}{st0:Sto}{m:Mem}{φ:Ph}{μ:Own}{a:Act}{w:World},exec C e c s=some (x,s')→slots n c=true→(ro.isSome=true→j0Y c=true)→(∀id,st0.length≤id→φ0 id=none)→Mem.le m0 m→Ext st0 s.st φ0 φ→Sit E m φ μ s.st w→EnvR m φ s.env a→a.tmps.size=n→Marks B E a.defers w →
  c.wpIn (FF ro) kk C.P (jcb B E n m0 φ0 st0 x s') a w:=by
 intro c
 induction c with
 |skip=>
  intro s s' x m0 φ0 st0 m φ μ a w hx _ _ _ hm hxt hs h hn hD;simp only[exec,Option.some.injEq,Prod.mk.injEq] at hx;obtain⟨rfl,rfl⟩:=hx;exact wpIn_skip ⟨m,φ,μ,hm,hxt,hs,h,hn,hD,rfl⟩
 |region id ops draw=>
  intro s s' x m0 φ0 st0 m φ μ a w hx hsl _ _ hm hxt hs h hn hD;simp only[exec] at hx;split at hx
  ·exact wpIn_mono (wpIn_region_list (j7r (E:=⟨w,m,feetOf μ⟩) he.call he.yield hx hsl hm hxt hs.start h hn rfl)) fun ex a' w' hp=>Post.toM hs hD hp
  ·exact wpIn_mono (jiE (E:=⟨w,m,feetOf μ⟩) hmix he.call hx hsl hm hxt hs.start h hn rfl) fun ex a' w' hp=>Post.toM hs hD hp
 |seq c1 c2 ih1 ih2=>
  intro s s' x m0 φ0 st0 m φ μ a w hx hsl hR hd0 hm hxt hs h hn hD;simp only[slots,Bool.and_eq_true] at hsl;have hR1:ro.isSome=true→j0Y c1=true:=fun e'=>by have:=hR e';simp only[j0Y,Bool.and_eq_true] at this;exact this.1
  have hR2:ro.isSome=true→j0Y c2=true:=fun e'=>by have:=hR e';simp only[j0Y,Bool.and_eq_true] at this;exact this.2
  simp only[exec] at hx;cases h1:exec C e c1 s with
  |none=>simp[h1] at hx
  |some r=>
   obtain⟨x1,s1⟩:=r;rw[h1] at hx;refine wpIn_seq (Code.wpIn_mono (fun ex a' w' hp=>?_) (ih1 h1 hsl.1 hR1 hd0 hm hxt hs h hn hD))
   obtain⟨m',φ',μ',q1,q2,q3,q4,q5,q6,q7⟩:=hp;cases x1 with
   |normal=>
    obtain rfl:=q7;exact ih2 hx hsl.2 hR2 hd0 q1 q2 q3 q4 q5 q6
   |exit i=>
    obtain rfl:=q7;cases hx;exact⟨m',φ',μ',q1,q2,q3,q4,q5,q6,rfl⟩
   |ret=>
    obtain rfl:=q7;cases hx;exact⟨m',φ',μ',q1,q2,q3,q4,q5,q6,rfl⟩
   |pan y=>
    obtain⟨v,⟨ch,rfl,hch⟩,q8⟩:=q7;cases hx;exact⟨m',φ',μ',q1,q2,q3,q4,q5,q6,v,⟨ch,rfl,hch⟩,q8⟩
 |cond c1 c2 c3 ih1 ih2=>
  intro s s' x m0 φ0 st0 m φ μ a w hx hsl hR hd0 hm hxt hs h hn hD;simp only[slots,Bool.and_eq_true] at hsl;have hR1:ro.isSome=true→j0Y c2=true:=fun e'=>by have:=hR e';simp only[j0Y,Bool.and_eq_true] at this;exact this.1
  have hR2:ro.isSome=true→j0Y c3=true:=fun e'=>by have:=hR e';simp only[j0Y,Bool.and_eq_true] at this;exact this.2
  simp only[exec] at hx;split at hx
  ·rename_i b hb;have hv:=(j0h h hb).sc_eq;refine wpIn_cond_split hv (fun e'=>?_) (fun e'=>?_)
   ·subst e';exact ih1 hx hsl.1 hR1 hd0 hm hxt hs h hn hD
   ·subst e';exact ih2 hx hsl.2 hR2 hd0 hm hxt hs h hn hD
  ·cases hx
 |block id c1 ih=>
  intro s s' x m0 φ0 st0 m φ μ a w hx hsl hR hd0 hm hxt hs h hn hD;simp only[slots] at hsl;simp only[j0Y] at hR;simp only[exec] at hx;cases h1:exec C e c1 s with
  |none=>simp[h1] at hx
  |some r=>
   obtain⟨x1,s1⟩:=r;rw[h1] at hx;refine wpIn_block (Code.wpIn_mono (fun ex a' w' hp=>?_) (ih h1 hsl hR hd0 hm hxt hs h hn hD))
   obtain⟨m',φ',μ',q1,q2,q3,q4,q5,q6,q7⟩:=hp;cases x1 with
   |normal=>
    obtain rfl:=q7;cases hx;exact⟨m',φ',μ',q1,q2,q3,q4,q5,q6,rfl⟩
   |exit i=>
    obtain rfl:=q7;simp only at hx;show if i=id then _ else _
    split at hx
    ·rename_i hb;cases hx;rw[if_pos (Nat.eq_of_beq_eq_true hb)];exact⟨m',φ',μ',q1,q2,q3,q4,q5,q6,rfl⟩
    ·rename_i hb;cases hx;rw[if_neg (fun e'=>by subst e';simp at hb)]
     exact⟨m',φ',μ',q1,q2,q3,q4,q5,q6,rfl⟩
   |ret=>
    obtain rfl:=q7;cases hx;exact⟨m',φ',μ',q1,q2,q3,q4,q5,q6,rfl⟩
   |pan y=>
    obtain⟨v,⟨ch,rfl,hch⟩,q8⟩:=q7;cases hx;exact⟨m',φ',μ',q1,q2,q3,q4,q5,q6,v,⟨ch,rfl,hch⟩,q8⟩
 |loop c1 ih=>
  intro s s' x m0 φ0 st0 m φ μ a w hx hsl hR hd0 hm hxt hs h hn hD;simp only[slots] at hsl;simp only[j0Y] at hR;simp only[exec] at hx
  intro b k cs hro hb hr;obtain⟨ex,a',w',hq,harr⟩:=he.loop _ _ c1 s x s' hx ro B E n m0 φ0 st0 m φ μ a w hsl hR hxt.len (Nat.le_refl _) (fun id hid=>hd0 id (Nat.le_trans hxt.len hid)) hm hxt hs h hn hD b k cs hro
  exact⟨ex,a',w',hq,.of_steps (.one (fenced_calm hb hr rfl) stepR_loop) harr⟩
 |exit i=>
  intro s s' x m0 φ0 st0 m φ μ a w hx _ _ _ hm hxt hs h hn hD;simp only[exec,Option.some.injEq,Prod.mk.injEq] at hx;obtain⟨rfl,rfl⟩:=hx;exact wpIn_exit ⟨m,φ,μ,hm,hxt,hs,h,hn,hD,rfl⟩
 |ret=>
  intro s s' x m0 φ0 st0 m φ μ a w hx _ _ _ hm hxt hs h hn hD;simp only[exec,Option.some.injEq,Prod.mk.injEq] at hx;obtain⟨rfl,rfl⟩:=hx;exact wpIn_ret ⟨m,φ,μ,hm,hxt,hs,h,hn,hD,rfl⟩
 |rangeFunc f ps as bd _ _=>
  intro s s' x m0 φ0 st0 m φ μ a w hx hsl hR hd0 hm hxt hs h hn hD;simp only[exec] at hx;refine jqw he ?_ hx hsl hd0 hm hxt hs h hn hD;cases ro with
  |none=>rfl
  |some l=>have:=hR rfl;simp[j0Y] at this
 |_=>
  intro s s' x m0 φ0 st0 m φ μ a w hx;simp[exec] at hx
end
open Go Go.Hb
open Go.Gw (tk tf tz tsl tar tpl isAggD looks deps statOk)
section
variable{P:Program}{E:Entry}{m:Mem}{φ:Ph}{μ:Own}{st:Sto}{ρ:AEnv}{a:Act}{w:World}{C:Cfg}{e:Ev}{n:Nat}
theorem jfx:∀{vs:List PV}{i t:Nat}{x:PV},aget (argE i vs) t=some x→i≤t∧vs[t-i]?=some x
 |[],i,t,x,h=>by simp[argE,aget] at h
 |u::r,i,t,x,h=>by
  simp only[argE,aget] at h;split at h
  ·simp_all
  ·obtain⟨h3,h4⟩:=jfx h
   grind
variable{ops:Array Oper}{c:Code}{u:FrameMode}{cs:List Frame}{r:List Oper}{d kk:Nat}{o:Oper}{v:Option PV}
theorem jdb{K K':Act→World→Prop}{Q Q':Exit→Act→World→Prop}(h:∀a w,K a w→K' a w)(hq:∀e a w,e≠.normal→Q e a w→Q' e a w)(hh:o.wpIn (FF none) kk P a w K Q):o.wpIn (FF none) kk P a w K' Q':=by
 have hl:LetsOut Q→LetsOut Q':=fun⟨a,w,h⟩=>⟨a,w,hq _ _ _ (by simp) h⟩
 unfold Oper.wpIn at *;refine⟨hh.1,?_⟩;have hh:=hh.2;generalize(o.semAt (FF none).round a.eval).run P w=r at *;cases r with
 |ok x w'=>
  cases x<;>simp only[Oper.uponIn] at hh⊢<;>
   first
    |exact h _ _ hh
    |exact⟨hh.1,CallsIn.mono hh.2 (fun e w'' he=>by grind)⟩
    |exact⟨hh.1,RowsIn.mono hh.2 (fun _ _ he=>h _ _ he)⟩
    |exact⟨hh.1,RoundIn.mono hh.2 (fun e w'' he=>by grind)⟩
 |halt x w'=>cases x<;>simp only[Oper.uponIn] at hh⊢<;>first|grind|exact hh
theorem j5I{kk:Nat}{ops:Array Oper}{Q Q':Exit→Act→World→Prop}(hq:∀e a w,Q e a w→Q' e a w):∀{l:List Oper}{a:Act}{w:World},wpListIn (FF none) kk P ops Q l a w→wpListIn (FF none) kk P ops Q' l a w
 |[],a,w,h=>hq _ _ _ h
 |o::r,a,w,h=>by
  unfold wpListIn at h⊢;split at h
  ·rename_i hw;rw[if_pos hw];exact jdb (fun a w hk=>j5I hq hk) (fun e a w _=>hq e a w) h
  ·rename_i hw;rw[if_neg hw];exact⟨h.1,j5I hq h.2⟩
theorem j6I{kk:Nat}{ops:Array Oper}{Q:Exit→Act→World→Prop}{l2:List Oper}:∀{l:List Oper}{a:Act}{w:World},wpListIn (FF none) kk P ops (Exit.then (wpListIn (FF none) kk P ops Q l2) Q) l a w→wpListIn (FF none) kk P ops Q (l++l2) a w
 |[],a,w,h=>h
 |o::r,a,w,h=>by
  rw[List.cons_append];unfold wpListIn at h⊢;split at h
  ·rename_i hw;rw[if_pos hw];exact jdb (fun a w hk=>j6I hk) (fun e a w hne hq=>by
    cases e with
    |normal=>exact absurd rfl hne
    |_=>exact hq) h
  ·rename_i hw;rw[if_neg hw];exact⟨h.1,j6I h.2⟩
theorem jlB{id:Nat}{Q:Exit→Act→List Frame→World→Prop}{Q0:List Frame→Exit→Act→World→Prop}(hops:ops.toList=o::r)(hrec:jia o=some d)
  (h:∀v cs',(recoverD cs=some (v,cs')∨(recoverD cs=none∧v=.nilIface∧cs'=cs))→wpListIn (FF none) kk P ops (Q0 cs') r (a.put (some d) v) w) (hQ:∀cs' e a w,Q0 cs' e a w→Q e a cs' w):(Code.region id ops false).wpSIn (FF none) kk P Q a cs w:=by
 have ho:ops[0]?=some o:=by
  have:ops.toList[0]?=some o:=by rw[hops];rfl
  simpa using this
 have hsz:ops.size=r.length+1:=by grind [Array.length_toList]
 obtain⟨dst,op,ty,pos,after,gd⟩:=o;unfold jia at hrec;split at hrec
 ·rename_i xs ts d' hop hg hd;simp only at hop hg hd;subst hop hg hd;split at hrec
  ·rename_i hxs;obtain rfl:d'=d:=Option.some.inj hrec;have hx0:xs = #[]:=by grind
   subst hx0;have hrun:(execOp a.eval ⟨some d',.call ⟨.builtin .recover,#[],ts⟩,ty,pos,after,none⟩).run P w=.ok .recover w:=by rfl
   intro b k hb hro hF hroom;have h0:(lone (b.atR a (.inRegion ops (List.range ops.size)::k)) cs w).fenced P (FF none):=by
    rw[hsz,List.range_eq_range',List.range'_succ];exact fenced_oper hF hroom ho (fun f hf=>trivial)
   have hw:Region.wanted ⟨some d',.call ⟨.builtin .recover,#[],ts⟩,ty,pos,after,none⟩ (yielded ops a.tmps)=true:=rfl;have hlist:List.range ops.size=0::List.range' 1 r.length:=by rw[hsz,List.range_eq_range',List.range'_succ]
   have hg:=stepGR_op (P:=P) (b:=b) (a:=a) (k:=k) (cs:=cs) (w:=w) (rest:=List.range' 1 r.length) ho hw;rw[hro,Oper.semAt_none] at hg;have hfin:∀v,(b.atR a (.inRegion ops (0::List.range' 1 r.length)::k)).finish v=b.atR (a.put (some d') v) (.inRegion ops (List.range' 1 r.length)::k):=by
    simp_all[Frame.finish_atR]
   have hk:(b.atR a (.inRegion ops (0::List.range' 1 r.length)::k)).kind=.deferred:=hb;have htr:=tryRecover_deferred hk cs;have hsub:∀j,r[j]?=ops[1+j]?:=fun j=>by
    have:ops.toList[1+j]?=r[j]?:=by grind
    rw[←this];simp
   have go:∀v cs',(recoverD cs=some (v,cs')∨(recoverD cs=none∧v=.nilIface∧cs'=cs))→cs'.length=cs.length→(stepG P true { frame:=b.atR a (.inRegion ops (0::List.range' 1 r.length)::k),callers:=cs,status:=.running,dying:=none } w).bare=.go { frame:=b.atR (a.put (some d') v) (.inRegion ops (List.range' 1 r.length)::k),callers:=cs',status:=.running,dying:=none } w →
     ∃e a' cs'' w',cs''.length=cs.length∧Q e a' cs'' w'∧ArrivesIn (Machine.fenced P (FF none)) P (lone (b.atR a (.code (.region id ops false)::k)) cs w) b k cs'' e a' w':=fun v cs' hv hlen hst=>by
    have h1:=h v cs' hv;have h2:wpOpsIn (FF none) kk P ops (Q0 cs') (List.range' 1 r.length) (a.put (some d') v) w:=by
     rw[wpOpsIn_eq_wpListIn r 1 hsub];exact h1
    obtain⟨e',a',w',hq,harr⟩:=wp_opsIn _ _ _ h2 b k cs' hro hF (hlen▸hroom);refine⟨e',a',cs',w',hlen,hQ _ _ _ _ hq,.of_steps (.head (fenced_calm hF hroom rfl) stepR_region (.one h0 ?_)) harr⟩;rw[hlist];exact step_lone_go hst
   cases hrc:recoverD cs with
   |some q=>
    obtain⟨v,cs'⟩:=q;refine go v cs' (.inl hrc) (recoverD_length hrc) ?_
    simp_all[Frame.atR,stepG.apply]
   |none=>
    simp_all[Frame.atR,stepG.apply]
  ·cases hrec
 ·cases hrec
theorem jne{D:List Deferred}(hmix:C.P.follows .mixedOrders=true)(he:EvOk C e):∀{c:Code}{s s':AS}{x:AX}{m0:Mem}{φ0:Ph}{st0:Sto}{m:Mem}{φ:Ph}{μ:Own}{a:Act}{w:World},exec C e c s=some (x,s')→slots n c=true→jb1 c=true→Mem.le m0 m→Ext st0 s.st φ0 φ→Sit E m φ μ s.st w→EnvR m φ s.env a→a.tmps.size=n→a.defers=D →
  c.wpIn (FF none) kk C.P (Post D E n m0 φ0 st0 x s') a w:=by
 intro c
 induction c with
 |skip=>
  intro s s' x m0 φ0 st0 m φ μ a w hx _ _ hm hxt hs h hn hD;simp only[exec,Option.some.injEq,Prod.mk.injEq] at hx;obtain⟨rfl,rfl⟩:=hx;exact wpIn_skip ⟨m,φ,μ,hm,hxt,hs,h,hn,hD,rfl⟩
 |region id ops draw=>
  intro s s' x m0 φ0 st0 m φ μ a w hx hsl _ hm hxt hs h hn hD;simp only[exec] at hx;split at hx
  ·exact wpIn_region_list (j7r he.call he.yield hx hsl hm hxt hs h hn hD)
  ·exact jiE hmix he.call hx hsl hm hxt hs h hn hD
 |seq c1 c2 ih1 ih2=>
  intro s s' x m0 φ0 st0 m φ μ a w hx hsl hf hm hxt hs h hn hD;simp only[slots,Bool.and_eq_true] at hsl;simp only[jb1,Bool.and_eq_true] at hf;simp only[exec] at hx;cases h1:exec C e c1 s with
  |none=>simp[h1] at hx
  |some r=>
   obtain⟨x1,s1⟩:=r;rw[h1] at hx;refine wpIn_seq (Code.wpIn_mono (fun ex a' w' hp=>?_) (ih1 h1 hsl.1 hf.1 hm hxt hs h hn hD))
   obtain⟨m',φ',μ',q1,q2,q3,q4,q5,q6,q7⟩:=hp;cases x1 with
   |normal=>
    obtain rfl:=q7;exact ih2 hx hsl.2 hf.2 q1 q2 q3 q4 q5 q6
   |exit i=>
    obtain rfl:=q7;cases hx;exact⟨m',φ',μ',q1,q2,q3,q4,q5,q6,rfl⟩
   |ret=>
    obtain rfl:=q7;cases hx;exact⟨m',φ',μ',q1,q2,q3,q4,q5,q6,rfl⟩
   |pan y=>
    obtain⟨v,⟨ch,rfl,hch⟩,q8⟩:=q7;cases hx;exact⟨m',φ',μ',q1,q2,q3,q4,q5,q6,v,⟨ch,rfl,hch⟩,q8⟩
 |cond c1 c2 c3 ih1 ih2=>
  intro s s' x m0 φ0 st0 m φ μ a w hx hsl hf hm hxt hs h hn hD;simp only[slots,Bool.and_eq_true] at hsl;simp only[jb1,Bool.and_eq_true] at hf;simp only[exec] at hx;split at hx
  ·rename_i b hb;have hv:=(j0h h hb).sc_eq;refine wpIn_cond_split hv (fun e'=>?_) (fun e'=>?_)
   ·grind
   grind
  ·cases hx
 |block id c1 ih=>
  intro s s' x m0 φ0 st0 m φ μ a w hx hsl hf hm hxt hs h hn hD;simp only[slots] at hsl;simp only[jb1] at hf;simp only[exec] at hx;cases h1:exec C e c1 s with
  |none=>simp[h1] at hx
  |some r=>
   obtain⟨x1,s1⟩:=r;rw[h1] at hx;refine wpIn_block (Code.wpIn_mono (fun ex a' w' hp=>?_) (ih h1 hsl hf hm hxt hs h hn hD))
   obtain⟨m',φ',μ',q1,q2,q3,q4,q5,q6,q7⟩:=hp;cases x1 with
   |normal=>
    obtain rfl:=q7;cases hx;exact⟨m',φ',μ',q1,q2,q3,q4,q5,q6,rfl⟩
   |exit i=>
    obtain rfl:=q7;simp only at hx;show if i=id then _ else _
    split at hx
    ·rename_i hb;cases hx;rw[if_pos (Nat.eq_of_beq_eq_true hb)];exact⟨m',φ',μ',q1,q2,q3,q4,q5,q6,rfl⟩
    ·rename_i hb;cases hx;rw[if_neg (fun e'=>by subst e';simp at hb)]
     exact⟨m',φ',μ',q1,q2,q3,q4,q5,q6,rfl⟩
   |ret=>
    obtain rfl:=q7;cases hx;exact⟨m',φ',μ',q1,q2,q3,q4,q5,q6,rfl⟩
   |pan y=>
    obtain⟨v,⟨ch,rfl,hch⟩,q8⟩:=q7;cases hx;exact⟨m',φ',μ',q1,q2,q3,q4,q5,q6,v,⟨ch,rfl,hch⟩,q8⟩
 |exit i=>
  intro s s' x m0 φ0 st0 m φ μ a w hx _ _ hm hxt hs h hn hD;simp only[exec,Option.some.injEq,Prod.mk.injEq] at hx;obtain⟨rfl,rfl⟩:=hx;exact wpIn_exit ⟨m,φ,μ,hm,hxt,hs,h,hn,hD,rfl⟩
 |ret=>
  intro s s' x m0 φ0 st0 m φ μ a w hx _ _ hm hxt hs h hn hD;simp only[exec,Option.some.injEq,Prod.mk.injEq] at hx;obtain⟨rfl,rfl⟩:=hx;exact wpIn_ret ⟨m,φ,μ,hm,hxt,hs,h,hn,hD,rfl⟩
 |_=>
  intro s s' x m0 φ0 st0 m φ μ a w hx hsl hf;simp[jb1] at hf
theorem jgG(h:recR c=some (ops,d,r)):∃id o,c=.region id ops false∧ops.toList=o::r∧jia o=some d:=by
 unfold recR at h
 grind
theorem jos{rest:Code}(h:recC c=some (ops,d,r,rest)):∃id o,(c=.seq (.region id ops false) rest∨(c=.region id ops false∧rest=.skip))∧ops.toList=o::r∧jia o=some d:=by
 unfold recC at h;split at h
 ·split at h
  ·rename_i hr;cases h;obtain⟨id,o,rfl,h2,h3⟩:=jgG hr
   grind
  ·cases h
 ·split at h
  ·rename_i hr;cases h;obtain⟨id,o,rfl,h2,h3⟩:=jgG hr
   grind
  ·cases h
theorem jot(h:jia o=some d):o.dst=some d:=by
 grind [jia]
def jrL(m:Mem)(φ:Ph)(v:Option PV)(u:FrameMode):Prop:=match v with
 |none=>u=.returning
 |some x=>∃uv c,u=.panicking c∧PanL uv c∧R m φ x uv
def jt1(m:Mem)(φ:Ph)(o:Option PV)(en:Ending)(u:FrameMode):Prop:=match o with
 |none=>(∃x,en=.returned x)∧settle u=.returning
 |some y=>∃c uy,en=.panicked c∧(∃c',raised u c=.panicking c'∧PanL uy c')∧R m φ y uy
def jcv(u:FrameMode):Prop:=settle u=.returning∧∀c uy,PanL uy c→∃c',raised u c=.panicking c'∧PanL uy c'
theorem jld:jcv .returning:=⟨rfl,fun c uy h=>⟨c,rfl,h⟩⟩
theorem jlc{v:Value}{ol:List PanicEntry}(h:∀p∈ol,p.goexit=false):jcv (.panicking (⟨v,true,false⟩::ol)):=by
 refine⟨?_,fun c uy ⟨ol',h1,h2⟩=>⟨_,rfl,ol'++(⟨v,true,false⟩::ol),by rw[h1];rfl,fun p hp=>?_⟩⟩
 ·have h2:ol.dropWhile (!·.goexit)=[]:=by
   induction ol with
   |nil=>rfl
   |cons p r ih=>
    simp_all
  simp only[settle,h2]
 grind
theorem jou{c₀:Frame}(hc:c₀.mode=u)(hu:jrL m φ v u){x:Value}{cs':List Frame}(h:recoverD (c₀::cs)=some (x,cs')∨(recoverD (c₀::cs)=none∧x=.nilIface∧cs'=c₀::cs)):
  ∃u1,cs'={ c₀ with mode:=u1 }::cs∧jcv u1∧R m φ (jlg v) x:=by
 subst hc;cases v with
 |none=>
  have hu:c₀.mode=.returning:=hu;have hn:recoverD (c₀::cs)=none:=by simp[recoverD,hu]
  rcases h with h|⟨_,rfl,rfl⟩
  ·rw[hn] at h;cases h
  ·exact⟨.returning,by rw[←hu],jld,.sc rfl⟩
 |some y=>
  obtain⟨uv,c,hu,⟨ol,rfl,hol⟩,hr⟩:=hu;have hn:recoverD (c₀::cs)=some (uv,{ c₀ with mode:=.panicking ({ v:=uv,recovered:=true }::ol) }::cs):=by simp[recoverD,hu]
  rcases h with h|⟨h,_⟩
  ·rw[hn] at h;cases h;exact⟨_,rfl,jlc hol,hr⟩
  grind
theorem jpu(hmix:C.P.follows .mixedOrders=true)(hP:jjP C.P=true)(he:EvOk C e){D:FuncId}{args:List PV}{o:Option PV}{st':Sto}(hx:j5M C e D args v st=some (o,st')){vs:List Value}(hs:Sit E m φ μ st w)(hr:Rl m φ args vs)(hu:jrL m φ v u):
  CallsDIn (FF none) kk C.P D vs.toArray u w fun en u' w'=>∃m' φ' μ',Mem.le m m'∧Ext st st' φ φ'∧Sit E m' φ' μ' st' w'∧jt1 m' φ' o en u':=by
 unfold j5M at hx;split at hx;rotate_left
 ·cases hx
 rename_i fn hfn;split at hx;rotate_left
 ·cases hx
 rename_i c hc;split at hx;rotate_left
 ·cases hx
 rename_i ops d r rest hrec;split at hx;rotate_left
 ·cases hx
 rename_i hb;simp only[Bool.and_eq_true,Bool.not_eq_true'] at hb;obtain⟨hble,_,hres,hcut,hflat⟩:=hb;obtain⟨id,o0,hform,hops,ho0⟩:=jos hrec;have hslots:slots fn.ntmps c=true:=by
  have:=List.all_eq_true.1 hP fn (List.mem_of_getElem? (l:=C.P.funcs.toList) (i:=D) (a:=fn) (by simpa using hfn))
  grind
 have hsl:(ops.toList.all fun o=>ja1 fn.ntmps o.dst&&j4s o.op)=true∧slots fn.ntmps rest=true:=by
  rcases hform with rfl|⟨rfl,rfl⟩
  ·simp_all[slots,Bool.and_eq_true]
  ·exact⟨hslots,rfl⟩
 have hsl1:=hsl.1;rw[hops,List.all_cons,Bool.and_eq_true,Bool.and_eq_true,jot ho0] at hsl1;obtain⟨⟨hd,_⟩,hsr⟩:=hsl1;have hsz:vs.length≤fn.ntmps:=by rw[←hr.1];simp_all
 have hsize:(vs.toArray++Array.replicate (fn.ntmps-vs.toArray.size) undef).size=fn.ntmps:=by simp;omega
 generalize hact:({ tmps:=vs.toArray++Array.replicate (fn.ntmps-vs.toArray.size) undef,defers:=[] }:Act)=act0;have hn0:act0.tmps.size=fn.ntmps:=by grind
 have hD0:act0.defers=[]:=by rw[←hact]
 have henv:EnvR m φ (argE 0 args) act0:=fun t y ht=>by
  obtain⟨_,h2⟩:=jfx ht;simp only[Nat.sub_zero] at h2;obtain⟨v,h3,h4⟩:=hr.get h2
  grind
 have hresr:∀(a':Act) (w':World),(results fn a'.tmps).run C.P w'=.ok (.tuple #[]) w':=fun a' w'=>by
  simp_all[results]
 refine callsDIn_of_wpSIn hfn hc trivial fun c₀ cs hc₀=>?_
 rw[hact]
 -- the end
 have fin:∀(q:AX×AS) u1,jcv u1→dend q=some (o,st')→∀ex a' w',Post [] E fn.ntmps m φ st q.1 q.2 ex a' w'→bodyPostS C.P fn c₀ cs (fun en u' w'=>∃m' φ' μ',Mem.le m m'∧Ext st st' φ φ'∧Sit E m' φ' μ' st' w'∧jt1 m' φ' o en u') ex a' ({ c₀ with mode:=u1 }::cs) w':=fun q u1 hu1 hq ex a' w' ⟨m',φ',μ',p1,p2,p3,p4,p5,p6,p7⟩=>by
  obtain⟨x,s⟩:=q;cases x with
  |normal=>
   obtain rfl:=p7;simp only[dend,Option.some.injEq,Prod.mk.injEq] at hq;obtain⟨rfl,rfl⟩:=hq;exact⟨p6,u1,rfl,_,hresr a' w',m',φ',μ',p1,p2,p3,⟨_,rfl⟩,hu1.1⟩
  |ret=>
   obtain rfl:=p7;simp only[dend,Option.some.injEq,Prod.mk.injEq] at hq;obtain⟨rfl,rfl⟩:=hq;exact⟨p6,u1,rfl,_,hresr a' w',m',φ',μ',p1,p2,p3,⟨_,rfl⟩,hu1.1⟩
  |pan y=>
   obtain⟨uy,⟨ch,rfl,hch⟩,q8⟩:=p7;simp only[dend,Option.some.injEq,Prod.mk.injEq] at hq;obtain⟨rfl,rfl⟩:=hq;exact⟨p6,u1,rfl,m',φ',μ',p1,p2,p3,ch,uy,rfl,hu1.2 ch uy hch,q8⟩
  |exit i=>simp[dend] at hq
 have first:∀{x1:AX}{s1:AS},aops C e ops r ⟨aput (some d) (jlg v) (argE 0 args),st⟩=some (x1,s1)→∀{Q:Exit→Act→List Frame→World→Prop},(∀u1 ex a' w',jcv u1→Post [] E fn.ntmps m φ st x1 s1 ex a' w'→Q ex a' ({ c₀ with mode:=u1 }::cs) w')→(Code.region id ops false).wpSIn (FF none) kk C.P Q act0 (c₀::cs) w:=fun{x1 s1} hops' {Q} hQ=>by
  refine jlB (Q0:=fun cs' ex a' w'=>∃u1,cs'={ c₀ with mode:=u1 }::cs∧jcv u1∧Post [] E fn.ntmps m φ st x1 s1 ex a' w') hops ho0 (fun x cs' hx'=>?_) (fun cs' ex a' w' ⟨u1,h1,h2,h3⟩=>h1▸hQ u1 ex a' w' h2 h3)
  obtain⟨u1,h1,h2,h3⟩:=jou hc₀ hu hx';have hl:=j7r (D:=[]) (k:=kk) (ro:=none) (E:=E) he.call he.yield hops' hsr (Mem.le.refl m) (Ext.refl st φ) hs ((henv).put hn0 hd h3) (by rw[j8x];exact hn0) (by rw[put_defers];exact hD0)
  simp_all
 cases h1:aops C e ops r ⟨aput (some d) (jlg v) (argE 0 args),st⟩ with
 |none=>simp[h1] at hx
 |some q=>
  obtain⟨x1,s1⟩:=q;rw[h1] at hx;have nn:x1≠.normal→dend (x1,s1)=some (o,st'):=fun hne=>by
   grind
  rcases hform with rfl|⟨rfl,rfl⟩
  ·refine wpSIn_seq (first h1 fun u1 ex a' w' hu1 hp=>?_)
   by_cases hx1:x1=.normal
   ·subst hx1;have hp0:=hp;obtain⟨m',φ',μ',p1,p2,p3,p4,p5,p6,p7⟩:=hp;obtain rfl:=p7;simp only at hx;cases h2:exec C e rest s1 with
    |none=>simp[h2] at hx
    |some q2=>
     rw[h2] at hx;have hw:=jne (D:=[]) (kk:=kk) hmix he h2 hsl.2 hflat p1 p2 p3 p4 p5 p6;exact wpSIn_of_wpIn rfl (wpIn_mono hw fun ex a2 w2 hp2=>fin q2 u1 hu1 hx ex a2 w2 hp2)
   ·have:=fin (x1,s1) u1 hu1 (nn hx1) ex a' w' hp;obtain⟨m',φ',μ',p1,p2,p3,p4,p5,p6,p7⟩:=hp;cases x1 with
    |normal=>exact absurd rfl hx1
    |exit i=>obtain rfl:=p7;exact this
    |ret=>obtain rfl:=p7;exact this
    |pan y=>obtain⟨uy,⟨ch,rfl,hch⟩,q8⟩:=p7;exact this
  ·refine first h1 fun u1 ex a' w' hu1 hp=>?_
   by_cases hx1:x1=.normal
   ·subst hx1;simp only[exec] at hx;exact fin (.normal,s1) u1 hu1 hx ex a' w' hp
   ·exact fin (x1,s1) u1 hu1 (nn hx1) ex a' w' hp
theorem jmP{g:Operand}(h:cutR c=some (ops,o,g)):∃id ty pos after ts t2,c=.region id ops false∧ops.toList=[o,⟨none,.defer ⟨.value g,#[],ts⟩,ty,pos,after,t2⟩]∧t2=none:=by
 unfold cutR at h;split at h
 ·split at h
  ·rename_i o' d hops;split at h
   ·rename_i g' hdo hg hd;cases h;obtain⟨dst,op,ty,pos,after,gd⟩:=d;simp only at hdo hg hd;subst hg hd;unfold jtg at hdo;split at hdo
    ·rename_i g2 xs ts;split at hdo
     ·simp_all
     ·cases hdo
    ·cases hdo
   ·cases h
  ·cases h
 ·cases h
def DefR(m:Mem)(φ:Ph)(cl:PV)(d:Deferred):Prop:=match cl with
 | .fn D p q=>∃us ws,d={ target:=.fn (.func D) (List.toArray ws),args:=List.toArray us }∧Rl m φ p us∧Rl m φ q ws
 |_=>False
def jrM(E:Entry)(n:Nat)(m:Mem)(φ:Ph)(st:Sto)(x:AX)(s':AS)(cl:Option PV)(ex:Exit)(a':Act)(w':World):Prop:=match cl with
 |none=>jcb [] E n m φ st x s' ex a' w'
 |some c=>∃d,(∃m1 φ1,DefR m1 φ1 c d∧∃m' φ' μ',Mem.le m1 m'∧Le φ1 φ'∧Mem.le m m'∧Ext st s'.st φ φ'∧Sit E m' φ' μ' s'.st w'∧EnvR m' φ' s'.env a'∧a'.tmps.size=n∧Marks [d] E a'.defers w'∧XR m' φ' x ex)
theorem jpB(hmix:C.P.follows .mixedOrders=true)(he:EvOk C e):∀{c:Code}{s s':AS}{x:AX}{cl:Option PV}{m0:Mem}{φ0:Ph}{st0:Sto}{m:Mem}{φ:Ph}{μ:Own}{a:Act}{w:World},j5n C e c s=some (x,s',cl)→jbL n c=true→(∀id,st0.length≤id→φ0 id=none)→Mem.le m0 m→Ext st0 s.st φ0 φ→Sit E m φ μ s.st w→EnvR m φ s.env a→a.tmps.size=n→a.defers=[] →
  c.wpIn (FF none) kk C.P (jrM E n m0 φ0 st0 x s' cl) a w:=by
 intro c;have plain:∀{c:Code},jbL n c=slots n c→(∀s,j5n C e c s=match exec C e c s with
  |some (x,s1)=>some (x,s1,none)
  |none=>none)→∀{s s':AS}{x:AX}{cl:Option PV}{m0:Mem}{φ0:Ph}{st0:Sto}{m:Mem}{φ:Ph}{μ:Own}{a:Act}{w:World},j5n C e c s=some (x,s',cl)→jbL n c=true→(∀id,st0.length≤id→φ0 id=none)→Mem.le m0 m→Ext st0 s.st φ0 φ→Sit E m φ μ s.st w→EnvR m φ s.env a→a.tmps.size=n→a.defers=[]→c.wpIn (FF none) kk C.P (jrM E n m0 φ0 st0 x s' cl) a w:=fun{c} hsl hex {s s' x cl m0 φ0 st0 m φ μ a w} hx hd hd0 hm hxt hs h hn hD=>by
  rw[hex] at hx;cases h1:exec C e c s with
  |none=>simp[h1] at hx
  |some q=>
   obtain⟨x1,s1⟩:=q;rw[h1] at hx;cases hx;exact j9c (B:=[]) (ro:=none) hmix he h1 (hsl▸hd) (fun e'=>by cases e') hd0 hm hxt hs h hn (by rw[hD];exact Marks.nil)
 induction c with
 |seq c1 c2 ih1 ih2=>
  intro s s' x cl m0 φ0 st0 m φ μ a w hx hsl hd0 hm hxt hs h hn ha0;simp only[j5n] at hx;simp only[jbL] at hsl;split at hx
  ·rename_i ops o g hc;rw[hc] at hsl;simp only[Bool.and_eq_true] at hsl;split at hx
   ·rename_i s1 h1;split at hx
    ·rename_i D p q hg;split at hx
     ·rename_i x2 s2 h2;cases hx;obtain⟨id,ty,pos,after,ts,t2,rfl,hops,rfl⟩:=jmP hc;refine wpIn_seq (wpIn_region_list ?_);rw[hops];refine j6I (l:=[o]) (j5I (fun ex a1 w1 hp=>?_) (j7r (D:=[]) (k:=kk) (ro:=none) (E:=E) he.call he.yield h1 (by grind) hm hxt hs h hn ha0))
      obtain⟨m1,φ1,μ1,q1,q2,q3,q4,q5,q6,q7⟩:=hp;obtain rfl:=q7;show wpListIn _ _ _ _ _ _ _ _
      have rg:=j0h q4 hg;generalize heg:a1.eval g=eg at rg;cases rg with
      | @fn _ _ _ _ us ws hl hl' hi hi'=>
       refine wpListIn_plain rfl fun K hK=>?_
       refine⟨fun _ _=>trivial,?_⟩
       have hrun:((⟨none,.defer ⟨.value g,#[],ts⟩,ty,pos,after,none⟩:Oper).semAt (FF none).round a1.eval).run C.P w1=.ok (.defer { target:=.fn (.func D) ws.toArray,args:=us.toArray }) w1:=by
        show(execOp a1.eval ⟨none,.defer ⟨.value g,#[],ts⟩,ty,pos,after,none⟩).run C.P w1=_
        simp[execOp,resolve,Deferred.ofValue,heg]
       rw[hrun];refine hK _ _ ?_;show(Exit.then _ _) _ _ _
       refine wpIn_mono (j9c (B:=[{ target:=.fn (.func D) ws.toArray,args:=us.toArray }]) (ro:=none) (kk:=kk) (a:={ a1 with defers:={ target:=.fn (.func D) ws.toArray,args:=us.toArray }::a1.defers }) (m0:=m1) (φ0:=φ1) (st0:=s1.st) hmix he h2 hsl.2 (fun e'=>by cases e') q3.dom (Mem.le.refl m1) (Ext.refl s1.st φ1) q3 (fun t y ht=>q4 t y ht) q5 (by
        show Marks _ _ (_::a1.defers) _
        rw[q6];exact Marks.nil)) fun ex a2 w2 ⟨m2,φ2,μ2,p1,p2,p3,p4,p5,p6,p7⟩=>?_
       exact⟨_,m1,φ1,⟨us,ws,rfl,⟨hl,hi⟩,⟨hl',hi'⟩⟩,m2,φ2,μ2,p1,p2.le,q1.trans p1,q2.trans p2,p3,p4,p5,p6,p7⟩
     ·cases hx
    ·cases hx
   ·cases hx
  ·rename_i hc;rw[hc] at hsl;simp only[Bool.and_eq_true] at hsl;cases h1:exec C e c1 s with
   |none=>simp[h1] at hx
   |some r=>
    obtain⟨x1,s1⟩:=r;rw[h1] at hx;refine wpIn_seq (Code.wpIn_mono (fun ex a' w' hp=>?_) (jne (D:=[]) hmix he h1 hsl.1 hsl.2.1 hm hxt hs h hn ha0))
    obtain⟨m',φ',μ',q1,q2,q3,q4,q5,q6,q7⟩:=hp;have hM:Marks [] E a'.defers w':=by rw[q6];exact Marks.nil
    cases x1 with
    |normal=>
     obtain rfl:=q7;exact ih2 hx hsl.2.2 hd0 q1 q2 q3 q4 q5 q6
    |exit i=>
     obtain rfl:=q7;cases hx;exact⟨m',φ',μ',q1,q2,q3,q4,q5,hM,rfl⟩
    |ret=>
     obtain rfl:=q7;cases hx;exact⟨m',φ',μ',q1,q2,q3,q4,q5,hM,rfl⟩
    |pan y=>
     obtain⟨v,⟨ch,rfl,hch⟩,q8⟩:=q7;cases hx;exact⟨m',φ',μ',q1,q2,q3,q4,q5,hM,v,⟨ch,rfl,hch⟩,q8⟩
 |_=>exact plain rfl fun s=>rfl
end
end Go.Am
