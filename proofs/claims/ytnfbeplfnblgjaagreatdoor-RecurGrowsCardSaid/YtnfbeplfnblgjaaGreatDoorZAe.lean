/- Code of the plain machine, in a round or not: the model does the same. Plain lemmas, no statement of the seat. -/
import Derived.Test.YtnfbeplfnblgjaaGreatDoorZAd
set_option linter.all false
namespace Go.Am
open Go Go.Hb
open Go.Gw (tk tf tz tsl tar tpl isAggD)
section
variable{P:Program}{E:Entry}{m:Mem}{φ:Ph}{μ:Own}{st:Sto}{ρ:AEnv}{a:Act}{w:World}{C:Cfg}{e:Ev}{n:Nat}
theorem SR.kind:∀{k:Nat}{st:Sto}{μ:Own}{r:Res}{b:Nat},SR m φ k st μ→r∈μ→r.holds w→r.foot=some b→(∃c T fr,w.heap[b]?=some (.cells c T fr))∨(∃l,w.heap[b]?=some (.loop l))∨(∃en c,w.heap[b]?=some (.map en c))∨∃c q s r,w.heap[b]?=some (.chan c q false s r false)
 |_,[],μ,r,b,h,hr,_,_=>by have h:μ=[]:=h;subst h;simp at hr
 |k,o::st,μ,r,b,h,hr,hh,hf=>by
  obtain⟨rs,μ',rfl,h2,h3⟩:=h;rcases List.mem_append.1 hr with hr|hr
  ·cases o with
   |dead=>have h2:rs=[]:=h2;subst h2;simp at hr
   |box T cs=>
    obtain⟨b',vs,_,rfl,_⟩:=h2;simp only[List.mem_singleton] at hr;subst hr;simp only[bx,Res.foot,Option.some.injEq] at hf;subst hf;exact .inl ⟨_,_,_,hh⟩
   |frz cs=>obtain⟨rfl,_⟩:=h2;simp at hr
   |lp ρ ps a b' s=>
    obtain⟨l,rc,_,rfl,_⟩:=h2;simp only[List.mem_singleton] at hr;subst hr;simp only[Res.foot,Option.some.injEq] at hf;subst hf;exact .inr (.inl ⟨_,hh⟩)
   |mp ks vs=>
    obtain⟨l,en,clock,_,rfl,_⟩:=h2;simp only[List.mem_singleton] at hr;subst hr;simp only[Res.foot,Option.some.injEq] at hf;subst hf;exact .inr (.inr (.inl ⟨_,_,hh⟩))
   |ch cap q=>
    obtain⟨l,us,s,r,_,rfl,_⟩:=h2;simp only[List.mem_singleton] at hr;subst hr;simp only[Res.foot,Option.some.injEq] at hf;subst hf;exact .inr (.inr (.inr ⟨_,_,_,_,hh⟩))
   |row p e sz xs=>
    obtain⟨a',cap,vss,_,rfl,_⟩:=h2;simp only[List.mem_singleton] at hr;subst hr;obtain⟨_,h4⟩:=hh;rcases h4 with⟨h4,_⟩|⟨g,cap',cur,fz,h4,h5,_⟩
    ·rw[h4] at hf;simp[Res.foot,Value.ownBlock] at hf
    ·rw[h4] at hf;simp only[Res.foot,Value.ownBlock,Option.some.injEq] at hf;subst hf;exact .inl ⟨_,_,_,h5⟩
  ·exact SR.kind h3 hr hh hf
theorem Sit.notMark(hs:Sit E m φ μ st w){b:Nat}{x:Option (List Deferred)}(hb:w.heap[b]?=some (.deferred x)):∀r∈μ,r.foot≠some b:=fun r hr hf=>by
 rcases hs.sto.kind hr (hs.good.holds r hr) hf with⟨c,T,fr,h⟩|⟨l,h⟩|⟨en,c,h⟩|⟨c,q,s,r',h⟩
 ·rw[hb] at h;cases h
 ·rw[hb] at h;cases h
 ·rw[hb] at h;cases h
 ·rw[hb] at h;cases h
structure MarksL (E:Entry) (D:List Deferred) (w:World):Prop where
 at_:∀d∈D,∃b,d={ target:=.collected b,args:=#[] }∧w.heap[b]?=some (.deferred (some []))∧E.w.heap.size≤b
 apart:D.Pairwise (fun d d'=>d≠d')
def Marks(B:List Deferred)(E:Entry)(D:List Deferred)(w:World):Prop:=∃D1,D=D1++B∧MarksL E D1 w
variable{s':AS}{x:AX}{as bd:Code}{B D:List Deferred}{m' m0:Mem}{kk:Nat}{ro:Option Nat}{μ':Own}{φ0:Ph}{st0:Sto}{w':World}
theorem Marks.nil:Marks B E B w:=⟨[],rfl,fun _ h=>by simp at h,.nil⟩
theorem Marks.of(hM:Marks B E D w)(h:∀b:Nat,w.heap[b]?=some (Obj.deferred (some []))→w'.heap[b]?=w.heap[b]?):Marks B E D w':=by
 obtain⟨D1,rfl,hM⟩:=hM;refine⟨D1,rfl,fun d hd=>?_,hM.apart⟩
 obtain⟨b,h1,h2,h3⟩:=hM.at_ d hd;exact⟨b,h1,(h b h2).trans h2,h3⟩
theorem Marks.keep(hM:Marks B E D w)(hs:Sit E m φ μ st w)(k:Hb.Good ⟨w,m,feetOf μ⟩ w' m' μ'):Marks B E D w':=
 hM.of fun b h2=>k.keep b (mem_lt h2) (fun⟨r,hr,hf⟩=>hs.notMark h2 r hr hf)
theorem Marks.cons(hM:Marks B E D w)(h:∀b:Nat,w.heap[b]?=some (Obj.deferred (some []))→w'.heap[b]?=w.heap[b]?)(hb:w'.heap[w.heap.size]?=some (.deferred (some [])))(hE:E.w.heap.size≤w.heap.size):
  Marks B E ({ target:=.collected w.heap.size,args:=#[] }::D) w':=by
 obtain⟨D1,rfl,hM⟩:=hM;refine⟨{ target:=.collected w.heap.size,args:=#[] }::D1,rfl,fun d hd=>?_,List.pairwise_cons.2 ⟨fun d hd e'=>?_,hM.apart⟩⟩
 ·rcases List.mem_cons.1 hd with rfl|hd
  ·exact⟨_,rfl,hb,hE⟩
  ·obtain⟨b,h1,h2,h3⟩:=hM.at_ d hd;exact⟨b,h1,(h b h2).trans h2,h3⟩
 ·obtain⟨b,q1,q2,_⟩:=hM.at_ d hd;rw[q1] at e';simp only[Deferred.mk.injEq,Target.collected.injEq,and_true] at e';have:=mem_lt q2;omega
def PostM(B:List Deferred)(E:Entry)(n:Nat)(m:Mem)(φ:Ph)(st:Sto)(x:AX)(s':AS)(ex:Exit)(a':Act)(w':World):Prop:=
 ∃m' φ' μ',Mem.le m m'∧Ext st s'.st φ φ'∧Sit E m' φ' μ' s'.st w'∧EnvR m' φ' s'.env a'∧a'.tmps.size=n∧Marks B E a'.defers w'∧XR m' φ' x ex
theorem Sit.start(hs:Sit E m φ μ st w):Sit ⟨w,m,feetOf μ⟩ m φ μ st w:=⟨Hb.Good.start (ν:=[]) (by simpa using hs.good),hs.sto,hs.dom⟩
theorem Sit.back{φ':Ph}{st':Sto}(hs:Sit E m φ μ st w)(k:Sit ⟨w,m,feetOf μ⟩ m' φ' μ' st' w'):Sit E m' φ' μ' st' w':=
 ⟨by simpa using Hb.Good.back (ν:=[]) (by simpa using hs.good) k.good,k.sto,k.dom⟩
theorem Post.toM{ex:Exit}{a':Act}(hs:Sit E m φ μ st w)(hM:Marks B E D w)(h:Post D ⟨w,m,feetOf μ⟩ n m0 φ0 st0 x s' ex a' w'):PostM B E n m0 φ0 st0 x s' ex a' w':=by
 obtain⟨m',φ',μ',q1,q2,q3,q4,q5,q6,q7⟩:=h;exact⟨m',φ',μ',q1,q2,hs.back q3,q4,q5,by rw[q6];exact hM.keep hs q3.good,q7⟩
def LoopIn(ro:Option Nat)(P:Program)(c:Code)(Q:Exit→Act→World→Prop)(a:Act)(w:World):Prop:=
 ∀(b:Frame) (k:List Item) (cs:List Frame),b.roundOf=ro→∃e a' w',Q e a' w'∧ArrivesIn (Machine.fenced P (FF ro)) P (lone (b.atR a (.code c::.inLoop c::k)) cs w) b k cs e a' w'
def LoopOk(P:Program)(loop:List Nat→Nat→Code→AS→Option (AX×AS)):Prop:=
 ∀ks k0 c s x s',loop ks k0 c s=some (x,s')→∀(ro:Option Nat) (B:List Deferred) (E:Entry) n m0 φ0 st0 m φ μ a w,slots n c=true→(ro.isSome=true→noRange c=true)→st0.length≤k0→k0≤s.st.length→(∀id,k0≤id→φ0 id=none)→Mem.le m0 m→Ext st0 s.st φ0 φ→Sit E m φ μ s.st w→EnvR m φ s.env a→a.tmps.size=n→Marks B E a.defers w →
  LoopIn ro P c (PostM B E n m0 φ0 st0 x s') a w
structure EvOk (C:Cfg) (e:Ev):Prop where
 call:CallOk C.P e.call
 loop:LoopOk C.P e.loop
 yield:DoesOk (YieldD C.P) e.yield
theorem Sit.free{i l:Nat}{r r':Loop}{ρ':List (Nat×PV)}{ps:List Nat}{s:LpS}(hs:Sit E m φ μ st w)(hi:st[i]?=some (.lp ρ' ps as bd s))(hφ:φ i=some (.blk l))(hl:w.heap[l]?=some (.loop r)):
  ∃μ',Sit E m φ μ' (st.set i .dead) (w.putObj l (.loop r')):=by
 obtain⟨μ1,rs,μ2,e1,e2,e3⟩:=hs.sto.get hi;rw[Nat.zero_add] at e2 e3;obtain⟨l',rc,h1,rfl,_⟩:=e2;rw[hφ] at h1;cases h1;have hg:Hb.Good E w m (.blk l (.loop rc)::(μ1++μ2)):=hs.good.perm (by rw[e1];simp)
 have hlt:l<w.heap.size:=mem_lt hl;have ht:Hb.Good E (w.putObj l (.loop r')) m (.blk l (.loop r')::(μ1++μ2)):=hg.turn rfl rfl rfl (by simp) (fun b hb hf=>World.putObj_heap_other (fun e=>hf (by simp[Res.foot,e]))) (fun b o v hf hm=>by
   simp only[Res.foot,Option.some.injEq] at hf;subst hf;obtain⟨c,T,fr,h1,_⟩:=hg.sub _ o v hm;rw[hl] at h1;cases h1) (World.putObj_heap_same hlt) (fun b hb=>.inl ⟨hb,Nat.le_refl _⟩)
 exact⟨μ1++μ2,ht.drop (List.sublist_cons_self _ _),by simpa using e3 (o':=.dead) (rs':=[]) (Mem.le.refl m) (Le.refl φ) (fun _ _=>rfl) rfl,fun id hid=>hs.dom id (by simpa using hid)⟩
theorem range_ok(he:EvOk C e){f:Operand}{ps:Array Tmp}{s:AS}(hro:ro=none)(hx:execRange C e f ps as bd s=some (x,s'))(hsl:slots n (.rangeFunc f ps as bd)=true)
  (hd0:∀id,st0.length≤id→φ0 id=none) (hm:Mem.le m0 m) (hxt:Ext st0 s.st φ0 φ) (hs:Sit E m φ μ s.st w) (h:EnvR m φ s.env a) (hn:a.tmps.size=n) (hM:Marks B E a.defers w):(Code.rangeFunc f ps as bd).wpIn (FF ro) kk C.P (PostM B E n m0 φ0 st0 x s') a w:=by
 subst hro;unfold execRange at hx;split at hx;rotate_left
 ·cases hx
 rename_i g xs ys hg;split at hx;rotate_left
 ·cases hx
 rename_i hc;simp only[Bool.and_eq_true] at hc;obtain⟨⟨hcall,hna⟩,hnb⟩:=hc;simp only[slots,Bool.and_eq_true] at hsl;obtain⟨⟨hps,hsa⟩,hsb⟩:=hsl;have rg:=aval_R h hg;generalize heg:a.eval f=eg at rg;cases rg with
 | @fn _ _ _ _ us ws hl hl' hi hi'=>
  cases hac:acallS C e g (xs++[.yl s.st.length]++ys) (s.st++[.lp s.env ps.toList as bd .ready]) with
  |none=>rw[hac] at hx;cases hx
  |some res=>
   obtain⟨r,st2⟩:=res;rw[hac] at hx;cases r with
   |pan v=>cases hx
   |ret rs=>
    simp only at hx;refine wpIn_rangeFunc (fun fn _=>?_)
    obtain⟨rec,hrec⟩:∃rec:Loop,rec={ state:=.ready,pending:=none,fn,tmps:=a.tmps,params:=ps,assign:=as,body:=bd,defers:=w.heap.size }:=⟨_,rfl⟩;obtain⟨w1,hw1⟩:∃w1,w1=(w.alloc (.deferred (some []))).alloc (.loop rec):=⟨_,rfl⟩;have hw1h:w1={ { w with heap:=w.heap.push (.deferred (some [])) } with heap:=(w.heap.push (.deferred (some []))).push (.loop rec) }:=by rw[hw1];rfl
    have hsz1:w1.heap.size=w.heap.size+2:=by rw[hw1h];simp
    have hl1:w1.heap[w.heap.size+1]?=some (.loop rec):=by
     rw[hw1h];simp only[Array.getElem?_push,Array.size_push,if_true]
    have hD1:w1.heap[w.heap.size]?=some (.deferred (some [])):=by
     rw[hw1h];simp only[Array.getElem?_push,Array.size_push];rw[if_neg (by omega)]
     simp
    have hold:∀b,b<w.heap.size→w1.heap[b]?=w.heap[b]?:=fun b hb=>by
     rw[hw1h];simp only[Array.getElem?_push,Array.size_push];rw[if_neg (by omega),if_neg (by omega)]
    have hg1:=(hs.good.new (.deferred (some []))).new (.loop rec);simp only[Array.size_push] at hg1;have hg2:Hb.Good E w1 m (μ++[.blk (w.heap.size+1) (.loop rec)]):=by
     rw[hw1h];refine(hg1.drop (μ':=.blk (w.heap.size+1) (.loop rec)::μ) ?_).perm (by simpa using(List.perm_append_comm (l₁:=[Res.blk (w.heap.size+1) (Obj.loop rec)]) (l₂:=μ)))
     exact .cons_cons _ (List.sublist_cons_self _ _)
    obtain⟨φ1,hφ1⟩:∃φ1:Ph,φ1=fun id=>if id=s.st.length then some (.blk (w.heap.size+1)) else φ id:=⟨_,rfl⟩
    have hφa:φ1 s.st.length=some (.blk (w.heap.size+1)):=by rw[hφ1];simp
    have hφb:∀{id},id≠s.st.length→φ1 id=φ id:=fun{id} hne=>by rw[hφ1];simp[hne]
    have hle1:Le φ φ1:=fun id=>by
     by_cases hid:id=s.st.length
     ·rw[hs.dom id (by omega)]
      exact⟨fun b hb=>(by cases hb),fun sv n sz hb=>(by cases hb)⟩
     ·rw[hφb hid];exact Le.refl φ id
    have hs1:Sit E m φ1 (μ++[.blk (w.heap.size+1) (.loop rec)]) (s.st++[.lp s.env ps.toList as bd .ready]) w1:=by
     refine⟨hg2,SR.snoc (hs.sto.mono (Mem.le.refl m) hle1 (fun id _ hid=>hφb (by omega))) ?_,fun id hid=>?_⟩
     ·rw[Nat.zero_add];refine⟨w.heap.size+1,rec,hφa,rfl,by rw[hrec];exact⟨rfl,rfl⟩,by rw[hrec],by rw[hrec],by rw[hrec],by rw[hrec];rw[hn];exact hsa,by rw[hrec];rw[hn];exact hsb,by rw[hrec];rw[hn];exact hps,fun t y ht=>?_⟩
      obtain⟨v,q1,q2⟩:=h t y ht;exact⟨v,by rw[hrec];exact q1,q2.mono (Mem.le.refl m) hle1⟩
     ·simp only[List.length_append,List.length_cons,List.length_nil] at hid;rw[hφb (by omega)]
      exact hs.dom id (by omega)
    have hM1:Marks B E a.defers w1:=hM.of fun b hb=>hold b (mem_lt hb)
    have hM2:Marks B E ({ target:=.collected w.heap.size,args:=#[] }::a.defers) w1:=hM.cons (fun b hb=>hold b (mem_lt hb)) hD1 hs.good.size
    have hargs:Rl m φ1 (xs++[.yl s.st.length]++ys) (us++[.func (.yield (w.heap.size+1)) #[] #[]]++ws):=
     ((Rl.mono (Mem.le.refl m) hle1 ⟨hl,hi⟩).append (.cons (.yl hφa) .nil)).append (Rl.mono (Mem.le.refl m) hle1 ⟨hl',hi'⟩)
    have hok:=acallS_ok (E:=⟨w1,m,feetOf (μ++[.blk (w.heap.size+1) (.loop rec)])⟩) he.call hs1.start hargs hac;refine⟨w.heap.size+1,[{ target:=.collected w.heap.size,args:=#[] }],w1,{ target:=.fn (.func g) ws.toArray,args:=us.toArray ++ #[.func (.yield (w.heap.size+1)) #[] #[]] },w1,g,
     (us++[Value.func (.yield (w.heap.size+1)) #[] #[]]++ws).toArray,w1,?_,?_,fun _ _=>trivial,?_,fun e'=>(by cases e'),?_⟩
    ·rw[hw1,hrec];exact run_enterLoop_outer _ _ _ _ _
    ·have hcst:a.eval (.const (.func (.yield (w.heap.size+1)) #[] #[]))=.func (.yield (w.heap.size+1)) #[] #[]:=rfl;simp[resolve,heg,Deferred.ofValue,hcst]
    ·unfold Gw.callable at hcall;split at hcall
     ·rename_i fn' hfn;rw[Bool.and_eq_true] at hcall;cases hb:fn'.body with
      |none=>simp[hb] at hcall
      |some body=>
       have hne:¬fn'.name = "runtime.NumGoroutine" :=by simpa using hcall.2
       simp[invoke,callFunc,hfn,hne,hb]
     ·cases hcall
    ·refine calls_FF (Calls.mono hok fun en w2 hq=>?_)
     obtain⟨m2,φ2,μ2,q1,q2,q3,us',rfl,q5⟩:=hq;have q3':=hs1.back q3;have hM3:=hM2.keep hs1 q3.good;have hφ2:φ2 s.st.length=some (.blk (w.heap.size+1)):=(q2.le _).1 _ hφa
     -- the loop's record
     have key:∀(ls:LpS) (j:Option Code) ρ' ps' as' bd',st2[s.st.length]?=some (.lp ρ' ps' as' bd' ls)→(∀r:Loop,ls.is r→r.state≠.busy∧r.pending=j) →
       (∀w4 μ4,Sit E m2 φ2 μ4 (st2.set s.st.length .dead) w4→Marks B E ({ target:=.collected w.heap.size,args:=#[] }::a.defers) w4→match j with
        |none=>PostM B E n m0 φ0 st0 x s' .normal { a with defers:={ target:=.collected w.heap.size,args:=#[] }::a.defers } w4
        |some c=>c.wpIn (FF none) kk C.P (PostM B E n m0 φ0 st0 x s') { a with defers:={ target:=.collected w.heap.size,args:=#[] }::a.defers } w4) →
       rangePost (FF none) kk C.P (w.heap.size+1) (PostM B E n m0 φ0 st0 x s') { a with defers:=[{ target:=.collected w.heap.size,args:=#[] }]++a.defers } (.returned (Gw.tup us')) w2:=fun ls j ρ' ps' as' bd' hst hls hgo=>by
      obtain⟨μ1,rs1,μ3,e1,e2,_⟩:=q3'.sto.get hst;rw[Nat.zero_add] at e2;obtain⟨l',rc,h1,h2,h3,_⟩:=e2;rw[hφ2] at h1;cases h1;have hrc:w2.heap[w.heap.size+1]?=some (.loop rc):=q3'.good.holds (.blk (w.heap.size+1) (.loop rc)) (by rw[e1,h2];simp)
      obtain⟨h4,h5⟩:=hls rc h3;obtain⟨μ4,hs4⟩:=q3'.free (r':={ rc with state:=.exhausted }) hst hφ2 hrc
      have hrun:(Instr.endLoop (w.heap.size+1)).run C.P w2=.ok j (w2.putObj (w.heap.size+1) (.loop { rc with state:=.exhausted })):=by
       rw[←h5];exact run_endLoop hrc h4
      refine⟨j,_,hrun,?_⟩;have hM4:Marks B E ({ target:=.collected w.heap.size,args:=#[] }::a.defers) (w2.putObj (w.heap.size+1) (.loop { rc with state:=.exhausted })):=hM3.of fun b hb=>World.putObj_heap_other (fun e'=>by
       subst e';rw[hrc] at hb;cases hb)
      have:=hgo _ μ4 hs4 hM4;cases j with
      |none=>exact this
      |some c=>exact this
     have fin:∀(x1:AX) (ex:Exit),(x1,(⟨s.env,st2.set s.st.length .dead⟩:AS))=(x,s')→XR m2 φ2 x1 ex→∀w4 μ4,Sit E m2 φ2 μ4 (st2.set s.st.length .dead) w4→Marks B E ({ target:=.collected w.heap.size,args:=#[] }::a.defers) w4 →
       PostM B E n m0 φ0 st0 x s' ex { a with defers:={ target:=.collected w.heap.size,args:=#[] }::a.defers } w4:=fun x1 ex hxe hxr w4 μ4 hs4 hM4=>by
      cases hxe;refine⟨m2,φ2,μ4,hm.trans q1,⟨hxt.le.trans (hle1.trans q2.le),?_,fun id hid=>?_⟩,hs4,fun t y ht=>?_,hn,hM4,hxr⟩
      ·have k1:=hxt.len;have k2:=q2.len;simp only[List.length_append,List.length_cons,List.length_nil,List.length_set] at k2⊢;omega
      ·obtain⟨d1,d2⟩:=hxt.dead id hid;have hlt:=(List.getElem?_eq_some_iff.1 d1).1;obtain⟨d3,d4⟩:=q2.dead id (by rw[List.getElem?_append_left hlt];exact d1)
       exact⟨by rw[List.getElem?_set_ne (by omega)];exact d3,by rw[d4,hφb (by omega),d2]⟩
      ·obtain⟨v,k1,k2⟩:=h t y ht;exact⟨v,k1,k2.mono q1 (hle1.trans q2.le)⟩
     split at hx
     ·rename_i ρ' ps' as' bd' ls hst;split at hx
      ·exact key .ready none ρ' ps' as' bd' hst (fun r hr=>⟨by rw[hr.1];simp,hr.2⟩) (fun w4 μ4 hs4 hM4=>fin .normal .normal (Option.some.inj hx) rfl w4 μ4 hs4 hM4)
      ·exact key (.done none) (some .ret) ρ' ps' as' bd' hst (fun r hr=>⟨by rw[hr.1];simp,hr.2⟩) (fun w4 μ4 hs4 hM4=>wpIn_ret (fin .ret .ret (Option.some.inj hx) rfl w4 μ4 hs4 hM4))
      ·rename_i i;exact key (.done (some i)) (some (.exit i)) ρ' ps' as' bd' hst (fun r hr=>⟨by rw[hr.1];simp,hr.2⟩) (fun w4 μ4 hs4 hM4=>wpIn_exit (fin (.exit i) (.exit i) (Option.some.inj hx) rfl w4 μ4 hs4 hM4))
      ·cases hx
     ·cases hx
theorem exec_ok(hmix:C.P.follows .mixedOrders=true)(he:EvOk C e):∀{c:Code}{s s':AS}{x:AX}{m0:Mem}{φ0:Ph}{st0:Sto}{m:Mem}{φ:Ph}{μ:Own}{a:Act}{w:World},exec C e c s=some (x,s')→slots n c=true→(ro.isSome=true→noRange c=true)→(∀id,st0.length≤id→φ0 id=none)→Mem.le m0 m→Ext st0 s.st φ0 φ→Sit E m φ μ s.st w→EnvR m φ s.env a→a.tmps.size=n→Marks B E a.defers w →
  c.wpIn (FF ro) kk C.P (PostM B E n m0 φ0 st0 x s') a w:=by
 intro c
 induction c with
 |skip=>
  intro s s' x m0 φ0 st0 m φ μ a w hx _ _ _ hm hxt hs h hn hD;simp only[exec,Option.some.injEq,Prod.mk.injEq] at hx;obtain⟨rfl,rfl⟩:=hx;exact wpIn_skip ⟨m,φ,μ,hm,hxt,hs,h,hn,hD,rfl⟩
 |region id ops draw=>
  intro s s' x m0 φ0 st0 m φ μ a w hx hsl _ _ hm hxt hs h hn hD;simp only[exec] at hx;split at hx
  ·exact wpIn_mono (wpIn_region_list (aops_ok (E:=⟨w,m,feetOf μ⟩) he.call he.yield hx hsl hm hxt hs.start h hn rfl)) fun ex a' w' hp=>Post.toM hs hD hp
  ·exact wpIn_mono (adraw_ok (E:=⟨w,m,feetOf μ⟩) hmix he.call hx hsl hm hxt hs.start h hn rfl) fun ex a' w' hp=>Post.toM hs hD hp
 |seq c1 c2 ih1 ih2=>
  intro s s' x m0 φ0 st0 m φ μ a w hx hsl hR hd0 hm hxt hs h hn hD;simp only[slots,Bool.and_eq_true] at hsl;have hR1:ro.isSome=true→noRange c1=true:=fun e'=>by have:=hR e';simp only[noRange,Bool.and_eq_true] at this;exact this.1
  have hR2:ro.isSome=true→noRange c2=true:=fun e'=>by have:=hR e';simp only[noRange,Bool.and_eq_true] at this;exact this.2
  simp only[exec] at hx;cases h1:exec C e c1 s with
  |none=>simp[h1] at hx
  |some r=>
   obtain⟨x1,s1⟩:=r;rw[h1] at hx;refine wpIn_seq (Code.wpIn_mono (fun ex a' w' hp=>?_) (ih1 h1 hsl.1 hR1 hd0 hm hxt hs h hn hD))
   obtain⟨m',φ',μ',q1,q2,q3,q4,q5,q6,q7⟩:=hp;cases x1 with
   |normal=>
    obtain rfl:=q7;exact ih2 hx hsl.2 hR2 hd0 q1 q2 q3 q4 q5 q6
   |exit i=>
    obtain rfl:=q7;cases hx;exact⟨m',φ',μ',q1,q2,q3,q4,q5,q6,rfl⟩
   |ret=>
    obtain rfl:=q7;cases hx;exact⟨m',φ',μ',q1,q2,q3,q4,q5,q6,rfl⟩
   |pan y=>
    obtain⟨v,⟨ch,rfl,hch⟩,q8⟩:=q7;cases hx;exact⟨m',φ',μ',q1,q2,q3,q4,q5,q6,v,⟨ch,rfl,hch⟩,q8⟩
 |cond c1 c2 c3 ih1 ih2=>
  intro s s' x m0 φ0 st0 m φ μ a w hx hsl hR hd0 hm hxt hs h hn hD;simp only[slots,Bool.and_eq_true] at hsl;have hR1:ro.isSome=true→noRange c2=true:=fun e'=>by have:=hR e';simp only[noRange,Bool.and_eq_true] at this;exact this.1
  have hR2:ro.isSome=true→noRange c3=true:=fun e'=>by have:=hR e';simp only[noRange,Bool.and_eq_true] at this;exact this.2
  simp only[exec] at hx;split at hx
  ·rename_i b hb;have hv:=(aval_R h hb).sc_eq;refine wpIn_cond_split hv (fun e'=>?_) (fun e'=>?_)
   ·subst e';exact ih1 hx hsl.1 hR1 hd0 hm hxt hs h hn hD
   ·subst e';exact ih2 hx hsl.2 hR2 hd0 hm hxt hs h hn hD
  ·cases hx
 |block id c1 ih=>
  intro s s' x m0 φ0 st0 m φ μ a w hx hsl hR hd0 hm hxt hs h hn hD;simp only[slots] at hsl;simp only[noRange] at hR;simp only[exec] at hx;cases h1:exec C e c1 s with
  |none=>simp[h1] at hx
  |some r=>
   obtain⟨x1,s1⟩:=r;rw[h1] at hx;refine wpIn_block (Code.wpIn_mono (fun ex a' w' hp=>?_) (ih h1 hsl hR hd0 hm hxt hs h hn hD))
   obtain⟨m',φ',μ',q1,q2,q3,q4,q5,q6,q7⟩:=hp;cases x1 with
   |normal=>
    obtain rfl:=q7;cases hx;exact⟨m',φ',μ',q1,q2,q3,q4,q5,q6,rfl⟩
   |exit i=>
    obtain rfl:=q7;simp only at hx;show if i=id then _ else _
    split at hx
    ·rename_i hb;cases hx;rw[if_pos (Nat.eq_of_beq_eq_true hb)];exact⟨m',φ',μ',q1,q2,q3,q4,q5,q6,rfl⟩
    ·rename_i hb;cases hx;rw[if_neg (fun e'=>by subst e';simp at hb)]
     exact⟨m',φ',μ',q1,q2,q3,q4,q5,q6,rfl⟩
   |ret=>
    obtain rfl:=q7;cases hx;exact⟨m',φ',μ',q1,q2,q3,q4,q5,q6,rfl⟩
   |pan y=>
    obtain⟨v,⟨ch,rfl,hch⟩,q8⟩:=q7;cases hx;exact⟨m',φ',μ',q1,q2,q3,q4,q5,q6,v,⟨ch,rfl,hch⟩,q8⟩
 |loop c1 ih=>
  intro s s' x m0 φ0 st0 m φ μ a w hx hsl hR hd0 hm hxt hs h hn hD;simp only[slots] at hsl;simp only[noRange] at hR;simp only[exec] at hx
  intro b k cs hro hb hr;obtain⟨ex,a',w',hq,harr⟩:=he.loop _ _ c1 s x s' hx ro B E n m0 φ0 st0 m φ μ a w hsl hR hxt.len (Nat.le_refl _) (fun id hid=>hd0 id (Nat.le_trans hxt.len hid)) hm hxt hs h hn hD b k cs hro
  exact⟨ex,a',w',hq,.of_steps (.one (fenced_calm hb hr rfl) stepR_loop) harr⟩
 |exit i=>
  intro s s' x m0 φ0 st0 m φ μ a w hx _ _ _ hm hxt hs h hn hD;simp only[exec,Option.some.injEq,Prod.mk.injEq] at hx;obtain⟨rfl,rfl⟩:=hx;exact wpIn_exit ⟨m,φ,μ,hm,hxt,hs,h,hn,hD,rfl⟩
 |ret=>
  intro s s' x m0 φ0 st0 m φ μ a w hx _ _ _ hm hxt hs h hn hD;simp only[exec,Option.some.injEq,Prod.mk.injEq] at hx;obtain⟨rfl,rfl⟩:=hx;exact wpIn_ret ⟨m,φ,μ,hm,hxt,hs,h,hn,hD,rfl⟩
 |rangeFunc f ps as bd _ _=>
  intro s s' x m0 φ0 st0 m φ μ a w hx hsl hR hd0 hm hxt hs h hn hD;simp only[exec] at hx;refine range_ok he ?_ hx hsl hd0 hm hxt hs h hn hD;cases ro with
  |none=>rfl
  |some l=>have:=hR rfl;simp[noRange] at this
 |_=>
  intro s s' x m0 φ0 st0 m φ μ a w hx;simp[exec] at hx
end
end Go.Am
