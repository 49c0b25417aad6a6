/-
  May a context and terms be looked at: conv.formed. No statement of the seat.
-/
import Derived.Test.YtljnahbgfmflaaaGreatDoorZIl
set_option linter.unusedVariables false
set_option maxHeartbeats 2000000
set_option maxRecDepth 100000
set_option linter.unusedSimpArgs false
set_option linter.unnecessarySimpa false
namespace Go.Proofs.YtljnahbgfmflaaaGreatDoor
open Go Go.Am Go.Gw
theorem jfA (t:Tm) (v:PV) (h:TmP t v) (b:Bool) (z:Nat) (xs:List PV) (n:Nat) (hn:xs.length=n):Pf C1 150 [v,.cp [.sl b z xs]] [bv (!j0L t 4 n)]:=by
 have hr:=j0P t v h 4 n
 subst hn
 obtain ⟨k1,n1,s1,l1,t1,b1,z1,x1,c1,y1,ys1,-,rfl,-⟩:=h.open
 refine j00 Tryz.func150 rfl rfl rfl ?_
 repeat' ((conv=>whnf);first|refine j04 rfl ?_|refine j01 hr rfl rfl ?_)
 all_goals (try (conv=>whnf))
 all_goals rfl
theorem jdj {ctx:List Tm} {i:Nat} {t:Tm} (h:ctx[i]? = some t):ctxF (ctx.drop i) i=(j0L t 4 i && ctxF (ctx.drop (i + 1)) (i + 1:Nat)):=by
 rw [drop_at h,ctxF]
 rfl
theorem j9h (ctx ts:List Tm) (b:Bool) (z:Nat) (xs:List PV) (hz:z=5∨xs=[]) (hxs:TmsP ctx xs) (b2:Bool) (z2:Nat) (ys:List PV) (hz2:z2=5∨ys=[]) (hys:TmsP ts ys) (hbd:ctx.length ≤ 1759218604441) (hbd2:ts.length ≤ 1759218604441):Pf C1 98 [.sl b z xs,.sl b2 z2 ys] [bv (j1h ctx ts)]:=by
 have hlen:=hxs.len
 have ha:=jdr 150 [.cp [.sl b z xs]] rfl rfl rfl (fun t=>!j0L t 4 ctx.length) ts (fun t _ v hv=>jfA t v hv b z xs ctx.length hlen) b2 z2 ys hz2 hys hbd2
 have he:j1h ctx ts=(decide (ctx.length ≤ 64) && (ctxF ctx 0 && !(ts.any fun t=>!j0L t 4 ctx.length))):=by
  unfold j1h
  congr 2
  rw [List.not_any_eq_all_not]
  simp
 rw [he]
 refine j00 Tryz.func98 rfl rfl rfl ?_
 repeat' ((conv=>whnf);first|apply gE<;>intro h|refine j04 rfl ?_)
 all_goals (try (conv=>whnf))
 ·refine j1R ?_
  rw [decide_eq_false (by omega)]
  rfl
 rw [decide_eq_true (by omega:ctx.length ≤ 64)]
 refine j09 (G:=Nat) (fun i=>[(12,iv i)]) (fun _=>_) (fun i=>i ≤ ctx.length∧ctxF (ctx.drop i) i=ctxF ctx 0) (fun i=>ctx.length - i) 0 ⟨by omega,rfl⟩ rfl rfl ?_
 rintro i ⟨hi,hall⟩
 dsimp only at hi hall ⊢
 repeat' ((conv=>whnf);first|apply gE<;>intro h|apply gQ)
 all_goals (try (conv=>whnf))
 ·have hi':i < ctx.length:=by omega
  obtain ⟨tc,htc⟩:∃ tc,ctx[i]? = some tc:=⟨_,List.getElem?_eq_getElem hi'⟩
  obtain ⟨v,hv,hl⟩:=hxs.at htc
  have hw:=j0P tc v hl 4 i
  obtain ⟨k1,n1,s1,l1,t1,b1,z1,x1,c1,y1,ys1,-,rfl,-⟩:=hl.open
  rw [jdj htc] at hall
  repeat' ((conv=>whnf);first|apply gN|apply gM<;>intro h|apply gO|refine gV ?_|refine j04 rfl ?_|refine VIdx.mk _ hv ?_|refine VOk.mk (j07 rfl hz) ?_|refine j01 hw rfl rfl ?_)
  all_goals (try (conv=>whnf))
  ·have hr:j0L tc 4 i=true:=by assumption
   rw [hr,Bool.true_and] at hall
   exact VAgain.mk _ rfl _ (j0h rfl rfl rfl) ⟨i + 1,⟨hi',hall⟩,by omega,rfl⟩
  ·have hr:j0L tc 4 i=false:=by assumption
   rw [hr,Bool.false_and] at hall
   rw [← hall]
   rfl
 ·have hl:i=ctx.length:=by omega
  subst hl
  rw [List.drop_length] at hall
  refine j7H rfl rfl ha rfl ?_
  repeat' ((conv=>whnf);first|refine j04 rfl ?_)
  all_goals (try (conv=>whnf))
  refine j1R ?_
  rw [← hall]
  simp [ctxF]
theorem j3K {i:Nat} {f:FuncId} {args args0:List PV} {cs:List PV} {tot l l':Int} {r:AEnd} {st:Sto} {K:AEnd→Sto→Prop} (h:Fr f args0 cs tot l r l') (hw:handed C1 f args st=some (args,st)) (hp:args.all (pur 8)=false) (hπ:(close st 64 (args.flatMap (ids 8)) []).reverse=[i]) (hi:args.all (j0g (fun q=>[i].elem q) 8)=true)
  (hf:fetch (fun q=>place q 0 [i]) (fun q=>[i].elem q) st [i]=some [runB cs tot l]) (ha:args.map (j1a (fun q=>place q 0 [i]) 8)=args0) (hb:jcY (fun j=>Nat.blt j 1) r=true) (k:K (j4V (back [i] st.length) r) (st.set i (runB cs tot l'))):VCall C1 f args st K:=by
 refine j0A hw hp hπ hi hf ha (Finds.mono h ?_)
 rintro _ _ ⟨rfl,rfl⟩
 refine j1K ?_ ?_
 ·simp only [List.length_cons,List.length_nil,Nat.zero_add,hb,Bool.true_and]
  rfl
 ·have e:(st.set i (runB cs tot l')) ++ []=st.set i (runB cs tot l'):=List.append_nil _
  rw [← e] at k
  exact k
theorem j7q {f:FuncId} {args args0:List PV} {st st0 st2:Sto} {r:AEnd} {π:List Nat} {K:AEnd→Sto→Prop} (h:Finds C1 f args0 st0 fun r' s'=>r'=r∧s'=st2) (hw:handed C1 f args st=some (args,st)) (hp:args.all (pur 8)=false) (hπ:(close st 64 (args.flatMap (ids 8)) []).reverse=π) (hi:args.all (j0g (fun q=>π.elem q) 8)=true)
  (hf:fetch (fun q=>place q 0 π) (fun q=>π.elem q) st π=some st0) (ha:args.map (j1a (fun q=>place q 0 π) 8)=args0) (hb:(jcY (fun j=>Nat.blt j st2.length) r && st2.all (soIn fun j=>Nat.blt j st2.length))=true) (k:K (j4V (back π st.length) r) (j1D (back π st.length) π st2 st ++ (st2.drop π.length).map (j3z (back π st.length)))):VCall C1 f args st K:=by
 refine j0A hw hp hπ hi hf ha (Finds.mono h ?_)
 rintro _ _ ⟨rfl,rfl⟩
 exact j1K hb k
def stC (cs:List PV) (tot l:Int) (cv v:PV) (o:SO):Sto:=[.box 28 [.ci [.bp 4 0]],.box 22 [cv],.box 25 v.cells,o,runB cs tot l]
theorem jnh (cs:List PV) (tot l l':Int) (b:Bool) (z:Nat) (xs:List PV) (t:Tm) (v:PV) (h:TmP t v) (x:Tm) (w:PV) (hw:TmP x w) (hf:Fr 71 [.ci [.bp 0 0],.sl b z xs,v] cs tot l (.ret [w]) l'):Finds C1 70 [.bp 0 0,.bp 1 0,.bp 2 0,.bp 3 0] (stC cs tot l (.sl b z xs) v (.box 25 zTm)) fun r st=>r = .ret []∧st=stC cs tot l' (.sl b z xs) v (.box 25 (encT x).cells):=by
 have ha:=j4L x w hw true 0
 obtain ⟨k9,n9,s9,b9,z9,x9,c9,y9,ys9,he9⟩:=j0a x
 rw [he9] at ha ⊢
 obtain ⟨k1,n1,s1,l1,t1,b1,z1,x1,c1,y1,ys1,-,rfl,-⟩:=h.open
 obtain ⟨k2,n2,s2,l2,t2,b2,z2,x2,c2,y2,ys2,-,rfl,-⟩:=hw.open
 refine j00 Tryz.func70 rfl rfl rfl ?_
 repeat' ((conv=>whnf);first|apply gO|refine j03 rfl rfl ?_|refine j3K (i:=4) hf rfl rfl rfl rfl rfl rfl rfl ?_|refine j01 ha rfl rfl ?_)
 all_goals (try (conv=>whnf))
 all_goals exact ⟨rfl,rfl⟩
theorem jnw (cs:List PV) (tot l l' e:Int) (b:Bool) (z:Nat) (xs:List PV) (t:Tm) (v:PV) (h:TmP t v) (hf:Fr 71 [.ci [.bp 0 0],.sl b z xs,v] cs tot l (.pan (j0i e)) l'):Finds C1 70 [.bp 0 0,.bp 1 0,.bp 2 0,.bp 3 0] (stC cs tot l (.sl b z xs) v (.box 25 zTm)) fun r st=>r = .pan (j0i e)∧st=stC cs tot l' (.sl b z xs) v (.box 25 zTm):=by
 obtain ⟨k1,n1,s1,l1,t1,b1,z1,x1,c1,y1,ys1,-,rfl,-⟩:=h.open
 refine j00 Tryz.func70 rfl rfl rfl ?_
 repeat' ((conv=>whnf);first|refine j3K (i:=4) hf rfl rfl rfl rfl rfl rfl rfl ?_)
 all_goals (try (conv=>whnf))
 all_goals exact ⟨rfl,rfl⟩
open Go Go.Am Go.Gw
def stB (cs:List PV) (tot l:Int) (cv v:PV) (o:SO):Sto:=[runB cs tot l,.box 28 [.ci [.bp 0 0]],.box 22 [cv],.box 25 v.cells,o]
def byA (cv:PV) (ts:List PV) (F:FuncId):List PV:=[.ci [.bp 0 0],cv,.sl true 5 ts,.fn F [] [.bp 1 0,.bp 2 0,.bp 3 0,.bp 4 0]]
theorem jfi (cs:List PV) (tot l:Int) (b:Bool) (z:Nat) (xs:List PV) (k1 n1:Int) (s1:List UInt8) (b1:Bool) (z1:Nat) (x1:List PV) (c1:Bool) (y1:Nat) (ys1:List PV) (hfo:Pf C1 98 [.sl b z xs,.sl true 5 [.ag [iv k1,iv n1,sv s1,.sl b1 z1 x1,.sl c1 y1 ys1]]] [bv false]):Finds C1 67 (byA (.sl b z xs) [.ag [iv k1,iv n1,sv s1,.sl b1 z1 x1,.sl c1 y1 ys1]] 70) (stB cs tot l (.sl b z xs) (.ag [iv k1,iv n1,sv s1,.sl b1 z1 x1,.sl c1 y1 ys1]) (.box 25 zTm)) fun r st=>r = .ret [iv 10]∧st=stB cs tot l (.sl b z xs) (.ag [iv k1,iv n1,sv s1,.sl b1 z1 x1,.sl c1 y1 ys1]) (.box 25 zTm):=by
 refine j0F Tryz.func67 rfl rfl rfl ?_
 repeat' ((conv=>whnf);first|refine j01 hfo rfl rfl ?_|refine j0v (j1Z 10) rfl rfl ?_)
 all_goals (try (conv=>whnf))
 refine ⟨_,_,_,_,_,_,rfl,rfl,rfl,rfl,?_⟩
 repeat' ((conv=>whnf);first|apply gT|apply gO|refine j03 rfl rfl ?_|refine j01 (j1g _) rfl rfl ?_)
 all_goals (try (conv=>whnf))
 all_goals exact ⟨rfl,rfl⟩
theorem jkd (cs:List PV) (tot l l' e:Int) (he:¬ e=0) (b:Bool) (z:Nat) (xs:List PV) (k1 n1:Int) (s1:List UInt8) (b1:Bool) (z1:Nat) (x1:List PV) (c1:Bool) (y1:Nat) (ys1:List PV) (hfo:Pf C1 98 [.sl b z xs,.sl true 5 [.ag [iv k1,iv n1,sv s1,.sl b1 z1 x1,.sl c1 y1 ys1]]] [bv true])
  (hc:Finds C1 70 [.bp 0 0,.bp 1 0,.bp 2 0,.bp 3 0] (stC cs tot l (.sl b z xs) (.ag [iv k1,iv n1,sv s1,.sl b1 z1 x1,.sl c1 y1 ys1]) (.box 25 zTm)) fun r st=>r = .pan (j0i e)∧st=stC cs tot l' (.sl b z xs) (.ag [iv k1,iv n1,sv s1,.sl b1 z1 x1,.sl c1 y1 ys1]) (.box 25 zTm)):Finds C1 67 (byA (.sl b z xs) [.ag [iv k1,iv n1,sv s1,.sl b1 z1 x1,.sl c1 y1 ys1]] 70) (stB cs tot l (.sl b z xs) (.ag [iv k1,iv n1,sv s1,.sl b1 z1 x1,.sl c1 y1 ys1]) (.box 25 zTm)) fun r st=>r = .ret [iv e]∧st=stB cs tot l' (.sl b z xs) (.ag [iv k1,iv n1,sv s1,.sl b1 z1 x1,.sl c1 y1 ys1]) (.box 25 zTm):=by
 refine j0F Tryz.func67 rfl rfl rfl ?_
 repeat' ((conv=>whnf);first|refine j01 hfo rfl rfl ?_|refine j01 (j1G 10) rfl rfl ?_|refine j7q hc rfl rfl rfl rfl rfl rfl rfl ?_)
 all_goals (try (conv=>whnf))
 refine ⟨_,_,_,_,_,_,rfl,rfl,rfl,rfl,?_⟩
 repeat' ((conv=>whnf);first|apply gN|refine gB ?_|apply gO|refine j03 rfl rfl ?_|refine j01 (j1g _) rfl rfl ?_)
 all_goals (try (conv=>whnf))
 all_goals first|exact ⟨rfl,rfl⟩|(exfalso; omega)
theorem jk7 (cs:List PV) (tot l l':Int) (k9 n9:Int) (s9:List UInt8) (b9:Bool) (z9:Nat) (x9:List PV) (c9:Bool) (y9:Nat) (ys9:List PV) (b:Bool) (z:Nat) (xs:List PV) (k1 n1:Int) (s1:List UInt8) (b1:Bool) (z1:Nat) (x1:List PV) (c1:Bool) (y1:Nat) (ys1:List PV) (hfo:Pf C1 98 [.sl b z xs,.sl true 5 [.ag [iv k1,iv n1,sv s1,.sl b1 z1 x1,.sl c1 y1 ys1]]] [bv true])
  (hc:Finds C1 70 [.bp 0 0,.bp 1 0,.bp 2 0,.bp 3 0] (stC cs tot l (.sl b z xs) (.ag [iv k1,iv n1,sv s1,.sl b1 z1 x1,.sl c1 y1 ys1]) (.box 25 zTm)) fun r st=>r = .ret []∧st=stC cs tot l' (.sl b z xs) (.ag [iv k1,iv n1,sv s1,.sl b1 z1 x1,.sl c1 y1 ys1]) (.box 25 [iv k9,iv n9,sv s9,.sl b9 z9 x9,.sl c9 y9 ys9])):Finds C1 67 (byA (.sl b z xs) [.ag [iv k1,iv n1,sv s1,.sl b1 z1 x1,.sl c1 y1 ys1]] 70) (stB cs tot l (.sl b z xs) (.ag [iv k1,iv n1,sv s1,.sl b1 z1 x1,.sl c1 y1 ys1]) (.box 25 zTm)) fun r st=>r = .ret [iv 0]∧st=stB cs tot l' (.sl b z xs) (.ag [iv k1,iv n1,sv s1,.sl b1 z1 x1,.sl c1 y1 ys1]) (.box 25 [iv k9,iv n9,sv s9,.sl b9 z9 x9,.sl c9 y9 ys9]):=by
 refine j0F Tryz.func67 rfl rfl rfl ?_
 repeat' ((conv=>whnf);first|apply gO|refine j01 hfo rfl rfl ?_|refine j01 (j1G 10) rfl rfl ?_|refine j7q hc rfl rfl rfl rfl rfl rfl rfl ?_)
 all_goals (try (conv=>whnf))
 refine ⟨_,_,_,_,_,_,rfl,rfl,rfl,rfl,?_⟩
 repeat' ((conv=>whnf);first|apply gF|refine j03 rfl rfl ?_|refine j01 j4k rfl rfl ?_)
 all_goals (try (conv=>whnf))
 all_goals exact ⟨rfl,rfl⟩
theorem j7N (cs:List PV) (tot l l':Int) (b:Bool) (z:Nat) (xs:List PV) (k1 n1:Int) (s1:List UInt8) (b1:Bool) (z1:Nat) (x1:List PV) (c1:Bool) (y1:Nat) (ys1:List PV) (e:Int) (k9 n9:Int) (s9:List UInt8) (b9:Bool) (z9:Nat) (x9:List PV) (c9:Bool) (y9:Nat) (ys9:List PV)
  (hb:Finds C1 67 (byA (.sl b z xs) [.ag [iv k1,iv n1,sv s1,.sl b1 z1 x1,.sl c1 y1 ys1]] 70) (stB cs tot l (.sl b z xs) (.ag [iv k1,iv n1,sv s1,.sl b1 z1 x1,.sl c1 y1 ys1]) (.box 25 zTm)) fun r st=>r = .ret [iv e]∧st=stB cs tot l' (.sl b z xs) (.ag [iv k1,iv n1,sv s1,.sl b1 z1 x1,.sl c1 y1 ys1]) (.box 25 [iv k9,iv n9,sv s9,.sl b9 z9 x9,.sl c9 y9 ys9])) :
  Fr 32 [.ci [.bp 0 0],.sl b z xs,.ag [iv k1,iv n1,sv s1,.sl b1 z1 x1,.sl c1 y1 ys1]] cs tot l (.ret [.ag [iv k9,iv n9,sv s9,.sl b9 z9 x9,.sl c9 y9 ys9],iv e]) l':=by
 refine j00 Tryz.func32 rfl rfl rfl ?_
 repeat' ((conv=>whnf);first|apply gO|refine j03 rfl rfl ?_|refine j7q hb rfl rfl rfl rfl rfl rfl rfl ?_)
 all_goals (try (conv=>whnf))
 all_goals exact ⟨rfl,rfl⟩
theorem jkb:∀ (ctx:List Tm) (i:Int),ctxF ctx i=true→∀ t ∈ ctx,shT t=true
 |[],_,_,_,h=>by cases h
 |a :: r,i,h,t,ht=>by
  rw [ctxF,Bool.and_eq_true] at h
  rcases List.mem_cons.1 ht with rfl|ht
  ·exact j4F h.1
  ·exact jkb r _ h.2 t ht
theorem j2K {ctx ts:List Tm} (h:j1h ctx ts=true) {b:Bool} {z:Nat} {xs:List PV} (hz:z=5∨(xs=[]∧b=true∧z=0)) (hxs:TmsP ctx xs):CtxP ctx (.sl b z xs)∧∀ t ∈ ts,shT t=true∧sizT t ≤ 2000:=by
 unfold j1h at h
 rw [Bool.and_eq_true,Bool.and_eq_true,decide_eq_true_iff] at h
 refine ⟨⟨b,z,xs,rfl,hz,hxs,h.1,jkb ctx _ h.2.1⟩,fun t ht=>?_⟩
 have hr:=List.all_eq_true.1 h.2.2 t ht
 exact ⟨j4F hr,j3I (j3r hr).2.2.1⟩
theorem jlH (E:Nv) (cs:List PV) (hE:NvP E (.cp cs)) (tot:Int) (ht:tot ≤ 1048576) (n:Nat) (ctx:List Tm) (b:Bool) (z:Nat) (xs:List PV) (hz:z=5∨(xs=[]∧b=true∧z=0)) (hxs:TmsP ctx xs) (hbd:ctx.length ≤ 1759218604441) (t:Tm) (v:PV) (h:TmP t v) (l:Int) (r:Except Int Tm) (l':Int) (h0:0 ≤ l) (h1:l ≤ tot) (hx:jg2 E n ctx t l=some (r,l')):(∀ x,r = .ok x→shT x=true∧sizT x ≤ 2000∧TmW x)∧Fr 32 [.ci [.bp 0 0],.sl b z xs,v] cs tot l (.ret (errV r)) l':=by
 have hz':z=5∨xs=[]:=hz.imp_right fun q=>q.1
 have hfo:=j9h ctx [t] b z xs hz' hxs true 5 [v] (.inl rfl) ⟨v,[],rfl,h,rfl⟩ hbd (by simp)
 have hv:=h
 obtain ⟨k1,n1,s1,l1,t1,b1,z1,x1,c1,y1,ys1,-,rfl,-⟩:=h.open
 unfold jg2 at hx
 rcases j0d hx with ⟨e,q1,rfl⟩|⟨u0,la,q1,q2⟩
 ·obtain ⟨rfl,d2⟩:=j1o q1
  rcases d2 with ⟨-,d2⟩|⟨d1,d2⟩
  ·cases d2
  ·cases d2
   rw [d1] at hfo
   exact ⟨fun x hx=>(by cases hx),j7N cs tot l' l' b z xs _ _ _ _ _ _ _ _ _ 10 _ _ _ _ _ _ _ _ _ (jfi cs tot l' b z xs _ _ _ _ _ _ _ _ _ hfo)⟩
 obtain ⟨rfl,d2⟩:=j1o q1
 rcases d2 with ⟨d1,-⟩|⟨-,d2⟩
 rotate_left
 ·cases d2
 rw [d1] at hfo
 obtain ⟨hc,hsh⟩:=j2K d1 hz hxs
 obtain ⟨hs,hf⟩:=T_ok E cs hE tot ht n ctx _ hc t _ hv (hsh t (List.mem_singleton.2 rfl)).1 la r l' h0 h1 q2
 cases r with
 |error e =>
  have he:¬ e=0:=fun e0=>by
   subst e0
   exact (j5B n ctx t).nz _ _ q2
  exact ⟨fun x hx=>(by cases hx),j7N cs tot la l' b z xs _ _ _ _ _ _ _ _ _ e _ _ _ _ _ _ _ _ _ (jkd cs tot la l' e he b z xs _ _ _ _ _ _ _ _ _ hfo (jnw cs tot la l' e b z xs t _ hv hf))⟩
 |ok x =>
  obtain ⟨w,hw,hf⟩:=hf
  refine ⟨fun y hy=>?_,?_⟩
  ·cases hy
   exact ⟨(hs x rfl).1,(hs x rfl).2,hw.w⟩
  ·have ho:=jnh cs tot la l' b z xs t _ hv x w hw hf
   unfold errV
   obtain ⟨k9,n9,s9,b9,z9,x9,c9,y9,ys9,he9⟩:=j0a x
   dsimp only
   rw [he9] at ho ⊢
   exact j7N cs tot la l' b z xs _ _ _ _ _ _ _ _ _ 0 _ _ _ _ _ _ _ _ _ (jk7 cs tot la l' _ _ _ _ _ _ _ _ _ b z xs _ _ _ _ _ _ _ _ _ hfo ho)
open Go Go.Am Go.Gw
def errB (o:Except Int Bool):List PV:=match o with
 | .ok x=>[bv x,iv 0]
 | .error e=>[bv false,iv e]
def errL (o:Except Int Lv):List PV:=match o with
 | .ok x=>[encL x,iv 0]
 | .error e=>[.ag zLv,iv e]
end Go.Proofs.YtljnahbgfmflaaaGreatDoor
