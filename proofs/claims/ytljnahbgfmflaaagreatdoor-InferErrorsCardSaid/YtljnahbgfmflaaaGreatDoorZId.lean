/-
  A term's weak head normal form: Whnf, which recovers. No statement of the seat.
-/
import Derived.Test.YtljnahbgfmflaaaGreatDoorZKz
set_option linter.unusedVariables false
set_option maxHeartbeats 4000000
set_option maxRecDepth 100000
set_option linter.unusedSimpArgs false
set_option linter.unnecessarySimpa false
namespace Go.Proofs.YtljnahbgfmflaaaGreatDoor
open Go Go.Am Go.Gw
theorem jnR {x:Nat}:j0l C1.P .eql 20 (.tmp x) (.const .nilIface) (.sc .nilIface) (.sc .nilIface)=some (bv true):=by kernel_rfl
theorem jo8 {x y:Operand} {t:TypeId} {v:PV}:j0l C1.P .eql 20 x y (.ifc t v) (.sc .nilIface)=some (bv false):=by kernel_rfl
theorem jaf (e:Int) (e0:Int):Finds C1 215 [j1v e,.bp 0 0,.bp 1 0] [.box 25 zTm,.box 30 [iv e0]] fun r st=>r = .ret []∧st=[.box 25 zTm,.box 30 [iv e]]:=by
 refine j00 Tryz.func215 rfl rfl rfl ?_
 repeat' ((conv=>whnf);first|apply gF|apply gO|refine j03 rfl rfl ?_|refine VRes.mk _ jo8 ?_)
 all_goals (try (conv=>whnf))
 all_goals first|exact ⟨rfl,rfl⟩|trace_state
theorem jfJ (k n:Int) (s:List UInt8) (b:Bool) (z:Nat) (xs:List PV) (c:Bool) (y:Nat) (ys:List PV) (e0:Int):Finds C1 215 [.sc .nilIface,.bp 0 0,.bp 1 0] [.box 25 [iv k,iv n,sv s,.sl b z xs,.sl c y ys],.box 30 [iv e0]] fun r st=>r = .ret []∧st=[.box 25 [iv k,iv n,sv s,.sl b z xs,.sl c y ys],.box 30 [iv e0]]:=by
 refine j00 Tryz.func215 rfl rfl rfl ?_
 repeat' ((conv=>whnf);first|apply gT|refine j03 rfl rfl ?_|refine VRes.mk _ jnR ?_)
 all_goals (try (conv=>whnf))
 all_goals exact ⟨rfl,rfl⟩
theorem jmD (cs:List PV) (tot l l':Int) (v:PV) (t:Tm) (h:TmP t v) (x:Tm) (w:PV) (hw:TmP x w) (hf:Fr 185 [.bp 0 0,v] cs tot l (.ret [w]) l'):Fr 184 [v,.ci [.bp 0 0]] cs tot l (.ret [encT x]) l':=by
 have ha:=j4L x w hw true 0
 obtain ⟨k9,n9,s9,b9,z9,x9,c9,y9,ys9,he9⟩:=j0a x
 rw [he9] at ha ⊢
 obtain ⟨k1,n1,s1,l1,t1,b1,z1,x1,c1,y1,ys1,rfl,rfl,-⟩:=h.open
 obtain ⟨k2,n2,s2,l2,t2,b2,z2,x2,c2,y2,ys2,rfl,rfl,-⟩:=hw.open
 refine j00 Tryz.func184 rfl rfl rfl ?_
 repeat' ((conv=>whnf);first|apply gO|refine j03 rfl rfl ?_|refine j02 hf rfl rfl rfl rfl rfl rfl rfl ?_|refine j01 ha rfl rfl ?_)
 all_goals (try (conv=>whnf))
 all_goals exact ⟨rfl,rfl⟩
theorem jn5 (cs:List PV) (tot l l':Int) (v:PV) (t:Tm) (h:TmP t v) (e:Int) (hf:Fr 185 [.bp 0 0,v] cs tot l (.pan (j1v e)) l'):Fr 184 [v,.ci [.bp 0 0]] cs tot l (.pan (j1v e)) l':=by
 obtain ⟨k1,n1,s1,l1,t1,b1,z1,x1,c1,y1,ys1,rfl,rfl,-⟩:=h.open
 refine j00 Tryz.func184 rfl rfl rfl ?_
 repeat' ((conv=>whnf);first|refine j02 hf rfl rfl rfl rfl rfl rfl rfl ?_)
 all_goals (try (conv=>whnf))
 all_goals exact ⟨rfl,rfl⟩
def jn3:PV:=.fn 184 [] [.ci [.bp 0 0]]
theorem j9z {f:FuncId} {g:PV} {i j:Nat} {st:Sto} {s1 s2 s1' s2':SO} {K:AEnd→Sto→Prop} (h:Finds C1 f [g,.bp 0 0,.bp 1 0] [s1,s2] fun r st=>r = .ret []∧st=[s1',s2']) (hw:handed C1 f [g,.bp i 0,.bp j 0] st=some ([g,.bp i 0,.bp j 0],st)) (hπ:(close st 64 ([g,.bp i 0,.bp j 0].flatMap (ids 8)) []).reverse=[i,j]) (hi:[g,.bp i 0,.bp j 0].all (j0g (fun q=>[i,j].elem q) 8)=true)
  (hf:fetch (fun q=>place q 0 [i,j]) (fun q=>[i,j].elem q) st [i,j]=some [s1,s2]) (ha:[g,.bp i 0,.bp j 0].map (j1a (fun q=>place q 0 [i,j]) 8)=[g,.bp 0 0,.bp 1 0]) (h1:soIn (fun q=>Nat.blt q 2) s1'=true) (h2:soIn (fun q=>Nat.blt q 2) s2'=true) (k:K (.ret []) (j1D (back [i,j] st.length) [i,j] [s1',s2'] st)):VCall C1 f [g,.bp i 0,.bp j 0] st K:=by
 refine j0A hw (by simp only [List.all_cons,show pur 8 (.bp i 0)=false from rfl,Bool.false_and,Bool.and_false]) hπ hi hf ha (Finds.mono h ?_)
 rintro _ _ ⟨rfl,rfl⟩
 refine j1K ?_ ?_
 ·simp only [List.length_cons,List.length_nil,List.all_cons,List.all_nil,h1,h2]
  rfl
 ·have e:(j1D (back [i,j] st.length) [i,j] [s1',s2'] st) ++ []=j1D (back [i,j] st.length) [i,j] [s1',s2'] st:=List.append_nil _
  rw [← e] at k
  exact k
theorem jmp (cs:List PV) (tot l:Int) (v:PV) (t:Tm) (h:TmP t v) (hp:jaz t=false):Fr 183 [.bp 0 0,v,jn3] cs tot l (.ret [.ag zTm,iv 10]) l:=by
 obtain ⟨b,z,ys,hk⟩:=j4J t v h
 rw [hp] at hk
 have hc:=jaf 10 0
 obtain ⟨k1,n1,s1,l1,t1,b1,z1,x1,c1,y1,ys1,rfl,rfl,-⟩:=h.open
 refine j0F Tryz.func183 rfl rfl rfl ?_
 repeat' ((conv=>whnf);first|refine j01 hk rfl rfl ?_|refine j0v (j3u 10) rfl rfl ?_)
 all_goals (try (conv=>whnf))
 refine ⟨_,_,_,_,_,_,rfl,rfl,rfl,rfl,?_⟩
 repeat' ((conv=>whnf);first|refine j03 rfl rfl ?_|refine j9z hc rfl rfl rfl rfl rfl rfl rfl ?_)
 all_goals (try (conv=>whnf))
 all_goals exact ⟨rfl,rfl⟩
theorem jpZ (cs:List PV) (tot l l' e:Int) (v:PV) (t:Tm) (h:TmP t v) (hp:jaz t=true) (hf:Fr 184 [v,.ci [.bp 0 0]] cs tot l (.pan (j1v e)) l'):Fr 183 [.bp 0 0,v,jn3] cs tot l (.ret [.ag zTm,iv e]) l':=by
 obtain ⟨b,z,ys,hk⟩:=j4J t v h
 rw [hp] at hk
 have hc:=jaf e 0
 obtain ⟨k1,n1,s1,l1,t1,b1,z1,x1,c1,y1,ys1,rfl,rfl,-⟩:=h.open
 refine j0F Tryz.func183 rfl rfl rfl ?_
 repeat' ((conv=>whnf);first|refine j01 hk rfl rfl ?_|refine j01 (j0R 10) rfl rfl ?_|refine j02 hf rfl rfl rfl rfl rfl rfl rfl ?_)
 all_goals (try (conv=>whnf))
 refine ⟨_,_,_,_,_,_,rfl,rfl,rfl,rfl,?_⟩
 repeat' ((conv=>whnf);first|refine j03 rfl rfl ?_|refine j9z hc rfl rfl rfl rfl rfl rfl rfl ?_)
 all_goals (try (conv=>whnf))
 all_goals exact ⟨rfl,rfl⟩
theorem jq5 (cs:List PV) (tot l l':Int) (v:PV) (t:Tm) (h:TmP t v) (hp:jaz t=true) (x:Tm) (hf:Fr 184 [v,.ci [.bp 0 0]] cs tot l (.ret [encT x]) l'):Fr 183 [.bp 0 0,v,jn3] cs tot l (.ret [encT x,iv 0]) l':=by
 obtain ⟨b,z,ys,hk⟩:=j4J t v h
 rw [hp] at hk
 obtain ⟨k9,n9,s9,b9,z9,x9,c9,y9,ys9,he9⟩:=j0a x
 rw [he9] at hf ⊢
 have hc:=jfJ k9 n9 s9 b9 z9 x9 c9 y9 ys9 0
 obtain ⟨k1,n1,s1,l1,t1,b1,z1,x1,c1,y1,ys1,rfl,rfl,-⟩:=h.open
 refine j0F Tryz.func183 rfl rfl rfl ?_
 repeat' ((conv=>whnf);first|apply gO|refine j01 hk rfl rfl ?_|refine j01 (j0R 10) rfl rfl ?_|refine j02 hf rfl rfl rfl rfl rfl rfl rfl ?_)
 all_goals (try (conv=>whnf))
 refine ⟨_,_,_,_,_,_,rfl,rfl,rfl,rfl,?_⟩
 repeat' ((conv=>whnf);first|refine j03 rfl rfl ?_|refine j9z hc rfl rfl rfl rfl rfl rfl rfl ?_)
 all_goals (try (conv=>whnf))
 all_goals exact ⟨rfl,rfl⟩
theorem j6S {f:FuncId} {args args':List PV} {cs:List PV} {tot l l':Int} {r:AEnd} {st st1:Sto} {K:AEnd→Sto→Prop} (hw:handed C1 f args st=some (args',st1)) (h:Fr f args' cs tot l r l') (hp:args'.all (pur 8)=false) (hπ:(close st1 64 (args'.flatMap (ids 8)) []).reverse=[0]) (hi:args'.all (j0g (fun i=>[0].elem i) 8)=true)
  (hf:fetch (fun i=>place i 0 [0]) (fun i=>[0].elem i) st1 [0]=some [runB cs tot l]) (ha:args'.map (j1a (fun i=>place i 0 [0]) 8)=args') (hb:jcY (fun j=>Nat.blt j 1) r=true) (k:K (j4V (back [0] st1.length) r) (st1.set 0 (runB cs tot l'))):VCall C1 f args st K:=by
 refine j0A hw hp hπ hi hf ha (Finds.mono h ?_)
 rintro _ _ ⟨rfl,rfl⟩
 refine j1K ?_ ?_
 ·simp only [List.length_cons,List.length_nil,Nat.zero_add,hb,Bool.true_and]
  rfl
 ·have e:(st1.set 0 (runB cs tot l')) ++ []=st1.set 0 (runB cs tot l'):=List.append_nil _
  rw [← e] at k
  exact k
theorem j9C (cs:List PV) (tot l l':Int) (v:PV) (t:Tm) (h:TmP t v) (x:Tm) (e:Int) (hf:Fr 183 [.bp 0 0,v,jn3] cs tot l (.ret [encT x,iv e]) l'):Fr 138 [.bp 0 0,v] cs tot l (.ret [encT x,iv e]) l':=by
 obtain ⟨k9,n9,s9,b9,z9,x9,c9,y9,ys9,he9⟩:=j0a x
 rw [he9] at hf ⊢
 obtain ⟨k1,n1,s1,l1,t1,b1,z1,x1,c1,y1,ys1,-,rfl,-⟩:=h.open
 refine j00 Tryz.func138 rfl rfl rfl ?_
 skip
 all_goals (try (conv=>whnf))
 refine j6S (st1:=[runB cs tot l,.frz [.bp 0 0],.box 25 [iv k1,iv n1,sv s1,.sl b1 z1 x1,.sl c1 y1 ys1],.box 25 zTm]) rfl hf rfl rfl rfl rfl rfl rfl ?_
 repeat' ((conv=>whnf);first|apply gO|refine j03 rfl rfl ?_)
 all_goals (try (conv=>whnf))
 all_goals exact ⟨rfl,rfl⟩
theorem j6y (E:Nv) (cs:List PV) (hE:NvP E (.cp cs)) (tot:Int) (ht:tot ≤ 1048576) (n:Nat) (t:Tm) (v:PV) (h:TmP t v) (l:Int) (r:Except Int Tm) (l':Int) (h0:0 ≤ l) (h1:l ≤ tot) (hx:ja8 E n t l=some (r,l')):(∀ x,r = .ok x→shT x=true∧sizT x ≤ 2000∧TmW x)∧Fr 138 [.bp 0 0,v] cs tot l (.ret (errV r)) l':=by
 unfold ja8 at hx
 rcases j0d hx with ⟨e,q1,rfl⟩|⟨u0,la,q1,q2⟩
 ·obtain ⟨rfl,d2⟩:=j1o q1
  rcases d2 with ⟨-,d2⟩|⟨d1,d2⟩
  ·cases d2
  ·cases d2
   exact ⟨fun x hx=>(by cases hx),j9C cs tot l' l' v t h tz 10 (jmp cs tot l' v t h d1)⟩
 ·obtain ⟨rfl,d2⟩:=j1o q1
  rcases d2 with ⟨d1,-⟩|⟨-,d2⟩
  rotate_left
  ·cases d2
  have hp:j0L t 4 1099511627776=true:=by
   have:=d1
   unfold jaz at this
   rw [Bool.and_eq_true] at this
   exact this.1
  obtain ⟨hs,hf⟩:=jmT E cs hE tot ht n t v h (j4F hp) (j3I (j3r hp).2.2.1) la r l' h0 h1 q2
  cases r with
  |error e =>
   exact ⟨fun x hx=>(by cases hx),j9C cs tot la l' v t h tz e (jpZ cs tot la l' e v t h d1 (jn5 cs tot la l' v t h e hf))⟩
  |ok x =>
   obtain ⟨w,hw,hf⟩:=hf
   refine ⟨fun y hy=>?_,j9C cs tot la l' v t h x 0 (jq5 cs tot la l' v t h d1 x (jmD cs tot la l' v t h x w hw hf))⟩
   cases hy
   exact ⟨(hs x rfl).1,(hs x rfl).2,hw.w⟩
open Go Go.Am Go.Gw
def j0i (e:Int):PV:=.ifc 142 (.ag [iv e])
theorem j1G (e:Int):Pf C1 97 [bv true,iv e] []:=by
 refine j00 Tryz.func97 rfl rfl rfl ?_
 repeat' ((conv=>whnf);first|apply gF|refine j04 rfl ?_)
 all_goals (try (conv=>whnf))
 all_goals rfl
theorem j1Z (e:Int):Finds C1 97 [bv false,iv e] [] fun r _=>r = .pan (j0i e):=by
 refine j00 Tryz.func97 rfl rfl rfl ?_
 repeat' ((conv=>whnf);first|refine VIf.tt rfl ?_)
 all_goals (try (conv=>whnf))
 all_goals rfl
theorem jl1 (t:Tm) (v:PV) (h:TmP t v):Pf C1 110 [v,iv 0] [v]:=by
 obtain ⟨k1,n1,s1,l1,t1,b1,z1,x1,c1,y1,ys1,rfl,rfl,-⟩:=h.open
 refine j00 Tryz.func110 rfl rfl rfl ?_
 repeat' ((conv=>whnf);first|apply gO|refine j04 rfl ?_|refine j01 (j1G 0) rfl rfl ?_)
 all_goals (try (conv=>whnf))
 all_goals first|rfl|(exfalso; omega)
theorem jlx (t:Tm) (v:PV) (h:TmP t v) (e:Int) (he:¬ e=0):Finds C1 110 [v,iv e] [] fun r _=>r = .pan (j0i e):=by
 have hn:Finds C1 97 [bv (decide (e=0)),iv e] [] fun r _=>r = .pan (j0i e):=by
  rw [decide_eq_false he]
  exact j1Z e
 obtain ⟨k1,n1,s1,l1,t1,b1,z1,x1,c1,y1,ys1,rfl,rfl,-⟩:=h.open
 refine j00 Tryz.func110 rfl rfl rfl ?_
 repeat' ((conv=>whnf);first|refine j0v hn rfl rfl ?_)
 all_goals (try (conv=>whnf))
 all_goals rfl
theorem joP (t:Tm) (v:PV) (h:TmP t v) (hn:j0x t ≤ 2000):Pf C1 105 [v,bv true] [v]:=by
 have h1:=j1A t v h
 have h2:Pf C1 97 [bv (decide (j0x t ≤ 2000)),iv 15] []:=by
  rw [decide_eq_true hn]
  exact j1G 15
 obtain ⟨k1,n1,s1,l1,t1,b1,z1,x1,c1,y1,ys1,rfl,rfl,-⟩:=h.open
 refine j00 Tryz.func105 rfl rfl rfl ?_
 repeat' ((conv=>whnf);first|apply gT|apply gO|refine j04 rfl ?_|refine j01 h1 rfl rfl ?_|refine j01 h2 rfl rfl ?_)
 all_goals (try (conv=>whnf))
 all_goals rfl
theorem jme (t:Tm) (v:PV) (h:TmP t v) (hn:¬ j0x t ≤ 2000):Finds C1 105 [v,bv true] [] fun r _=>r = .pan (j0i 15):=by
 have h1:=j1A t v h
 have h2:Finds C1 97 [bv (decide (j0x t ≤ 2000)),iv 15] [] fun r _=>r = .pan (j0i 15):=by
  rw [decide_eq_false hn]
  exact j1Z 15
 obtain ⟨k1,n1,s1,l1,t1,b1,z1,x1,c1,y1,ys1,rfl,rfl,-⟩:=h.open
 refine j00 Tryz.func105 rfl rfl rfl ?_
 repeat' ((conv=>whnf);first|apply gT|refine j01 h1 rfl rfl ?_|refine j0v h2 rfl rfl ?_)
 all_goals (try (conv=>whnf))
 all_goals rfl
theorem jp2 (t:Tm) (v:PV) (h:TmP t v):Finds C1 105 [v,bv false] [] fun r _=>r = .pan (j0i 15):=by
 obtain ⟨k1,n1,s1,l1,t1,b1,z1,x1,c1,y1,ys1,rfl,rfl,-⟩:=h.open
 refine j00 Tryz.func105 rfl rfl rfl ?_
 repeat' ((conv=>whnf);first|apply gF|refine j0v (j1Z 15) rfl rfl ?_)
 all_goals (try (conv=>whnf))
 all_goals rfl
theorem jkT (l:Lv) (v:PV) (h:LvP l v) (hr:j0w l 4=true):Pf C1 108 [v] [v]:=by
 have h1:=j2c l v h 4
 rw [hr] at h1
 obtain ⟨k1,n1,l1,b1,z1,x1,rfl,rfl,-⟩:=h.open
 refine j00 Tryz.func108 rfl rfl rfl ?_
 repeat' ((conv=>whnf);first|apply gO|refine j04 rfl ?_|refine j01 h1 rfl rfl ?_|refine j01 (j1G 15) rfl rfl ?_)
 all_goals (try (conv=>whnf))
 all_goals rfl
theorem jkg (l:Lv) (v:PV) (h:LvP l v) (hr:j0w l 4=false):Finds C1 108 [v] [] fun r _=>r = .pan (j0i 15):=by
 have h1:=j2c l v h 4
 rw [hr] at h1
 obtain ⟨k1,n1,l1,b1,z1,x1,rfl,rfl,-⟩:=h.open
 refine j00 Tryz.func108 rfl rfl rfl ?_
 repeat' ((conv=>whnf);first|refine j01 h1 rfl rfl ?_|refine j0v (j1Z 15) rfl rfl ?_)
 all_goals (try (conv=>whnf))
 all_goals rfl
theorem j7f (cs:List PV) (tot l:Int) (h1:1 ≤ l) (h2:l ≤ tot) (h3:tot ≤ 1048576):Fr 99 [.ci [.bp 0 0]] cs tot l (.ret []) (l - 1):=by
 have hs:=jci cs tot l h1 h2 h3
 refine j00 Tryz.func99 rfl rfl rfl ?_
 repeat' ((conv=>whnf);first|refine j03 rfl rfl ?_|refine j02 hs rfl rfl rfl rfl rfl rfl rfl ?_|refine j01 (j1G 22) rfl rfl ?_)
 all_goals (try (conv=>whnf))
 all_goals exact ⟨rfl,rfl⟩
theorem j8A (cs:List PV) (tot l:Int) (h1:l < 1):Fr 99 [.ci [.bp 0 0]] cs tot l (.pan (j0i 22)) l:=by
 have hs:=jcJ cs tot l h1
 refine j00 Tryz.func99 rfl rfl rfl ?_
 repeat' ((conv=>whnf);first|refine j02 hs rfl rfl rfl rfl rfl rfl rfl ?_|refine j0v (j1Z 22) rfl rfl ?_)
 all_goals (try (conv=>whnf))
 all_goals exact ⟨rfl,rfl⟩
def CtxP (ctx:List Tm) (v:PV):Prop:=∃ b z xs,v = .sl b z xs∧(z=5∨(xs=[]∧b=true∧z=0))∧TmsP ctx xs∧ctx.length ≤ 64∧∀ t ∈ ctx,shT t=true
theorem jp5 (ctx:List Tm) (cv:PV) (hc:CtxP ctx cv) (t:Tm) (v:PV) (h:TmP t v) (hs:shT t=true) (hl:ctx.length < 64):∃ w,CtxP (ctx ++ [t]) w∧Pf C1 115 [cv,v] [w]:=by
 obtain ⟨b,z,xs,rfl,hz,hxs,h64,hsh⟩:=hc
 have hlen:=hxs.len
 have hn:Pf C1 97 [bv (decide ((xs.length:Int) < 64)),iv 15] []:=by
  rw [decide_eq_true (by omega)]
  exact j1G 15
 refine ⟨.sl false 5 (xs ++ [v]),⟨_,_,_,rfl,.inl rfl,hxs.append ⟨v,[],rfl,h,rfl⟩,by simp; omega,fun x hx=>?_⟩,?_⟩
 ·rcases List.mem_append.1 hx with hx|hx
  ·exact hsh x hx
  ·rw [List.mem_singleton.1 hx]
   exact hs
 ·have hp6:(xs ++ [v]).all (pur 6)=true:=(hxs.append ⟨v,[],rfl,h,rfl⟩:TmsP (ctx ++ [t]) _).pure6
  obtain ⟨k1,n1,s1,l1,t1,b1,z1,x1,c1,y1,ys1,rfl,rfl,-⟩:=h.open
  have ho1:(xs.length.ble xs.length && Nat.ble 0 xs.length)=true:=by simp
  have ho2:Nat.beq xs.length xs.length=true:=by simp
  rcases hz with rfl|⟨rfl,rfl,rfl⟩
  ·refine j00 Tryz.func115 rfl rfl rfl ?_
   repeat' ((conv=>whnf);first|apply gO|apply gQ|refine j01 hn rfl rfl ?_|refine VOk.mk ho1 ?_|refine VOk.mk ho2 ?_|refine VOk.mk (jbG (w:=80) (r:=140737488355328) rfl rfl rfl (by simp; omega) (by simp; omega)) ?_)
   all_goals (try (conv=>whnf))
   have hx:(xs.take xs.length).drop 0 ++ [.ag [iv k1,iv n1,sv s1,.sl b1 z1 x1,.sl c1 y1 ys1]]=xs ++ [.ag [iv k1,iv n1,sv s1,.sl b1 z1 x1,.sl c1 y1 ys1]]:=by rw [List.take_length]; rfl
   refine j0s rfl (j08 (j0E rfl (by simp) (by rw [← hx] at hp6; exact hp6)) j0n) rfl ?_
   rw [← hx]
   rfl
  ·refine j00 Tryz.func115 rfl rfl rfl ?_
   repeat' ((conv=>whnf);first|apply gO|apply gQ|refine j01 hn rfl rfl ?_)
   all_goals (try (conv=>whnf))
   exact j0s rfl (j08 (j0E rfl rfl hp6) j0n) rfl rfl
theorem joN (ctx:List Tm) (cv:PV) (hc:CtxP ctx cv) (t:Tm) (v:PV) (h:TmP t v) (hl:¬ ctx.length < 64):Finds C1 115 [cv,v] [] fun r _=>r = .pan (j0i 15):=by
 obtain ⟨b,z,xs,rfl,hz,hxs,h64,hsh⟩:=hc
 have hlen:=hxs.len
 have hn:Finds C1 97 [bv (decide ((xs.length:Int) < 64)),iv 15] [] fun r _=>r = .pan (j0i 15):=by
  rw [decide_eq_false (by omega)]
  exact j1Z 15
 obtain ⟨k1,n1,s1,l1,t1,b1,z1,x1,c1,y1,ys1,rfl,rfl,-⟩:=h.open
 refine j00 Tryz.func115 rfl rfl rfl ?_
 repeat' ((conv=>whnf);first|refine j0v hn rfl rfl ?_)
 all_goals (try (conv=>whnf))
 all_goals rfl
theorem j1Y (o:Option Tm) (wo:PV) (h:TmP (o.getD tz) wo) {l l':Int} {r:Except Int Tm} (hx:j4b o l=some (r,l')):l'=l∧match r with
  | .ok x=>o=some x∧sizT x ≤ 2000∧Pf C1 105 [wo,bv o.isSome] [wo]
  | .error e=>e=15∧Finds C1 105 [wo,bv o.isSome] [] fun r _=>r = .pan (j0i 15):=by
 cases o with
 |none =>
  cases hx
  exact ⟨rfl,rfl,jp2 _ _ h⟩
 |some x =>
  simp only [j4b,bnd,optF,mok] at hx
  by_cases hn:j0x x ≤ 2000
  ·rw [decide_eq_true hn] at hx
   cases hx
   exact ⟨rfl,rfl,j3I hn,joP _ _ h hn⟩
  ·rw [decide_eq_false hn] at hx
   cases hx
   exact ⟨rfl,rfl,jme _ _ h hn⟩
theorem jcI (lv:Lv) (v:PV) (h:LvP lv v) {l l':Int} {r:Except Int Lv} (hx:j5S lv l=some (r,l')):l'=l∧match r with
  | .ok x=>x=lv∧j0w lv 4=true∧Pf C1 108 [v] [v]
  | .error e=>e=15∧Finds C1 108 [v] [] fun r _=>r = .pan (j0i 15):=by
 unfold j5S at hx
 cases hr:j0w lv 4 with
 |true =>
  rw [hr] at hx
  cases hx
  exact ⟨rfl,rfl,rfl,jkT _ _ h hr⟩
 |false =>
  rw [hr] at hx
  cases hx
  exact ⟨rfl,rfl,jkg _ _ h hr⟩
theorem j2w (ctx:List Tm) (cv:PV) (hc:CtxP ctx cv) (t:Tm) (v:PV) (h:TmP t v) (hs:shT t=true) {l l':Int} {r:Except Int (List Tm)} (hx:j7u ctx t l=some (r,l')):l'=l∧match r with
  | .ok c2=>c2=ctx ++ [t]∧∃ w,CtxP c2 w∧Pf C1 115 [cv,v] [w]
  | .error e=>e=15∧Finds C1 115 [cv,v] [] fun r _=>r = .pan (j0i 15):=by
 unfold j7u at hx
 by_cases hl:ctx.length < 64
 ·rw [decide_eq_true hl] at hx
  cases hx
  exact ⟨rfl,rfl,jp5 _ _ hc _ _ h hs hl⟩
 ·rw [decide_eq_false hl] at hx
  cases hx
  exact ⟨rfl,rfl,joN _ _ hc _ _ h hl⟩
open Go Go.Am Go.Gw
def CrT (f:FuncId) (args cs:List PV) (tot l:Int) (r:Except Int Tm) (l':Int):Prop:=match r with
 | .ok x=>∃ w,TmP x w∧Fr f args cs tot l (.ret [w]) l'
 | .error e=>Fr f args cs tot l (.pan (j0i e)) l'
def CrL (f:FuncId) (args cs:List PV) (tot l:Int) (r:Except Int Lv) (l':Int):Prop:=match r with
 | .ok x=>∃ w,LvP x w∧Fr f args cs tot l (.ret [w]) l'
 | .error e=>Fr f args cs tot l (.pan (j0i e)) l'
def WOk (cs:List PV) (tot:Int) (W:Tm→M Tm):Prop:=∀ t v,TmP t v→∀ l r l',0 ≤ l→l ≤ tot→W t l=some (r,l')→(∀ x,r = .ok x→shT x=true∧sizT x ≤ 2000)∧CrT 102 [.ci [.bp 0 0],v] cs tot l r l'
def jax (cs:List PV) (tot:Int) (T:List Tm→Tm→M Tm):Prop:=∀ ctx cv,CtxP ctx cv→∀ t v,TmP t v→shT t=true→∀ l r l',0 ≤ l→l ≤ tot→T ctx t l=some (r,l')→(∀ x,r = .ok x→shT x=true∧sizT x ≤ 2000)∧CrT 71 [.ci [.bp 0 0],cv,v] cs tot l r l'
def jnH (cs:List PV) (tot:Int) (T:List Tm→Tm→M Lv):Prop:=∀ ctx cv,CtxP ctx cv→∀ t v,TmP t v→shT t=true→∀ l r l',0 ≤ l→l ≤ tot→T ctx t l=some (r,l')→CrL 75 [.ci [.bp 0 0],cv,v] cs tot l r l'
theorem jdd {cs:List PV} {tot:Int} (ht:tot ≤ 1048576) {W:Tm→M Tm} {T:List Tm→Tm→M Tm} (hW:WOk cs tot W) (hT:jax cs tot T) (fW:∀ t,Fine (W t)) (fT:∀ c t,Fine (T c t)):jnH cs tot (sortB W T):=by
 intro ctx cv hc t v h hs l r l' h0 h1 hx
 have hc':=hc
 obtain ⟨b,z,xs,rfl,-⟩:=hc'
 have h':=h
 obtain ⟨k1,n1,s1,l1,t1,b1,z1,x1,c1,y1,ys1,-,rfl,-⟩:=h'.open
 unfold sortB at hx
 rcases j0d hx with ⟨e,q1,rfl⟩|⟨u0,la,q1,q2⟩
 ·rcases j0Z q1 with ⟨a1,a2,a3⟩|⟨a1,a2,a3⟩
  ·cases a3
  ·cases a3
   subst a2
   have hk:=j8A cs tot l' a1
   show Fr _ _ _ _ _ (.pan (j0i 22)) l'
   refine j00 Tryz.func75 rfl rfl rfl ?_
   repeat' ((conv=>whnf);first|refine j02 hk rfl rfl rfl rfl rfl rfl rfl ?_)
   all_goals (try (conv=>whnf))
   all_goals exact ⟨rfl,rfl⟩
 rcases j0Z q1 with ⟨a1,a2,a3⟩|⟨a1,a2,a3⟩
 rotate_left
 ·cases a3
 subst a2
 have hk:=j7f cs tot l a1 h1 ht
 rcases j0d q2 with ⟨e,q3,rfl⟩|⟨y,lb,q3,q4⟩
 ·obtain ⟨-,hf⟩:=hT ctx _ hc t _ h hs (l - 1) _ l' (by omega) (by omega) q3
  have hf:Fr _ _ _ _ _ (.pan (j0i e)) l':=hf
  show Fr _ _ _ _ _ (.pan (j0i e)) l'
  refine j00 Tryz.func75 rfl rfl rfl ?_
  repeat' ((conv=>whnf);first|refine j02 hk rfl rfl rfl rfl rfl rfl rfl ?_|refine j02 hf rfl rfl rfl rfl rfl rfl rfl ?_)
  all_goals (try (conv=>whnf))
  all_goals exact ⟨rfl,rfl⟩
 obtain ⟨hy,wy,hwy,hf⟩:=hT ctx _ hc t _ h hs (l - 1) _ lb (by omega) (by omega) q3
 have hlb:=(fT ctx t).dn (l - 1) _ lb (by omega) q3
 obtain ⟨k2,n2,s2,l2,t2,b2,z2,x2,c2,y2,ys2,-,rfl,-⟩:=hwy.open
 rcases j0d q4 with ⟨e,q5,rfl⟩|⟨s,lc,q5,q6⟩
 ·obtain ⟨-,hg⟩:=hW y _ hwy lb _ l' (by omega) (by omega) q5
  have hg:Fr _ _ _ _ _ (.pan (j0i e)) l':=hg
  show Fr _ _ _ _ _ (.pan (j0i e)) l'
  refine j00 Tryz.func75 rfl rfl rfl ?_
  repeat' ((conv=>whnf);first|refine j02 hk rfl rfl rfl rfl rfl rfl rfl ?_|refine j02 hf rfl rfl rfl rfl rfl rfl rfl ?_|refine j02 hg rfl rfl rfl rfl rfl rfl rfl ?_)
  all_goals (try (conv=>whnf))
  all_goals exact ⟨rfl,rfl⟩
 obtain ⟨hs2,ws,hws,hg⟩:=hW y _ hwy lb _ lc (by omega) (by omega) q5
 obtain ⟨k3,n3,s3,l3,t3,b3,z3,x3,c3,y3,ys3,e3,rfl,hz3,hx3,-⟩:=hws.open
 subst e3
 have ek:(Tm.mk k3 n3 s3 l3 t3).kind=k3:=rfl
 rw [ek] at q6
 by_cases hk3:k3=2
 ·rw [decide_eq_true hk3] at q6
  cases q6
  have hln:l3.length=1:=by
   have:=(j0q (hs2 _ rfl).1).2.2.2.1 (by omega)
   subst hk3
   have e:j0H 2=1:=rfl
   omega
  obtain ⟨vl,hvl,hl⟩:=hx3.at (show l3[0]? = some (l3.getD 0 (.mk 0 0 [])) by rw [List.getD_eq_getElem?_getD,List.getElem?_eq_getElem (by omega)]; rfl)
  refine ⟨vl,hl,?_⟩
  obtain ⟨k4,n4,l4,b4,z4,x4,-,rfl,-⟩:=hl.open
  have hn:Pf C1 97 [bv (decide (k3=2)),iv 19] []:=by
   rw [decide_eq_true hk3]
   exact j1G 19
  refine j00 Tryz.func75 rfl rfl rfl ?_
  repeat' ((conv=>whnf);first|apply gO|apply gQ|refine j03 rfl rfl ?_|refine j02 hk rfl rfl rfl rfl rfl rfl rfl ?_|refine j02 hf rfl rfl rfl rfl rfl rfl rfl ?_|refine j02 hg rfl rfl rfl rfl rfl rfl rfl ?_|refine j01 hn rfl rfl ?_|refine VIdx.mk _ hvl ?_|refine VOk.mk (j07 rfl hz3) ?_)
  all_goals (try (conv=>whnf))
  all_goals exact ⟨rfl,rfl⟩
 ·rw [decide_eq_false hk3] at q6
  cases q6
  have hn:Finds C1 97 [bv (decide (k3=2)),iv 19] [] fun r _=>r = .pan (j0i 19):=by
   rw [decide_eq_false hk3]
   exact j1Z 19
  show Fr _ _ _ _ _ (.pan (j0i 19)) _
  refine j00 Tryz.func75 rfl rfl rfl ?_
  repeat' ((conv=>whnf);first|apply gO|refine j02 hk rfl rfl rfl rfl rfl rfl rfl ?_|refine j02 hf rfl rfl rfl rfl rfl rfl rfl ?_|refine j02 hg rfl rfl rfl rfl rfl rfl rfl ?_|refine j0v hn rfl rfl ?_)
  all_goals (try (conv=>whnf))
  all_goals exact ⟨rfl,rfl⟩
open Go Go.Am Go.Gw
def typK (E:Nv) (W:Tm→M Tm) (T:List Tm→Tm→M Tm) (ctx:List Tm) (t:Tm):M Tm :=
 if t.kind=1 then bnd (j2O (decide (t.num < ctx.length)) 10) fun _=>j4b (j5H (ctx.getD ((ctx.length:Int) - 1 - t.num).toNat tz) (t.num + 1) 0)
 else if t.kind=2 then bnd (j5S (jfv t.lv)) fun l=>mok (jcE l)
 else if t.kind=3 then exF (typeAt E t.name t.levels)
 else if t.kind=4 then bnd (T ctx (t.arg 0)) fun y=>bnd (W y) fun f=>bnd (j2O (decide (f.kind=6)) 20) fun _=>j4b (InstF (f.arg 1) [t.arg 1])
 else if t.kind=5 then bnd (j7u ctx (t.arg 0)) fun c2=>bnd (T c2 (t.arg 1)) fun b=>j4b (some (overR 6 [t.arg 0] b))
 else if t.kind=6 then bnd (sortB W T ctx (t.arg 0)) fun l=>bnd (j7u ctx (t.arg 0)) fun c2=>bnd (sortB W T c2 (t.arg 1)) fun m=>bnd (j5S (j7I l m)) fun x=>mok (jcE x)
 else bnd (j4b (InstF (t.arg 2) [t.arg 1])) fun x=>T ctx x
theorem jp9 (E:Nv) (W:Tm→M Tm) (T:List Tm→Tm→M Tm) (ctx:List Tm) (t:Tm):typB E W T ctx t=bnd j4p fun _=>typK E W T ctx t:=rfl
def j3X (cs:List PV) (tot l:Int) (cv v:PV) (r:Except Int Tm) (l':Int):Prop:=(∀ x,r = .ok x→shT x=true∧sizT x ≤ 2000)∧CrT 71 [.ci [.bp 0 0],cv,v] cs tot l r l'
theorem j2i {cs:List PV} {tot l:Int} {cv v:PV} {e l':Int} (h:Fr 71 [.ci [.bp 0 0],cv,v] cs tot l (.pan (j0i e)) l'):j3X cs tot l cv v (.error e) l':=⟨fun x hx=>(by cases hx),h⟩
theorem jfO {cs:List PV} {tot l:Int} {cv v:PV} {x:Tm} {w:PV} {l':Int} (h1:shT x=true) (h2:sizT x ≤ 2000) (hw:TmP x w) (h:Fr 71 [.ci [.bp 0 0],cv,v] cs tot l (.ret [w]) l'):j3X cs tot l cv v (.ok x) l':=⟨fun x hx=>(by cases hx; exact ⟨h1,h2⟩),w,hw,h⟩
theorem jhQ {cs:List PV} {tot:Int} (E:Nv) (W:Tm→M Tm) (T:List Tm→Tm→M Tm) (ctx:List Tm) (cv:PV) (hc:CtxP ctx cv) (t:Tm) (v:PV) (h:TmP t v) (hs:shT t=true) (l:Int) (hk:Fr 99 [.ci [.bp 0 0]] cs tot l (.ret []) (l - 1)) (hkind:t.kind=1) (r:Except Int Tm) (l':Int) (hx:typK E W T ctx t (l - 1)=some (r,l')):j3X cs tot l cv v r l':=by
 unfold typK at hx
 rw [if_pos hkind] at hx
 have hn0:=jjS hs hkind
 have h':=h
 obtain ⟨k1,n1,s1,l1,t1,b1,z1,x1,c1,y1,ys1,rfl,rfl,-⟩:=h'.open
 obtain ⟨b,z,xs,rfl,hz,hxs,h64,hsh⟩:=hc
 have hlen:=hxs.len
 have hz':z=5∨xs=[]:=hz.imp id (·.1)
 simp only [Tm.kind,Tm.num] at hkind hn0 hx
 rcases j0d hx with ⟨e,q1,rfl⟩|⟨u0,la,q1,q2⟩
 ·obtain ⟨rfl,d2⟩:=j1o q1
  rcases d2 with ⟨-,d2⟩|⟨d1,d2⟩
  ·cases d2
  ·cases d2
   have hn:Finds C1 97 [bv (decide (n1 < (xs.length:Int))),iv 10] [] fun r _=>r = .pan (j0i 10):=by
    have:=of_decide_eq_false d1
    rw [decide_eq_false (by omega)]
    exact j1Z 10
   refine j2i ?_
   refine j00 Tryz.func71 rfl rfl rfl ?_
   repeat' ((conv=>whnf);first|refine gA ?_|refine j02 hk rfl rfl rfl rfl rfl rfl rfl ?_|refine j0v hn rfl rfl ?_)
   all_goals (try (conv=>whnf))
   all_goals first|exact ⟨rfl,rfl⟩|(exfalso; omega)
 ·obtain ⟨rfl,d2⟩:=j1o q1
  rcases d2 with ⟨d1,-⟩|⟨-,d2⟩
  rotate_left
  ·cases d2
  have hlt:=of_decide_eq_true d1
  have hn:Pf C1 97 [bv (decide (n1 < (xs.length:Int))),iv 10] []:=by
   rw [decide_eq_true (by omega)]
   exact j1G 10
  obtain ⟨i,hi⟩:∃ i:Nat,(ctx.length:Int) - 1 - n1=i:=⟨((ctx.length:Int) - 1 - n1).toNat,by omega⟩
  have hil:i < ctx.length:=by omega
  have ei:((i:Int)).toNat=i:=by simp
  rw [hi,ei] at q2
  obtain ⟨va,hva,ha⟩:=hxs.at (getD_at (ts:=ctx) (i:=i) hil)
  have hL:=jg1 _ va ha (n1 + 1) 0
  have hoW:TmW ((j5H (ctx.getD i tz) (n1 + 1) 0).getD tz):=j5Q fun x hx=>jhi ha.w hx
  rw [j4r] at hL
  have hoS:∀ x,j5H (ctx.getD i tz) (n1 + 1) 0=some x→shT x=true:=fun x hx=>jgR hx
  generalize j5H (ctx.getD i tz) (n1 + 1) 0=o at *
  obtain ⟨rfl,hf⟩:=j1Y o _ hoW q2
  have hI:((xs.length:Int) - 1 - n1)=Int.ofNat i:=by rw [hlen]; exact hi
  obtain ⟨k2,n2,s2,l2,t2,b2,z2,x2,c2,y2,ys2,-,rfl,-⟩:=ha.open
  unfold TmW at hoW
  obtain ⟨k9,n9,s9,b9,z9,x9,c9,y9,ys9,he9⟩:=j0a (o.getD tz)
  rw [he9] at hL hf hoW
  cases r with
  |error e =>
   obtain ⟨rfl,hf⟩:=hf
   refine j2i ?_
   refine j00 Tryz.func71 rfl rfl rfl ?_
   repeat' ((conv=>whnf);first|refine gA ?_|apply gO|apply gP|refine gV ?_|refine j02 hk rfl rfl rfl rfl rfl rfl rfl ?_|refine j01 hn rfl rfl ?_|refine VNat.mk i hI ?_|refine VIdx.mk _ hva ?_|refine VOk.mk (j07 rfl hz') ?_|refine j05 hL (fun _=>?_)|refine j0Y hf (fun _=>?_)|apply gK)
   all_goals (try (conv=>whnf))
   all_goals first|exact ⟨rfl,rfl⟩|(exfalso; omega)
  |ok x =>
   obtain ⟨rfl,hzx,hf⟩:=hf
   refine jfO (hoS _ rfl) hzx hoW ?_
   refine j00 Tryz.func71 rfl rfl rfl ?_
   repeat' ((conv=>whnf);first|refine gA ?_|apply gO|apply gP|refine gV ?_|refine j03 rfl rfl ?_|refine j02 hk rfl rfl rfl rfl rfl rfl rfl ?_|refine j01 hn rfl rfl ?_|refine VNat.mk i hI ?_|refine VIdx.mk _ hva ?_|refine VOk.mk (j07 rfl hz') ?_|refine j05 hL (fun _=>?_)|refine j05 hf (fun _=>?_)|apply gK)
   all_goals (try (conv=>whnf))
   all_goals first|exact ⟨rfl,rfl⟩|(exfalso; omega)
end Go.Proofs.YtljnahbgfmflaaaGreatDoor
