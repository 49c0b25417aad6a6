/- Types that are held against each other (package infer): types of functions, values that are named; all. -/
import Derived.Test.YtbnodhcijeaceaaGreatDoorZQd
import Derived.Test.YtbnodhcijeaceaaGreatDoorZQt
set_option linter.all false
set_option maxHeartbeats 30000000
set_option maxRecDepth 1000000
namespace Go.Proofs.YtbnodhcijeaceaaGreatDoor
open Go Go.Am Go.Gw
section
variable{E:Nv}{cs:List PV}{tot:Int}{n:Nat}{I:List Tm→Tm→M Tm}
theorem jlT(x:Lv)(v:PV)(h:LvP x v):Pf C1 106 [v,iv 4] [bv (j0m x 4)]:=j2u x v h 4
theorem jtH(hE:NvP E (.cp cs))(ht:tot≤1048576)(hI:jcH cs tot I)(fI:∀c t,Fine (I c t))(ctx:List Tm)(cv:PV)(hc:CtxP ctx cv)(t:Tm)(v:PV)(h:TmP t v)(hs:shT t=true)(hk:t.kind=6)(l:Int)(r:Except Int Tm)(l':Int)(h0:0≤l)(h1:l≤tot)(hx:ipiB E n I ctx t l=some (r,l')):IrT 113 [xI,cv,v] cs tot l r l':=by
 have hc':=hc;obtain⟨b,z,xs,rfl,-⟩:=hc';obtain⟨n1,s1,b1,z1,x1,c1,y1,ys1,rfl,hy1,hkid⟩:=kids h hs;obtain⟨a0,ha0,p0,i0⟩:=hkid 0 (by rw[hk];decide)
 obtain⟨a1,ha1,p1,i1⟩:=hkid 1 (by rw[hk];decide)
 have p0':=p0;have p1':=p1;cases p0'.c;cases p1'.c;unfold ipiB at hx;rcases j06 hx with⟨e,q1,rfl⟩|⟨lv,la,q1,q2⟩
 ·obtain⟨he,hf⟩:=j3w hE ht hI fI ctx _ hc _ _ p0 i0 l _ l' h0 h1 q1;refine⟨he,?_⟩;refine j00 Tryz.func113 rfl rfl rfl ?_;repeat'(first|refine gU ?_|refine VIdx.mk _ ha0 ?_|refine gZ hy1 ?_|refine gW hf ?_)<;>conv=>whnf
  all_goals exact gJ
 obtain⟨wy,hwy,hf⟩:=j3w hE ht hI fI ctx _ hc _ _ p0 i0 l _ la h0 h1 q1;have hla:=(j1M (E:=E) (n:=n) fI ctx (t.arg 0)).dn l _ la h0 q1;have hwy':=hwy;cases hwy'.c;rcases j06 q2 with⟨e,q3,rfl⟩|⟨mv,lc,q3,q6⟩
 ·rcases j06 q3 with⟨e',q4,e2⟩|⟨y,lb,q4,q5⟩
  ·cases e2;obtain⟨he,hw⟩:=j6q hI ctx _ hc _ _ p0 i0 _ _ p1 i1 la _ l' (by omega) (by omega) q4
   have hg:=j9M cs tot l' 0 0 [] true 0 [] true 0 [] e he;refine⟨he,?_⟩;refine j00 Tryz.func113 rfl rfl rfl ?_;repeat'(first|refine gU ?_|refine VIdx.mk _ ha0 ?_|refine VIdx.mk _ ha1 ?_|refine gZ hy1 ?_|refine gW hf ?_|refine gW hw ?_|refine gW hg ?_|apply gK)<;>conv=>whnf
   all_goals exact gJ
  ·obtain⟨-,wb,hwb,hw⟩:=j6q hI ctx _ hc _ _ p0 i0 _ _ p1 i1 la _ lb (by omega) (by omega) q4
   have hlb:=(j3b fI ctx (t.arg 0) (t.arg 1)).dn la _ lb (by omega) q4
   obtain⟨he,hg⟩:=j5I E cs hE tot ht n y _ hwb lb _ l' (by omega) (by omega) q5
   cases hwb.c;refine⟨he,?_⟩;refine j00 Tryz.func113 rfl rfl rfl ?_;repeat'(first|refine gU ?_|refine VIdx.mk _ ha0 ?_|refine VIdx.mk _ ha1 ?_|refine gZ hy1 ?_|refine gW hf ?_|refine gW hw ?_|refine gW hg ?_|apply gK)<;>conv=>whnf
   all_goals exact gJ
 rcases j06 q3 with⟨e',q4,e2⟩|⟨y,lb,q4,q5⟩
 ·cases e2
 obtain⟨-,wb,hwb,hw⟩:=j6q hI ctx _ hc _ _ p0 i0 _ _ p1 i1 la _ lb (by omega) (by omega) q4
 have hlb:=(j3b fI ctx (t.arg 0) (t.arg 1)).dn la _ lb (by omega) q4
 obtain⟨wm,hwm,hg⟩:=j5I E cs hE tot ht n y _ hwb lb _ lc (by omega) (by omega) q5
 cases hwb.c;have hM:=jgg lv _ hwy mv _ hwm;have hsu:LvP (j9s lv mv) (encL (j9s lv mv)):=by
  unfold j9s;split
  ·exact jbR (by simp) (by simp)
  ·split
   ·exact hwm.w
   ·exact jbR (by simp) (fun x hx=>by
     rcases List.mem_cons.1 hx with rfl|hx
     ·exact hwy.w
     ·rw[List.mem_singleton.1 hx];exact hwm.w)
 generalize j9s lv mv=q at *;have hR:=jlT q _ hsu;have hso:=je8 q _ hsu;have hsv:=jft hsu;obtain⟨k7,n7,b7,z7,x7,he7⟩:=j0v q;unfold jmr at hso hsv;cases hwm.c;rw[he7] at hM hR hso hsv;rcases j06 q6 with⟨e,q7,rfl⟩|⟨y9,ld,q7,q8⟩
 ·unfold j5j at q7;cases hr:j0m q 4 with
  |true=>
   rw[hr] at q7;cases q7
  |false=>
   rw[hr] at q7 hR;cases q7;refine⟨by omega,?_⟩
   refine j00 Tryz.func113 rfl rfl rfl ?_;repeat'(first|refine gU ?_|refine VIdx.mk _ ha0 ?_|refine VIdx.mk _ ha1 ?_|refine gZ hy1 ?_|refine gW hf ?_|refine gW hw ?_|refine gW hg ?_|refine gX hM ?_|refine gX hR ?_|apply gK)<;>conv=>whnf
   all_goals exact gJ
 ·unfold j5j at q7;cases hr:j0m q 4 with
  |false=>
   rw[hr] at q7;cases q7
  |true=>
   rw[hr] at q7 hR;cases q7;cases q8;refine⟨⟨jfq q,jcf hr⟩,_,hsv,?_⟩;refine j00 Tryz.func113 rfl rfl rfl ?_;repeat'(first|refine gU ?_|refine VIdx.mk _ ha0 ?_|refine VIdx.mk _ ha1 ?_|refine gZ hy1 ?_|refine gW hf ?_|refine gW hw ?_|refine gW hg ?_|refine gX hM ?_|refine gX hR ?_|refine gX hso ?_|apply gK)<;>conv=>whnf
   all_goals exact gJ
theorem jqI(hE:NvP E (.cp cs))(ht:tot≤1048576)(hI:jcH cs tot I)(fI:∀c t,Fine (I c t))(ctx:List Tm)(cv:PV)(hc:CtxP ctx cv)(t:Tm)(v:PV)(h:TmP t v)(hs:shT t=true)(hk:t.kind=7)(l:Int)(r:Except Int Tm)(l':Int)(h0:0≤l)(h1:l≤tot)(hx:jtE E n I ctx t l=some (r,l')):IrT 114 [xI,cv,v] cs tot l r l':=by
 have hc':=hc;obtain⟨b,z,xs,rfl,-⟩:=hc';obtain⟨n1,s1,b1,z1,x1,c1,y1,ys1,rfl,hy1,hkid⟩:=kids h hs;obtain⟨a0,ha0,p0,i0⟩:=hkid 0 (by rw[hk];decide)
 obtain⟨a1,ha1,p1,i1⟩:=hkid 1 (by rw[hk];decide)
 obtain⟨a2,ha2,p2,i2⟩:=hkid 2 (by rw[hk];decide)
 have p0':=p0;have p1':=p1;have p2':=p2;cases p0'.c;cases p1'.c;cases p2'.c;unfold jtE at hx;rcases j06 hx with⟨e,q1,rfl⟩|⟨lv,la,q1,q2⟩
 ·obtain⟨he,hf⟩:=j3w hE ht hI fI ctx _ hc _ _ p0 i0 l _ l' h0 h1 q1;refine⟨he,?_⟩;refine j00 Tryz.func114 rfl rfl rfl ?_;repeat'(first|refine gU ?_|refine VIdx.mk _ ha0 ?_|refine gZ hy1 ?_|refine gW hf ?_)<;>conv=>whnf
  all_goals exact gJ
 obtain⟨wy,hwy,hf⟩:=j3w hE ht hI fI ctx _ hc _ _ p0 i0 l _ la h0 h1 q1;have hla:=(j1M (E:=E) (n:=n) fI ctx (t.arg 0)).dn l _ la h0 q1;cases hwy.c;rcases j06 q2 with⟨e,q3,rfl⟩|⟨u0,lb,q3,q4⟩
 ·obtain⟨he,hch⟩:=j7a hE ht hI fI ctx _ hc _ _ p1 i1 _ _ p0 la _ l' (by omega) (by omega) q3
  refine⟨he,?_⟩;refine j00 Tryz.func114 rfl rfl rfl ?_;repeat'(first|refine gU ?_|refine VIdx.mk _ ha0 ?_|refine VIdx.mk _ ha1 ?_|refine gZ hy1 ?_|refine gW hf ?_|refine gW hch ?_|apply gK)<;>conv=>whnf
  all_goals exact gJ
 have hch:Fr _ _ _ _ _ (.ret [iv 0]) lb:=j7a hE ht hI fI ctx _ hc _ _ p1 i1 _ _ p0 la _ lb (by omega) (by omega) q3
 have hlb:=(j4P (E:=E) (n:=n) fI ctx (t.arg 1) (t.arg 0)).dn la _ lb (by omega) q3
 have hN:=j6T _ _ p2 [t.arg 1] true 5 _ (.inl rfl) ⟨_,[],rfl,p1,rfl⟩ (by simp)
 have hoW:TmW ((InstF (t.arg 2) [t.arg 1]).getD tz):=j7A fun x hx=>j9n (by simpa using p1.w) p2.w hx
 rw[j5O] at hN;have hoS:∀x,InstF (t.arg 2) [t.arg 1]=some x→shT x=true:=fun x hx=>j6S hx
 generalize InstF (t.arg 2) [t.arg 1]=o at *;unfold TmW at hoW;obtain⟨k9,n9,s9,b9,z9,x9,c9,y9,ys9,he9⟩:=j07 (o.getD tz);rw[he9] at hN hoW;rcases j06 q4 with⟨e,q5,rfl⟩|⟨y,lc,q5,q6⟩
 ·obtain⟨rfl,rfl,hfi⟩:=j8D o _ hoW q5;refine⟨by omega,?_⟩
  refine j00 Tryz.func114 rfl rfl rfl ?_;repeat'(first|refine gU ?_|refine VIdx.mk _ ha0 ?_|refine VIdx.mk _ ha1 ?_|refine VIdx.mk _ ha2 ?_|refine gZ hy1 ?_|refine gW hf ?_|refine gW hch ?_|refine j01 hN fun _=>?_|refine j01 hfi fun _=>?_|apply gK)<;>conv=>whnf
  all_goals exact gJ
 ·obtain⟨rfl,rfl,hzy,hfi⟩:=j8D o _ hoW q5;have hwy:TmP y (.ag [iv k9,iv n9,sv s9,.sl b9 z9 x9,.sl c9 y9 ys9]):=hoW;have hg:=hI ctx _ hc _ _ hwy (hoS _ rfl) lc r l' (by omega) (by omega) q6
  cases r with
  |error e=>
   obtain⟨he,hg⟩:=hg;refine⟨he,?_⟩;refine j00 Tryz.func114 rfl rfl rfl ?_;repeat'(first|refine gU ?_|refine VIdx.mk _ ha0 ?_|refine VIdx.mk _ ha1 ?_|refine VIdx.mk _ ha2 ?_|refine gZ hy1 ?_|refine gW hf ?_|refine gW hch ?_|refine j01 hN fun _=>?_|refine j01 hfi fun _=>?_|refine gW hg ?_|apply gK)<;>conv=>whnf
   all_goals exact gJ
  |ok x=>
   obtain⟨g1,wx,hwx,hg⟩:=hg;refine⟨g1,_,hwx,?_⟩;cases hwx.c;refine j00 Tryz.func114 rfl rfl rfl ?_;repeat'(first|refine gU ?_|refine VIdx.mk _ ha0 ?_|refine VIdx.mk _ ha1 ?_|refine VIdx.mk _ ha2 ?_|refine gZ hy1 ?_|refine gW hf ?_|refine gW hch ?_|refine j01 hN fun _=>?_|refine j01 hfi fun _=>?_|refine gW hg ?_|apply gK)<;>conv=>whnf
   all_goals exact gJ
theorem IrT.via{f g:FuncId}{args args' cs:List PV}{tot l l0:Int}{r:Except Int Tm}{l':Int}(h:IrT f args cs tot l r l')(ho:∀(k9 n9:Int) (s9:List UInt8) (b9:Bool) (z9:Nat) (x9:List PV) (c9:Bool) (y9:Nat) (ys9:List PV) (e:Int),Fr f args cs tot l (.ret [.ag [iv k9,iv n9,sv s9,.sl b9 z9 x9,.sl c9 y9 ys9],iv e]) l'→Fr g args' cs tot l0 (.ret [.ag [iv k9,iv n9,sv s9,.sl b9 z9 x9,.sl c9 y9 ys9],iv e]) l'):IrT g args' cs tot l0 r l':=by
 cases r with
 |error e=>
  obtain⟨he,hg⟩:=h;exact⟨he,ho _ _ _ _ _ _ _ _ _ _ hg⟩
 |ok x=>
  obtain⟨g1,wx,hwx,hg⟩:=h;have hwx':=hwx;cases hwx'.c;exact⟨g1,_,hwx,ho _ _ _ _ _ _ _ _ _ _ hg⟩
theorem jlK(hE:NvP E (.cp cs))(ht:tot≤1048576)(hI:jcH cs tot I)(fI:∀c t,Fine (I c t)):jcH cs tot (jk3 E n I):=by
 intro ctx cv hc t v h hs l r l' h0 h1 hx;have hc':=hc;obtain⟨b,z,xs,rfl,hz,hxs,h64,-⟩:=hc';have h':=h;have hr:=j1V cs tot l;obtain⟨k1,n1,s1,l1,t1,b1,z1,x1,c1,y1,ys1,et,rfl,-⟩:=h'.open;have ek:t.kind=k1:=by subst et;rfl
 clear et;unfold jk3 at hx;rcases j06 hx with⟨e,q1,rfl⟩|⟨u0,la,q1,q2⟩
 ·rcases j0S q1 with⟨a1,a2,a3⟩|⟨a1,a2,a3⟩
  ·cases a3
  cases a3;subst a2;have hk:=jfv cs tot l' a1;refine⟨by omega,?_⟩
  refine j00 Tryz.func68 rfl rfl rfl ?_;repeat'(first|refine gU ?_|refine gW hr ?_|refine gW hk ?_)<;>conv=>whnf
  all_goals exact gJ
 rcases j0S q1 with⟨a1,a2,a3⟩|⟨a1,a2,a3⟩
 rotate_left
 ·cases a3
 subst a2;have hk:=jfw cs tot l a1 h1 ht;unfold jaf at q2;rw[ek] at q2;split at q2
 ·have hg:=jqF hE ht hI fI ctx _ hc t _ h hs (by omega) (l-1) r l' (by omega) (by omega) q2
  refine IrT.via hg fun k9 n9 s9 b9 z9 x9 c9 y9 ys9 e hg=>?_
  refine j00 Tryz.func68 rfl rfl rfl ?_;repeat'(first|refine gU ?_|refine gW hr ?_|refine gW hk ?_|refine gW hg ?_)<;>conv=>whnf
  all_goals exact gJ
 split at q2
 ·have hg:=jqH hE ht hI fI ctx _ hc t _ h hs (by omega) (l-1) r l' (by omega) (by omega) q2
  refine IrT.via hg fun k9 n9 s9 b9 z9 x9 c9 y9 ys9 e hg=>?_
  refine j00 Tryz.func68 rfl rfl rfl ?_;repeat'(first|refine gU ?_|refine gW hr ?_|refine gW hk ?_|refine gW hg ?_)<;>conv=>whnf
  all_goals exact gJ
 split at q2
 ·have hg:=jtH hE ht hI fI ctx _ hc t _ h hs (by omega) (l-1) r l' (by omega) (by omega) q2
  refine IrT.via hg fun k9 n9 s9 b9 z9 x9 c9 y9 ys9 e hg=>?_
  refine j00 Tryz.func68 rfl rfl rfl ?_;repeat'(first|refine gU ?_|refine gW hr ?_|refine gW hk ?_|refine gW hg ?_)<;>conv=>whnf
  all_goals exact gJ
 split at q2
 ·have hg:=jqI hE ht hI fI ctx _ hc t _ h hs (by omega) (l-1) r l' (by omega) (by omega) q2
  refine IrT.via hg fun k9 n9 s9 b9 z9 x9 c9 y9 ys9 e hg=>?_
  refine j00 Tryz.func68 rfl rfl rfl ?_;repeat'(first|refine gU ?_|refine gW hr ?_|refine gW hk ?_|refine gW hg ?_)<;>conv=>whnf
  all_goals exact gJ
 ·have hg:IrT 44 [.ci [.bp 0 0],.sl b z xs,.ag [iv k1,iv n1,sv s1,.sl b1 z1 x1,.sl c1 y1 ys1]] cs tot (l-1) r l':=by
   obtain⟨g1,g2⟩:=j8l E cs hE tot ht n ctx b z xs hz hxs (by omega) t _ h (l-1) r l' (by omega) (by omega) q2
   cases r with
   |error e=>exact⟨fun e0=>by
     subst e0;exact(j6W (E:=E) (n:=n) ctx t).nz _ _ q2,g2⟩
   |ok x=>exact⟨⟨(g1 x rfl).1,(g1 x rfl).2.1⟩,_,(g1 x rfl).2.2,g2⟩
  refine IrT.via hg fun k9 n9 s9 b9 z9 x9 c9 y9 ys9 e hg=>?_
  refine j00 Tryz.func68 rfl rfl rfl ?_;repeat'(first|refine gU ?_|refine gW hr ?_|refine gW hk ?_|refine gW hg ?_|apply gK)<;>conv=>whnf
  all_goals exact gJ
theorem I_ok(hE:NvP E (.cp cs))(ht:tot≤1048576):∀n,jcH cs tot (j1I E n)
 |0=>fun _ _ _ _ _ _ _ _ _ _ _ _ h=>by cases h
 |n+1=>jlK (n:=n) hE ht (I_ok hE ht n) (j0G n)
end
open Go Go.Am Go.Gw
variable{x y:Operand}
theorem jvI:j0h C1.P .eql 22 x y (.sl true 0 []) (.sl true 0 [])=some (bv true):=by kernel_rfl
theorem jvJ{b:Bool}{z:Nat}{c:PV}{cs:List PV}:j0h C1.P .eql 22 x y (.sl b z (c::cs)) (.sl true 0 [])=some (bv false):=by kernel_rfl
def CtxN(ctx:List Tm)(v:PV):Prop:=∃b z xs,v=.sl b z xs∧((z=5∧¬xs=[])∨(xs=[]∧b=true∧z=0))∧TmsP ctx xs∧ctx.length≤1759218604441
theorem jdb(xs:List PV)(b:Bool)(z:Nat)(hz:(z=5∧¬xs=[])∨(xs=[]∧b=true∧z=0))(hp6:xs.all (pur 6)=true)(hl:xs.length≤64):∃b':Bool,(xs=[]→b'=true)∧Pf C1 69 [.sl b z xs] [.sl b' z xs]:=by
 cases xs with
 |nil=>
  obtain⟨rfl,rfl⟩:b=true∧z=0:=by
   rcases hz with⟨-,h⟩|h
   ·exact absurd rfl h
   ·exact h.2
  refine⟨true,fun _=>rfl,?_⟩
  refine j00 Tryz.func69 rfl rfl rfl ?_;repeat'(first|refine gU ?_|refine VRes.mk _ jvI ?_)<;>conv=>whnf
  all_goals rfl
 |cons s r=>
  obtain rfl:z=5:=by
   rcases hz with h|h
   ·exact h.1
   ·exact absurd h.1 (by simp)
  refine⟨false,fun e=>(by cases e),?_⟩
  refine j00 Tryz.func69 rfl rfl rfl ?_;repeat'(first|refine gU ?_|refine VRes.mk _ jvJ ?_|refine VOk.mk (jeD (w:=80) (r:=140737488355328) rfl rfl (by simp at hl⊢;omega) (by simp at hl⊢;omega)) ?_)<;>conv=>whnf
  exact j0y rfl (j05 (j0P rfl (by simp) hp6) j0p) rfl rfl
theorem j6Y(ctx:List Tm)(t:Tm):j1h ctx [t]=(j1h ctx []&&j0N t 4 ctx.length):=by
 unfold j1h;simp[Bool.and_assoc]
def IxT(f:FuncId)(args cs:List PV)(tot l:Int)(r:Except Int Tm)(l':Int):Prop:=(∀x,r=.ok x→shT x=true∧sizT x≤2000∧TmW x)∧(∀e,r=.error e→¬e=0)∧Fr f args cs tot l (.ret (errV r)) l'
def IxL(f:FuncId)(args cs:List PV)(tot l:Int)(r:Except Int Lv)(l':Int):Prop:=(∀x,r=.ok x→LvP x (encL x))∧(∀e,r=.error e→¬e=0)∧Fr f args cs tot l (.ret (errL r)) l'
section
variable{E:Nv}{cs:List PV}{tot:Int}{n:Nat}
theorem j4I(hE:NvP E (.cp cs))(ht:tot≤1048576)(ctx:List Tm)(cv:PV)(hc:CtxN ctx cv)(t:Tm)(v:PV)(h:TmP t v)(l:Int)(r:Except Int Tm)(l':Int)(h0:0≤l)(h1:l≤tot)(hx:j2N E n ctx t l=some (r,l')):IxT 19 [xI,cv,v] cs tot l r l':=by
 obtain⟨b,z,xs,rfl,hz,hxs,hbd⟩:=hc;have hlen:=hxs.len;have hfo:=j7M ctx b z xs (hz.imp (·.1) (·.1)) hxs
 have hri:=j9L t v h b z xs ctx.length hlen;have hv:=h;cases h.c;unfold j2N at hx;rw[j6Y] at hx;rcases j06 hx with⟨e,q1,rfl⟩|⟨u0,la,q1,q2⟩
 ·obtain⟨rfl,d2⟩:=j0C q1;rcases d2 with⟨-,d2⟩|⟨d1,d2⟩
  ·cases d2
  cases d2;refine⟨fun x hx=>(by cases hx),fun e he=>(by cases he;omega),?_⟩
  cases hf:j1h ctx [] with
  |false=>
   rw[hf] at hfo;refine j00 Tryz.func19 rfl rfl rfl ?_;repeat'(first|refine gU ?_|refine gX hfo ?_)<;>conv=>whnf
   all_goals exact gJ
  |true=>
   rw[hf] at hfo d1;have d1:j0N t 4 ctx.length=false:=d1;rw[d1] at hri;refine j00 Tryz.func19 rfl rfl rfl ?_;repeat'(first|refine gU ?_|refine gX hfo ?_|refine gX hri ?_)<;>conv=>whnf
   all_goals exact gJ
 obtain⟨rfl,d2⟩:=j0C q1;rcases d2 with⟨d1,-⟩|⟨-,d2⟩
 rotate_left
 ·cases d2
 have hfm:j1h ctx [t]=true:=by rw[j6Y];exact d1
 obtain⟨hcp,hsh⟩:=j1F hfm (hz.imp (·.1) id) hxs
 have hcp':=hcp;obtain⟨b3,z3,xs3,e3,hz3,hxs3,h64,hsh3⟩:=hcp';obtain⟨b2,hb2,hcl⟩:=jdb xs b z hz hxs.pure6 (by omega)
 have hc2:CtxP ctx (.sl b2 z xs):=⟨_,_,_,rfl,hz.imp (·.1) (fun q=>⟨q.1,hb2 q.1,q.2.2⟩),hxs,h64,hsh3⟩
 rw[Bool.and_eq_true] at d1;rw[d1.1] at hfo;rw[d1.2] at hri;have hg:=I_ok hE ht n ctx _ hc2 t _ hv (hsh t (List.mem_singleton.2 rfl)).1 la r l' h0 h1 q2;cases r with
 |error e=>
  obtain⟨he,hg⟩:=hg;have ha:Pf C1 70 [.ag zTm,.sl true 0 []] [.ag zTm]:=j4D tz _ j4A true 0;refine⟨fun x hx=>(by cases hx),fun e he'=>(by cases he';exact he),?_⟩
  refine j00 Tryz.func19 rfl rfl rfl ?_;repeat'(first|refine gU ?_|refine gX hfo ?_|refine gX hri ?_|refine j01 hcl fun _=>?_|refine gW hg ?_|refine gX ha ?_|apply gK)<;>conv=>whnf
  all_goals exact gJ
 |ok x=>
  obtain⟨g1,w,hw,hg⟩:=hg;have ha:=j4D x w hw true 0;refine⟨fun y hy=>(by cases hy;exact⟨g1.1,g1.2,hw.w⟩),fun e he=>(by cases he),?_⟩
  simp only[errV];obtain⟨k9,n9,s9,b9,z9,x9,c9,y9,ys9,he9⟩:=j07 x;rw[he9] at ha⊢;cases hw.c;refine j00 Tryz.func19 rfl rfl rfl ?_;repeat'(first|refine gU ?_|refine gX hfo ?_|refine gX hri ?_|refine j01 hcl fun _=>?_|refine gW hg ?_|refine gX ha ?_|apply gK)<;>conv=>whnf
  all_goals exact gJ
theorem jgU(ctx:List Tm)(t:Tm):Fine (j2N E n ctx t):=j03 (j0l (by omega)) fun _=>j0G n ctx t
theorem jvF:LvP (.mk 0 0 []) (.ag zLv):=⟨true,0,[],rfl,.inr rfl,rfl,by simp⟩
theorem jo9(hE:NvP E (.cp cs))(ht:tot≤1048576)(ctx:List Tm)(cv:PV)(hc:CtxN ctx cv)(t:Tm)(v:PV)(h:TmP t v)(l:Int)(r:Except Int Lv)(l':Int)(h0:0≤l)(h1:l≤tot)(hx:jst E n ctx t l=some (r,l')):IxL 62 [xI,cv,v] cs tot l r l':=by
 have hc':=hc;obtain⟨b,z,xs,rfl,-⟩:=hc';have h':=h;cases h'.c;have hm:Pf C1 97 [.sl true 3 [.ag zLv]] [.ag zLv]:=j7d _ _ jvF true 3 rfl;rcases j06 hx with⟨e,q1,rfl⟩|⟨x,la,q1,q2⟩
 ·obtain⟨-,he,hf⟩:=j4I hE ht ctx _ hc t _ h l _ l' h0 h1 q1;have he:=he _ rfl;simp only[errV] at hf;have hl:=j9M cs tot l' 0 0 [] true 0 [] true 0 [] e he;refine⟨fun x hx=>(by cases hx),fun e he'=>(by cases he';exact he),?_⟩
  simp only[errL];refine j00 Tryz.func62 rfl rfl rfl ?_;repeat'(first|refine gU ?_|refine gW hf ?_|refine gW hl ?_|refine gX hm ?_)<;>conv=>whnf
  all_goals exact gJ
 ·obtain⟨hw,-,hf⟩:=j4I hE ht ctx _ hc t _ h l _ la h0 h1 q1;obtain⟨-,-,hw⟩:=hw x rfl;simp only[errV] at hf;unfold TmW at hw;generalize encT x=w at *;have hla:=(jgU (E:=E) (n:=n) ctx t).dn l _ la h0 q1;have hl:=j5I E cs hE tot ht n x w hw la r l' (by omega) (by omega) q2
  cases hw.c;cases r with
  |error e=>
   obtain⟨he,hl⟩:=hl;refine⟨fun x hx=>(by cases hx),fun e he'=>(by cases he';exact he),?_⟩
   simp only[errL];refine j00 Tryz.func62 rfl rfl rfl ?_;repeat'(first|refine gU ?_|refine gW hf ?_|refine gW hl ?_|refine gX hm ?_)<;>conv=>whnf
   all_goals exact gJ
  |ok y=>
   obtain⟨wy,hwy,hl⟩:=hl;have hm:=j7d y _ hwy true 3 rfl;refine⟨fun y hy=>(by cases hy;exact jbn _ _ hwy),fun e he=>(by cases he),?_⟩
   simp only[errL];obtain⟨k9,n9,b9,z9,x9,he9⟩:=j0v y;rw[he9] at hm⊢;cases hwy.c;refine j00 Tryz.func62 rfl rfl rfl ?_;repeat'(first|refine gU ?_|refine gW hf ?_|refine gW hl ?_|refine gX hm ?_)<;>conv=>whnf
   all_goals exact gJ
theorem jdo(hE:NvP E (.cp cs))(ht:tot≤1048576)(ctx:List Tm)(cv:PV)(hc:CtxN ctx cv)(t:Tm)(v:PV)(h:TmP t v)(u:Tm)(uv:PV)(hu:TmP u uv)(l:Int)(r:Except Int Unit)(l':Int)(h0:0≤l)(h1:l≤tot)(hx:jiD E n ctx t u l=some (r,l')):IrU 63 [xI,cv,v,uv] cs tot l r l':=by
 have hc':=hc;obtain⟨b,z,xs,rfl,hz,hxs,hbd⟩:=hc';have h':=h;have hu':=hu;cases h'.c;cases hu'.c;rcases j06 hx with⟨e,q1,rfl⟩|⟨a,la,q1,q2⟩
 ·obtain⟨-,he,hf⟩:=j4I hE ht ctx _ hc t _ h l _ l' h0 h1 q1;have he:=he _ rfl;simp only[errV] at hf;refine⟨he,?_⟩;refine j00 Tryz.func63 rfl rfl rfl ?_;repeat'(first|refine gU ?_|refine gW hf ?_)<;>conv=>whnf
  all_goals exact gJ
 obtain⟨hw,-,hf⟩:=j4I hE ht ctx _ hc t _ h l _ la h0 h1 q1;obtain⟨-,-,hw⟩:=hw a rfl;simp only[errV] at hf;unfold TmW at hw;have hla:=(jgU (E:=E) (n:=n) ctx t).dn l _ la h0 q1;generalize encT a=w at *;have hw':=hw;cases hw'.c;rcases j06 q2 with⟨e,q3,rfl⟩|⟨ok,lb,q3,q4⟩
 ·have he:¬e=0:=fun e0=>by
   subst e0;exact(j3Q (E:=E) (n:=n) ctx a u).nz _ _ q3
  have hg:=j2p E cs hE tot ht n ctx b z xs (hz.imp (·.1) id) hxs hbd a _ hw u _ hu la _ l' (by omega) (by omega) q3
  simp only[errB] at hg;refine⟨he,?_⟩;refine j00 Tryz.func63 rfl rfl rfl ?_;repeat'(first|refine gU ?_|refine gW hf ?_|refine gW hg ?_|apply gK)<;>conv=>whnf
  all_goals exact gJ
 have hg:=j2p E cs hE tot ht n ctx b z xs (hz.imp (·.1) id) hxs hbd a _ hw u _ hu la _ lb (by omega) (by omega) q3
 simp only[errB] at hg;cases ok with
 |true=>
  cases q4;show Fr _ _ _ _ _ (.ret [iv 0]) _
  refine j00 Tryz.func63 rfl rfl rfl ?_;repeat'(first|refine gU ?_|refine gW hf ?_|refine gW hg ?_|apply gK)<;>conv=>whnf
  all_goals exact gJ
 |false=>
  cases q4;refine⟨by omega,?_⟩
  refine j00 Tryz.func63 rfl rfl rfl ?_;repeat'(first|refine gU ?_|refine gW hf ?_|refine gW hg ?_|apply gK)<;>conv=>whnf
  all_goals exact gJ
end
open Go Go.Am Go.Gw
section
variable{E:Nv}{cs:List PV}{tot:Int}{n:Nat}
theorem jqo{ctx:List Tm}{i:Nat}{t:Tm}(h:ctx[i]?=some t):ctx.take i++[t]=ctx.take (i+1):=by
 rw[List.take_add_one,h];rfl
theorem jaW(hE:NvP E (.cp cs))(ht:tot≤1048576)(ctx:List Tm)(cv:PV)(hc:CtxN ctx cv)(l:Int)(r:Except Int Unit)(l':Int)(h0:0≤l)(h1:l≤tot)(hx:j8C E n ctx l=some (r,l')):IrU 64 [xI,cv] cs tot l r l':=by
 obtain⟨b,z,xs,rfl,hz,hxs,hbd⟩:=hc;have hlen:=hxs.len;have hz':z=5∨xs=[]:=hz.imp (·.1) (·.1)
 have hfo:=j7M ctx b z xs hz' hxs;unfold j8C at hx;rcases j06 hx with⟨e,q1,rfl⟩|⟨u0,la,q1,q2⟩
 ·obtain⟨rfl,d2⟩:=j0C q1;rcases d2 with⟨-,d2⟩|⟨d1,d2⟩
  ·cases d2
  cases d2;rw[d1] at hfo;refine⟨by omega,?_⟩
  refine j00 Tryz.func64 rfl rfl rfl ?_;repeat'(first|refine gU ?_|refine gX hfo ?_)<;>conv=>whnf
  all_goals exact gJ
 obtain⟨rfl,d2⟩:=j0C q1;rcases d2 with⟨d1,-⟩|⟨-,d2⟩
 rotate_left
 ·cases d2
 rw[d1] at hfo;obtain⟨⟨-,-,-,-,-,-,h64,hsh⟩,-⟩:=j1F d1 (hz.imp (·.1) id) hxs
 have goal:Finds C1 64 [xI,.sl b z xs] [runB cs tot la] fun r' st'=>(match r with
  | .ok _=>r'=.ret [iv 0]
  | .error e=>¬e=0∧r'=.ret [iv e])∧st'=[runB cs tot l']:=by
  refine j00 Tryz.func64 rfl rfl rfl ?_;repeat'(first|refine gU ?_|refine gX hfo ?_)<;>conv=>whnf
  refine j04 (G:=Nat×Int) (fun g=>[(14,iv g.1)]) (fun g=>[runB cs tot g.2]) (fun g=>g.1≤ctx.length∧0≤g.2∧g.2≤tot∧jtC E n (ctx.take g.1) (ctx.drop g.1) g.2=some (r,l')) (fun g=>ctx.length-g.1) (0,la) ⟨by omega,h0,h1,q2⟩ rfl rfl ?_
  rintro⟨i,li⟩ ⟨hi,g0,g1,hall⟩;dsimp only at hi g0 g1 hall⊢;repeat'(first|refine gU ?_|apply gE<;>intro h)<;>conv=>whnf
  ·have hi':i<ctx.length:=by omega
   obtain⟨tc,htc⟩:∃tc,ctx[i]?=some tc:=⟨_,List.getElem?_eq_getElem hi'⟩;obtain⟨v,hv,hl⟩:=hxs.at htc;have hle:(i.ble xs.length&&Nat.ble 0 i)=true:=by simp only[Nat.ble_eq,Bool.and_eq_true];omega
   have hle2:Nat.beq i i=true:=by simp
   have hz5:z=5:=by
    rcases hz with h|h
    ·exact h.1
    ·rw[h.1] at hlen;simp only[List.length_nil] at hlen;omega
   subst hz5;have hcp:∀b',CtxP (ctx.take i) (.sl b' 5 ((xs.take i).drop 0)):=fun b'=>⟨_,_,_,rfl,.inl rfl,hxs.take i,by simp;omega,fun t ht=>hsh t (List.mem_of_mem_take ht)⟩
   have hd:ctx.drop i=tc::ctx.drop (i+1):=drop_at htc;rw[hd] at hall;rcases j06 hall with⟨e,w1,w2⟩|⟨u,lb,w1,w2⟩
   ·have hg:=fun b'=>j3w hE ht (I_ok hE ht n) (j0G n) (ctx.take i) _ (hcp b') tc v hl (hsh tc (List.mem_of_getElem? htc)) li _ l' g0 g1 w1
    subst w2;obtain⟨he,-⟩:=hg true;have hg:=fun b'=>(hg b').2
    cases hl.c;repeat'(first|refine gU ?_|refine VIdx.mk _ hv ?_|refine VOk.mk hle ?_|refine VOk.mk hle2 ?_|refine gW (hg _) ?_|apply gK)<;>conv=>whnf
    all_goals first|exact⟨⟨he,rfl⟩,rfl⟩|exact absurd (by assumption) he
   ·have hg:=fun b'=>j3w hE ht (I_ok hE ht n) (j0G n) (ctx.take i) _ (hcp b') tc v hl (hsh tc (List.mem_of_getElem? htc)) li _ lb g0 g1 w1
    have hlb:=(j1M (E:=E) (n:=n) (j0G n) (ctx.take i) tc).dn li _ lb g0 w1;rw[jqo htc] at w2;cases hl.c;obtain⟨w,hw,hg⟩:=hg true;cases hw.c;repeat'(first|refine gU ?_|refine VIdx.mk _ hv ?_|refine VOk.mk hle ?_|refine VOk.mk hle2 ?_|refine gW hg ?_|apply gK)<;>conv=>whnf
    exact VAgain.mk _ rfl _ (j0b rfl rfl rfl) ⟨(i+1,lb),⟨hi',by omega,by omega,w2⟩,by dsimp only;omega,rfl⟩
  ·have hl:i=ctx.length:=by omega
   subst hl;rw[List.drop_length] at hall;cases hall;exact⟨rfl,rfl⟩
 cases r with
 |error e=>
  obtain⟨r',st',⟨⟨he,rfl⟩,rfl⟩,N,hN⟩:=goal;exact⟨he,_,_,⟨rfl,rfl⟩,N,hN⟩
 |ok u=>exact goal
end
theorem jb7:∃cs,NvP nv14 (.cp cs)∧∀n:Int,0≤n→n≤1048576→Finds C1 18 [iv n] [] fun r st=>r=.ret [xI]∧st=[runB cs n n]:=by
 obtain⟨ws,hws,hl⟩:=jh3;obtain⟨v,hv,ha⟩:=jmL nv0 _ jv4 j9N false ws hws (jed jsn) (by decide)
 have hv':=hv;obtain⟨b,z,xs,rfl,-⟩:=hv';refine⟨_,hv,fun n h0 h1=>?_⟩
 have he:=jdg;have hw:=jcE [j5Z (jar nv0 j9N).tr,.sl b z xs] n h0 h1;have hc:=jgW [j5Z (jar nv0 j9N).tr,.sl b z xs] n n;generalize j5Z (jar nv0 j9N).tr=tp at *;refine j00 Tryz.func18 rfl rfl rfl ?_;repeat'(first|refine gU ?_|refine gX he ?_|refine gX hl ?_|refine gX ha ?_|refine j3k hw rfl rfl (j1x rfl ?_)|refine gW hc ?_)<;>conv=>whnf
 show VRet C1 _ 0 [xI] [runB [tp,.sl b z xs] n n] _
 exact j1G (.inr ⟨rfl,rfl⟩) rfl rfl rfl ⟨rfl,rfl⟩
end Go.Proofs.YtbnodhcijeaceaaGreatDoor
namespace Go.Am
open Go Go.Hb
section
variable{C:Cfg}
open Classical in
noncomputable def jbY(C:Cfg)(f:FuncId)(args:List PV)(st:Sto):Option (AEnd×Sto):=if h:∃q,∃n,(ev C n).call f args st=some q then some h.choose else none
variable{f:FuncId}{args:List PV}{F:List PV→Sto→Option (AEnd×Sto)}{st:Sto}
theorem jr7{q:AEnd×Sto}{n:Nat}(h:(ev C n).call f args st=some q):jbY C f args st=some q:=by
 have hx:∃q,∃n,(ev C n).call f args st=some q:=⟨q,n,h⟩;unfold jbY;rw[dif_pos hx];obtain⟨k,hk⟩:=hx.choose_spec;have h1:=jis (r:=hx.choose) hk (Nat.le_max_left k n);have h2:=jis (r:=q) h (Nat.le_max_right k n);exact h1.symm.trans h2
theorem jm0{r:AEnd}{st':Sto}(h:jbY C f args st=some (r,st')):∃n,(ev C n).call f args st=some (r,st'):=by
 unfold jbY at h;split at h
 ·rename_i hx;obtain⟨k,hk⟩:=hx.choose_spec;rw[Option.some.inj h] at hk;exact⟨k,hk⟩
 ·cases h
theorem jdD(hC:∀n,CallOk C.P (ev C n).call)(f:FuncId):j2n (j7Z C.P f) (jbY C f):=jtp (C':=C) (C:=C) rfl hC fun _ _ _ _ h=>jm0 h
def orN(F G:List PV→Sto→Option (AEnd×Sto))(args:List PV)(st:Sto):Option (AEnd×Sto):=match F args st with
 |some r=>some r
 |none=>G args st
theorem jrm{D}{G:List PV→Sto→Option (AEnd×Sto)}(hF:j2n D F)(hG:j2n D G):j2n D (orN F G):=fun args st r st' h=>by
 unfold orN at h;split at h
 ·rename_i r0 h0;exact hF args st r st' (h0.trans h)
 ·exact hG args st r st' h
theorem jdj{C C':Cfg}{Q:AEnd→Sto→Prop}(hn:C'.nat f=some F)(hF:∀r st',jbY C f args st=some (r,st')→F args st=some (r,st'))(h:Finds C f args st Q):Finds C' f args st Q:=by
 obtain⟨r,st',hq,N,hN⟩:=h;exact jqy hn (hF _ _ (jr7 (hN N (Nat.le_refl N)))) hq
end
end Go.Am
namespace Go.Proofs.YtbnodhcijeaceaaGreatDoor
open Go Go.Am Go.Gw
noncomputable def nat6(f:FuncId):Option (List PV→Sto→Option (AEnd×Sto)):=match Nat.beq f 19||Nat.beq f 4 with
 |true=>none
 |false=>match Nat.beq f 69 with
  |true=>some (orN jda (jbY C1 f))
  |false=>some (jbY C1 f)
noncomputable def C6:Cfg:=⟨C1.P,C1.fz,C1.raw,C1.keep,C1.lit,nat6,C1.fzc,fun _=>false,false⟩
theorem juJ:jmP C6:=fun f F hF=>by
 have hF:nat6 f=some F:=hF;unfold nat6 at hF;split at hF
 ·cases hF
 ·split at hF
  ·rename_i hb;cases hF;have e:=Nat.eq_of_beq_eq_true hb;subst e;exact jrm jqr (jdD (fun n=>(jti n).call) _)
  ·cases hF;exact jdD (fun n=>(jti n).call) f
theorem jvz(n:Nat):EvOk C6 (ev C6 n):=jnS (by kernel_rfl) (by kernel_rfl) juJ n
variable{K Q:AEnd→Sto→Prop}{f:FuncId}{args cs:List PV}{x y:Operand}{st:Sto}
theorem up6(hf:(Nat.beq f 19||Nat.beq f 4)=false)(hg:Nat.beq f 69=false)(h:Finds C1 f args st Q):Finds C6 f args st Q:=
 jdj (C:=C1) (F:=jbY C1 f) (show nat6 f=_ by unfold nat6;rw[hf,hg]) (fun r st' h=>h) h
theorem up6c(hn:jda args st=none)(h:Finds C1 69 args st Q):Finds C6 69 args st Q:=
 jdj (C:=C1) (F:=orN jda (jbY C1 69)) rfl (fun r st' h=>by unfold orN;rw[hn];exact h) h
def Fr6(f:FuncId)(args:List PV)(cs:List PV)(tot l:Int)(r:AEnd)(l':Int):Prop:=Finds C6 f args [runB cs tot l] fun r' st'=>r'=r∧st'=[runB cs tot l']
theorem j0V{i:Nat}{args0:List PV}{tot l l':Int}{r:AEnd}(h:Fr6 f args0 cs tot l r l')(hw:handed C6 f args st=some (args,st))(hp:args.all (pur 8)=false)(hπ:(close st 64 (args.flatMap (ids 8)) []).reverse=[i])(hi:args.all (j0f (fun q=>[i].elem q) 8)=true)
  (hf:fetch (fun q=>place q 0 [i]) (fun q=>[i].elem q) st [i]=some [runB cs tot l]) (ha:args.map (j1q (fun q=>place q 0 [i]) 8)=args0) (hb:jbo (fun j=>Nat.blt j 1) r=true) (k:K (j5g (back [i] st.length) r) (st.set i (runB cs tot l'))):VCall C6 f args st K:=by
 refine j0L hw hp hπ hi hf ha (Finds.mono h ?_);rintro _ _ ⟨rfl,rfl⟩;refine j1x ?_ ?_
 ·simp only[List.length_cons,List.length_nil,Nat.zero_add,hb,Bool.true_and];rfl
 ·have e:(st.set i (runB cs tot l'))++[]=st.set i (runB cs tot l'):=List.append_nil _;rw[←e] at k;exact k
def CtxA(ctx:List Tm)(v:PV):Prop:=CtxN ctx v∨(ctx=[]∧v=.sl false 5 [])
section
variable{E:Nv}{cs:List PV}{tot:Int}{n:Nat}
theorem jcW(hE:NvP E (.cp cs))(ht:tot≤1048576)(ctx:List Tm)(cv:PV)(hc:CtxA ctx cv)(t:Tm)(v:PV)(h:TmP t v)(l:Int)(r:Except Int Tm)(l':Int)(h0:0≤l)(h1:l≤tot)(hx:j2N E n ctx t l=some (r,l')):(∀x,r=.ok x→TmW x)∧(∀e,r=.error e→¬e=0)∧Fr6 19 [xI,cv,v] cs tot l (.ret (errV r)) l':=by
 obtain⟨b,z,xs,rfl,hz,hxs,hcl⟩:∃b z xs,cv=.sl b z xs∧(z=5∨(xs=[]∧b=true∧z=0))∧TmsP ctx xs∧(ctx.length≤64→∃b2:Bool,(z=5∨(xs=[]∧b2=true∧z=0))∧Pf C6 69 [.sl b z xs] [.sl b2 z xs]):=by
  rcases hc with⟨b,z,xs,rfl,hz,hxs,-⟩|⟨rfl,rfl⟩
  ·refine⟨b,z,xs,rfl,hz.imp (·.1) id,hxs,fun h64=>?_⟩
   have hlen:=hxs.len;obtain⟨b2,hb2,hcl⟩:=jdb xs b z hz hxs.pure6 (by omega)
   refine⟨b2,hz.imp (·.1) (fun q=>⟨q.1,hb2 q.1,q.2.2⟩),up6c ?_ hcl⟩
   rcases hz with⟨rfl,hne⟩|⟨rfl,rfl,rfl⟩
   ·cases xs with
    |nil=>exact absurd rfl hne
    |cons x r=>cases b<;>rfl
   ·rfl
  ·exact⟨false,5,[],rfl,.inl rfl,rfl,fun _=>⟨false,.inl rfl,jv9 (F:=orN jda (jbY C1 69)) rfl rfl⟩⟩
 have hlen:=hxs.len;have hfo:=up6 rfl rfl (j7M ctx b z xs (hz.imp id (·.1)) hxs)
 have hri:=up6 rfl rfl (j9L t v h b z xs ctx.length hlen);have hv:=h;cases h.c;unfold j2N at hx;rw[j6Y] at hx;rcases j06 hx with⟨e,q1,rfl⟩|⟨u0,la,q1,q2⟩
 ·obtain⟨rfl,d2⟩:=j0C q1;rcases d2 with⟨-,d2⟩|⟨d1,d2⟩
  ·cases d2
  cases d2;refine⟨fun x hx=>(by cases hx),fun e he=>(by cases he;omega),?_⟩
  cases hf:j1h ctx [] with
  |false=>
   rw[hf] at hfo;refine j00 Tryz.func19 rfl rfl rfl ?_;repeat'(first|refine gU ?_|refine gX hfo ?_)<;>conv=>whnf
   all_goals exact gJ
  |true=>
   rw[hf] at hfo d1;have d1:j0N t 4 ctx.length=false:=d1;rw[d1] at hri;refine j00 Tryz.func19 rfl rfl rfl ?_;repeat'(first|refine gU ?_|refine gX hfo ?_|refine gX hri ?_)<;>conv=>whnf
   all_goals exact gJ
 obtain⟨rfl,d2⟩:=j0C q1;rcases d2 with⟨d1,-⟩|⟨-,d2⟩
 rotate_left
 ·cases d2
 have hfm:j1h ctx [t]=true:=by rw[j6Y];exact d1
 obtain⟨hcp,hsh⟩:=j1F hfm hz hxs;obtain⟨b3,z3,xs3,e3,hz3,hxs3,h64,hsh3⟩:=hcp;obtain⟨b2,hz2,hcl⟩:=hcl h64;have hc2:CtxP ctx (.sl b2 z xs):=⟨_,_,_,rfl,hz2,hxs,h64,hsh3⟩;rw[Bool.and_eq_true] at d1;rw[d1.1] at hfo;rw[d1.2] at hri;have hg:=I_ok hE ht n ctx _ hc2 t _ hv (hsh t (List.mem_singleton.2 rfl)).1 la r l' h0 h1 q2;cases r with
 |error e=>
  obtain⟨he,hg⟩:=hg;have hg:Fr6 _ _ _ _ _ _ _:=up6 rfl rfl hg;have ha:Pf C6 70 [.ag zTm,.sl true 0 []] [.ag zTm]:=up6 rfl rfl (j4D tz _ j4A true 0);refine⟨fun x hx=>(by cases hx),fun e he'=>(by cases he';exact he),?_⟩
  refine j00 Tryz.func19 rfl rfl rfl ?_;repeat'(first|refine gU ?_|refine gX hfo ?_|refine gX hri ?_|refine j01 hcl fun _=>?_|refine j0V (i:=0) hg rfl rfl rfl rfl rfl rfl rfl ?_|refine gX ha ?_|apply gK)<;>conv=>whnf
  all_goals exact gJ
 |ok x=>
  obtain⟨g1,w,hw,hg⟩:=hg;have hg:Fr6 _ _ _ _ _ _ _:=up6 rfl rfl hg;have ha:Pf C6 _ _ _:=up6 rfl rfl (j4D x w hw true 0);refine⟨fun y hy=>(by cases hy;exact hw.w),fun e he=>(by cases he),?_⟩
  simp only[errV];obtain⟨k9,n9,s9,b9,z9,x9,c9,y9,ys9,he9⟩:=j07 x;rw[he9] at ha⊢;cases hw.c;refine j00 Tryz.func19 rfl rfl rfl ?_;repeat'(first|refine gU ?_|refine gX hfo ?_|refine gX hri ?_|refine j01 hcl fun _=>?_|refine j0V (i:=0) hg rfl rfl rfl rfl rfl rfl rfl ?_|refine gX ha ?_|apply gK)<;>conv=>whnf
  all_goals exact gJ
end
open Go Go.Am Go.Gw
theorem jrF:isTm (ap (la_ tNat (ap (cq [102]) (vr 0))) (cq [107])) ((ev C1 60).call 61 [sv [40,40,92,32,110,97,116,32,40,102,32,35,48,41,41,32,107,41]] [])=true:=by kernel_rfl
theorem jrG:isTm (ap (la_ tNat (vr 0)) (cq [112])) ((ev C1 60).call 61 [sv [40,40,92,32,110,97,116,32,35,48,41,32,112,41]] [])=true:=by kernel_rfl
theorem jrH:isTm (pi_ tNat (ap (cq [113]) (vr 0))) ((ev C1 60).call 61 [sv [40,62,32,110,97,116,32,40,113,32,35,48,41,41]] [])=true:=by kernel_rfl
theorem jrI:isTm (cq [104]) ((ev C1 60).call 61 [sv [104]] [])=true:=by kernel_rfl
theorem jrL:isTm (cq [112]) ((ev C1 60).call 61 [sv [112]] [])=true:=by kernel_rfl
theorem jrM:isTm (ap (cq [113]) (cq [107])) ((ev C1 60).call 61 [sv [40,113,32,107,41]] [])=true:=by kernel_rfl
theorem jrK:isTm (tNat) ((ev C1 60).call 61 [sv [110,97,116]] [])=true:=by kernel_rfl
theorem jrN:isTm (ap (cq [113]) (vr 0)) ((ev C1 60).call 61 [sv [40,113,32,35,48,41]] [])=true:=by kernel_rfl
theorem jrJ:isTm (cq [107]) ((ev C1 60).call 61 [sv [107]] [])=true:=by kernel_rfl
open Go Go.Am Go.Gw
def tA5:Tm:=ap (la_ tNat (ap (cq [102]) (vr 0))) (cq [107])
def tB5:Tm:=ap (la_ tNat (vr 0)) (cq [112])
theorem juv:j2N nv14 60 [] tA5 5000=some (.ok (pi_ tNat tNat),4987):=by kernel_rfl
theorem juw:j2N nv14 60 [] tB5 4987=some (.error 18,4974):=by kernel_rfl
theorem jux:jst nv14 60 [] tL 4974=some (.ok (.mk 1 0 []),4965):=by kernel_rfl
theorem juy:jiD nv14 60 [] (cq [104]) (cq [112]) 4965=some (.ok (),4962):=by kernel_rfl
theorem juz:jiD nv14 60 [] (cq [104]) (ap (cq [113]) (cq [107])) 4962=some (.error 18,4955):=by kernel_rfl
theorem juA:j8C nv14 60 [tNat,ap (cq [113]) (vr 0)] 4955=some (.ok (),4947):=by kernel_rfl
theorem juB:j8C nv14 60 [cq [107]] 4947=some (.error 19,4945):=by kernel_rfl
theorem xiEq:j0h C1.P .eql 38 x y (.ci cs) nilP=some (bv false):=by kernel_rfl
theorem xiNe:j0h C1.P .neq 38 x y (.ci cs) nilP=some (bv true):=by kernel_rfl
theorem jjg{op:BinOp}{K:PV→Prop}(h:jrc op false K):VRes (j0h C1.P op 38 x y (.ci cs) nilP) K:=by
 cases op with
 |eql=>exact⟨_,xiEq,h⟩
 |neq=>exact⟨_,xiNe,h⟩
 |_=>exact h.elim
theorem j8p:CtxN [] (.sl true 0 []):=⟨_,_,_,rfl,.inr ⟨rfl,rfl,rfl⟩,rfl,by simp⟩
theorem jnA{ts:List Tm}{xs:List PV}{b:Bool}(h:TmsP ts xs)(hn:¬xs=[])(hl:ts.length≤100):CtxN ts (.sl b 5 xs):=⟨_,_,_,rfl,.inl ⟨rfl,hn⟩,h,by omega⟩
theorem ji2:Pf C1 16 [] [bv true]:=by
 obtain⟨cs,hE,hB⟩:=jb7;have hB:=hB 5000 (by omega) (by omega)
 have ht:(5000:Int)≤1048576:=by omega
 obtain⟨la,hla,cla⟩:=j1i jrF;obtain⟨lb,hlb,clb⟩:=j1i jrG;obtain⟨lc,hlc,clc⟩:=j1i jrH;obtain⟨lh,hlh,clh⟩:=j1i jrI;obtain⟨lp,hlp,clp⟩:=j1i jrL;obtain⟨lq,hlq,clq⟩:=j1i jrM;obtain⟨ln,hln,cln⟩:=j1i jrK;obtain⟨lr,hlr,clr⟩:=j1i jrN;obtain⟨lk,hlk,clk⟩:=j1i jrJ;have sa:=(j4I hE ht [] _ j8p _ _ hla 5000 _ _ (by omega) (by omega) juv).2.2
 have sb:=(j4I hE ht [] _ j8p _ _ hlb 4987 _ _ (by omega) (by omega) juw).2.2
 have sc:=(jo9 hE ht [] _ j8p _ _ hlc 4974 _ _ (by omega) (by omega) jux).2.2
 have sh:Fr _ _ _ _ _ (.ret [iv 0]) _:=jdo hE ht [] _ j8p _ _ hlh _ _ hlp 4965 _ _ (by omega) (by omega) juy
 have si:=(jdo hE ht [] _ j8p _ _ hlh _ _ hlq 4962 _ _ (by omega) (by omega) juz).2
 have sj:Fr _ _ _ _ _ (.ret [iv 0]) _:=jaW hE ht [tNat,ap (cq [113]) (vr 0)] _ (jnA (b:=true) ⟨ln,[lr],rfl,hln,lr,[],rfl,hlr,rfl⟩ (by simp) (by simp)) 4955 _ _ (by omega) (by omega) juA
 have sk:=(jaW hE ht [cq [107]] _ (jnA (b:=true) ⟨lk,[],rfl,hlk,rfl⟩ (by simp) (by simp)) 4947 _ _ (by omega) (by omega) juB).2
 have so:=jbB cs 5000 4945;have hT:=joo jsV;have hZ:=jom jt0;simp only[errL,errV] at sa sb sc;cases hla.c;cases hlb.c;cases hlc.c;cases hlh.c;cases hlp.c;cases hlq.c;cases hln.c;cases hlr.c;cases hlk.c;obtain⟨u1,u2,u3,u4,u5,u6,u7,u8,u9,ue⟩:=j07 (pi_ tNat tNat);rw[ue] at sa hT;obtain⟨z1,z2,z3,z4,z5,ze⟩:=j0v (.mk 1 0 []);rw[ze] at sc hZ;refine j00 Tryz.func16 rfl rfl rfl ?_;repeat'(first|refine gU ?_|refine j3k hB rfl rfl (j1x rfl ?_)|refine jcB ?_|refine jjg ?_|refine j3l ?_|refine gX cla ?_|refine gX clb ?_|refine gX clc ?_|refine gX clh ?_|refine gX clp ?_|refine gX clq ?_|refine gX cln ?_|refine gX clr ?_|refine gX clk ?_|refine gX hT ?_|refine gX hZ ?_|refine gW sa ?_|refine gW sb ?_|refine gW sc ?_|refine gW sh ?_|refine gW si ?_|refine gW sj ?_|refine gW sk ?_|refine gW so ?_)<;>conv=>whnf
 all_goals rfl
open Go Go.Am Go.Gw
theorem jiB(ctx:List Tm)(b:Bool)(z:Nat)(xs:List PV)(hz:z=5∨xs=[])(hxs:TmsP ctx xs)(t:Tm)(v:PV)(h:TmP t v):∃q,Pf C1 17 [.sl b z xs,v] [bv q]:=by
 have hlen:=hxs.len;have hN:=j6O t v h 100 (by omega) (by omega)
 suffices hh:Finds C1 17 [.sl b z xs,v] [] fun r _=>∃q:Bool,True∧r=.ret [bv q] by
  obtain⟨q,-,hq⟩:=Finds.out (P:=fun _=>True) (R:=fun q=>.ret [bv q]) hh
  exact⟨q,hq⟩
 cases h.c;refine j00 Tryz.func17 rfl rfl rfl ?_;repeat'(first|refine gU ?_|apply gE<;>intro h|refine gX hN ?_)<;>conv=>whnf
 all_goals first|exact⟨_,trivial,rfl⟩|skip
 refine j04 (G:=Nat) (fun i=>[(5,iv i)]) (fun _=>_) (fun i=>i≤ctx.length) (fun i=>ctx.length-i) 0 (by omega) rfl rfl ?_
 intro i hi;dsimp only at hi⊢;repeat'(first|refine gU ?_|apply gE<;>intro h)<;>conv=>whnf
 ·have hi':i<ctx.length:=by omega
  obtain⟨tc,htc⟩:∃tc,ctx[i]?=some tc:=⟨_,List.getElem?_eq_getElem hi'⟩;obtain⟨w,hw,hl⟩:=hxs.at htc;have hN2:=j6O tc w hl 40 (by omega) (by omega)
  cases hl.c;repeat'(first|refine gU ?_|apply gE<;>intro h|refine VIdx.mk _ hw ?_|refine gZ hz ?_|refine gX hN2 ?_)<;>conv=>whnf
  all_goals first|exact⟨_,trivial,rfl⟩|exact VAgain.mk _ rfl _ (j0b rfl rfl rfl) ⟨i+1,by omega,by omega,rfl⟩
 ·exact⟨_,trivial,rfl⟩
theorem j9i{rs:List PV}{st1:Sto}(h:Finds C6 f args [] fun r s=>r=.ret rs∧s=st1)(ha:args.all (pur 8)=true)(hp:rs.all (pur 8)=false)(hb:VBack [] st (.ret rs) st1 K):VCall C6 f args st K:=j1g ha (Finds.mono h (by rintro _ _ ⟨rfl,rfl⟩;exact⟨hp,hb⟩))
theorem jgH(r:Except Int Tm)(hw:∀x,r=.ok x→TmW x)(he:∀e,r=.error e→¬e=0):∃t v e,errV r=[v,iv e]∧TmP t v∧(e=22→r=.error 22)∧(e=0→∃x,r=.ok x)∧(r=.error 22→e=22∧v=.ag zTm):=by
 cases r with
 |error e=>exact⟨tz,.ag zTm,e,rfl,j4A,fun h=>by rw[h],fun h=>absurd h (he e rfl),fun h=>by cases h;exact⟨rfl,rfl⟩⟩
 |ok x=>exact⟨x,encT x,0,rfl,hw x rfl,fun h=>by omega,fun _=>⟨x,rfl⟩,fun h=>by cases h⟩
theorem jeJ(ctx:List Tm)(cv:PV)(hc:CtxA ctx cv)(t:Tm)(v:PV)(h:TmP t v)(fuel more:Int):Pf C6 4 [cv,v,iv fuel,iv more] [bv true]:=by
 have ha:Pf C6 _ _ _:=up6 rfl rfl ji2;obtain⟨b,z,xs,rfl,hz,hxs⟩:∃b z xs,cv=.sl b z xs∧(z=5∨xs=[])∧TmsP ctx xs:=by
  rcases hc with⟨b,z,xs,rfl,hz,hxs,-⟩|⟨rfl,rfl⟩
  ·exact⟨b,z,xs,rfl,hz.imp (·.1) (·.1),hxs⟩
  ·exact⟨false,5,[],rfl,.inl rfl,rfl⟩
 obtain⟨q,hg⟩:=jiB ctx b z xs hz hxs t v h;have hg:Pf C6 _ _ _:=up6 rfl rfl hg;have hv:=h;obtain⟨k1,n1,s1,l1,t1,b1,z1,x1,c1,y1,ys1,-,rfl,-⟩:=h.open
 by_cases hb:0≤fuel∧fuel≤300∧0≤more∧more≤300
 rotate_left
 ·refine j00 Tryz.func4 rfl rfl rfl ?_;repeat'(first|refine gU ?_|apply gE<;>intro h|apply gM<;>intro h|refine gX ha ?_|refine gX hg ?_)<;>conv=>whnf
  all_goals first|rfl|(exfalso;omega)
 obtain⟨f0,f1,m0,m1⟩:=hb;obtain⟨cs,hE,hB⟩:=jb7;have hB1:=up6 rfl rfl (hB fuel (by omega) (by omega))
 have hB2:=up6 rfl rfl (hB (fuel+more) (by omega) (by omega))
 have hok:NvOk nv14:=by
  obtain⟨_,_,_,_,_,_,hok⟩:=hE;exact hok
 obtain⟨n,r,l',r2,l2,g1,g2,d1,d2,d3,d4⟩:=jeK hok ctx t fuel more f0 m0;obtain⟨w1,e1,sa⟩:=jcW hE (tot:=fuel) (by omega) ctx _ hc t _ hv fuel r l' f0 (by omega) g1
 obtain⟨w2,e2,sb⟩:=jcW hE (tot:=fuel+more) (by omega) ctx _ hc t _ hv (fuel+more) r2 l2 (by omega) (by omega) g2
 have c1:Fr6 _ _ _ _ _ _ _:=up6 rfl rfl (jbB cs fuel l');have c2:Fr6 _ _ _ _ _ _ _:=up6 rfl rfl (jbB cs (fuel+more) l2);have r1:Fr6 _ _ _ _ _ _ _:=up6 rfl rfl (j1V cs fuel l');have r2':Fr6 _ _ _ _ _ _ _:=up6 rfl rfl (j1V cs (fuel+more) l2);have u1:Fr6 _ _ _ _ _ _ _:=up6 rfl rfl (j9d cs fuel l');have u2:Fr6 _ _ _ _ _ _ _:=up6 rfl rfl (j9d cs (fuel+more) l2);rcases d4 with⟨a1,a2,a3⟩|⟨a1,a2,a3,a4⟩
 ·subst a1;obtain⟨tb,vb,eb,hb1,hb2,-⟩:=jgH r2 w2 e2;rw[hb1] at sb;simp only[errV] at sa;cases hb2.c;have hS:True:=trivial;refine j00 Tryz.func4 rfl rfl rfl ?_;repeat'(first|refine gU ?_|apply gE<;>intro h|apply gM<;>intro h|refine gX ha ?_|refine gX hg ?_|refine j9i hB1 rfl rfl (j1x rfl ?_))<;>conv=>whnf
  all_goals first|rfl|(exfalso;omega)|skip
  repeat'(first|refine gU ?_|refine j9i hB2 rfl rfl (j1x rfl ?_)|refine jjg ?_|refine j0V (i:=1) sa rfl rfl rfl rfl rfl rfl rfl ?_)<;>conv=>whnf
  repeat'(first|refine gU ?_|refine j0V (i:=2) sb rfl rfl rfl rfl rfl rfl rfl ?_|refine j0V (i:=1) c1 rfl rfl rfl rfl rfl rfl rfl ?_|refine j0V (i:=1) r1 rfl rfl rfl rfl rfl rfl rfl ?_|refine j0V (i:=1) u1 rfl rfl rfl rfl rfl rfl rfl ?_)<;>conv=>whnf
  all_goals first|rfl|(exfalso;omega)|skip
  repeat'(first|refine gU ?_|refine j0V (i:=2) c2 rfl rfl rfl rfl rfl rfl rfl ?_|refine j0V (i:=2) r2' rfl rfl rfl rfl rfl rfl rfl ?_|refine j0V (i:=2) u2 rfl rfl rfl rfl rfl rfl rfl ?_)<;>conv=>whnf
  all_goals first|rfl|(exfalso;omega)|skip
  exact j2t (decide_eq_true (by omega))
 ·subst a2;obtain⟨ta,va,ea,ha1,ha2,ha3,ha4,ha5⟩:=jgH r2 w1 e1;rw[ha1] at sa sb;have hS:Pf C6 _ _ _:=up6 rfl rfl (jfT ta va ha2 ta va ha2);rw[(jir ta ta).2 rfl] at hS;have h22:¬ea=22:=fun e=>a1 (ha3 e)
  have h00:ea=0→l'<fuel:=fun e=>by
   obtain⟨x,hx⟩:=ha4 e;exact a4 x hx
  cases ha2.c;refine j00 Tryz.func4 rfl rfl rfl ?_;repeat'(first|refine gU ?_|apply gE<;>intro h|apply gM<;>intro h|refine gX ha ?_|refine gX hg ?_|refine j9i hB1 rfl rfl (j1x rfl ?_))<;>conv=>whnf
  all_goals first|rfl|(exfalso;omega)|skip
  repeat'(first|refine gU ?_|refine j9i hB2 rfl rfl (j1x rfl ?_)|refine jjg ?_|refine j0V (i:=1) sa rfl rfl rfl rfl rfl rfl rfl ?_)<;>conv=>whnf
  repeat'(first|refine gU ?_|apply gE<;>intro h|refine j0V (i:=2) sb rfl rfl rfl rfl rfl rfl rfl ?_|refine j0V (i:=1) c1 rfl rfl rfl rfl rfl rfl rfl ?_|refine j0V (i:=1) r1 rfl rfl rfl rfl rfl rfl rfl ?_|refine j0V (i:=1) u1 rfl rfl rfl rfl rfl rfl rfl ?_)<;>conv=>whnf
  all_goals first|rfl|(exfalso;omega)|skip
  repeat'(first|refine gU ?_|apply gE<;>intro h|refine gX hS ?_|refine j0V (i:=2) c2 rfl rfl rfl rfl rfl rfl rfl ?_|refine j0V (i:=2) r2' rfl rfl rfl rfl rfl rfl rfl ?_|refine j0V (i:=2) u2 rfl rfl rfl rfl rfl rfl rfl ?_)<;>conv=>whnf
  all_goals first|rfl|(exfalso;omega)|skip
  have h1:=h00 (by assumption)
  exact j2t (decide_eq_true (by omega))
end Go.Proofs.YtbnodhcijeaceaaGreatDoor
