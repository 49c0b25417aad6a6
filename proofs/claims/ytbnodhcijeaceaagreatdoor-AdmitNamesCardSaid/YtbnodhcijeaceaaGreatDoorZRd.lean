/- Types that are held against each other (package infer): types of functions, values that are named; all. -/
import Derived.Test.YtbnodhcijeaceaaGreatDoorZQd
set_option linter.all false
set_option maxHeartbeats 4000000
set_option maxRecDepth 100000
namespace Go.Proofs.YtbnodhcijeaceaaGreatDoor
open Go Go.Am Go.Gw
section
variable{E:Nv}{cs:List PV}{tot:Int}{n:Nat}{I:List Tm→Tm→M Tm}
theorem jl9(x:Lv)(v:PV)(h:LvP x v):Pf C1 106 [v,iv 4] [bv (j0x x 4)]:=j2D x v h 4
theorem jsq(hE:NvP E (.cp cs))(ht:tot≤1048576)(hI:jc9 cs tot I)(fI:∀c t,Fine (I c t))(ctx:List Tm)(cv:PV)(hc:CtxP ctx cv)(t:Tm)(v:PV)(h:TmP t v)(hs:shT t=true)(hk:t.kind=6)(l:Int)(r:Except Int Tm)(l':Int)(h0:0≤l)(h1:l≤tot)(hx:ipiB E n I ctx t l=some (r,l')):IrT 113 [xI,cv,v] cs tot l r l':=by
 have hc':=hc;obtain⟨b,z,xs,rfl,-⟩:=hc';obtain⟨n1,s1,b1,z1,x1,c1,y1,ys1,rfl,hy1,hkid⟩:=kids h hs;obtain⟨a0,ha0,p0,i0⟩:=hkid 0 (by rw[hk];decide)
 obtain⟨a1,ha1,p1,i1⟩:=hkid 1 (by rw[hk];decide)
 have p0':=p0;have p1':=p1;cases p0'.c;cases p1'.c;unfold ipiB at hx;rcases j09 hx with⟨e,q1,rfl⟩|⟨lv,la,q1,q2⟩
 ·obtain⟨he,hf⟩:=j4F hE ht hI fI ctx _ hc _ _ p0 i0 l _ l' h0 h1 q1;refine⟨he,?_⟩;refine j00 Tryz.func113 rfl rfl rfl ?_;repeat'(first|refine gU ?_|refine VIdx.mk _ ha0 ?_|refine gZ hy1 ?_|refine gW hf ?_)<;>conv=>whnf
  all_goals exact gJ
 obtain⟨wy,hwy,hf⟩:=j4F hE ht hI fI ctx _ hc _ _ p0 i0 l _ la h0 h1 q1;have hla:=(j1V (E:=E) (n:=n) fI ctx (t.arg 0)).dn l _ la h0 q1;have hwy':=hwy;cases hwy'.c;rcases j09 q2 with⟨e,q3,rfl⟩|⟨mv,lc,q3,q6⟩
 ·rcases j09 q3 with⟨e',q4,e2⟩|⟨y,lb,q4,q5⟩
  ·cases e2;obtain⟨he,hw⟩:=j6i hI ctx _ hc _ _ p0 i0 _ _ p1 i1 la _ l' (by omega) (by omega) q4
   have hg:=j9l cs tot l' 0 0 [] true 0 [] true 0 [] e he;refine⟨he,?_⟩;refine j00 Tryz.func113 rfl rfl rfl ?_;repeat'(first|refine gU ?_|refine VIdx.mk _ ha0 ?_|refine VIdx.mk _ ha1 ?_|refine gZ hy1 ?_|refine gW hf ?_|refine gW hw ?_|refine gW hg ?_|apply gK)<;>conv=>whnf
   all_goals exact gJ
  ·obtain⟨-,wb,hwb,hw⟩:=j6i hI ctx _ hc _ _ p0 i0 _ _ p1 i1 la _ lb (by omega) (by omega) q4
   have hlb:=(j2P fI ctx (t.arg 0) (t.arg 1)).dn la _ lb (by omega) q4
   obtain⟨he,hg⟩:=j5v E cs hE tot ht n y _ hwb lb _ l' (by omega) (by omega) q5
   cases hwb.c;refine⟨he,?_⟩;refine j00 Tryz.func113 rfl rfl rfl ?_;repeat'(first|refine gU ?_|refine VIdx.mk _ ha0 ?_|refine VIdx.mk _ ha1 ?_|refine gZ hy1 ?_|refine gW hf ?_|refine gW hw ?_|refine gW hg ?_|apply gK)<;>conv=>whnf
   all_goals exact gJ
 rcases j09 q3 with⟨e',q4,e2⟩|⟨y,lb,q4,q5⟩
 ·cases e2
 obtain⟨-,wb,hwb,hw⟩:=j6i hI ctx _ hc _ _ p0 i0 _ _ p1 i1 la _ lb (by omega) (by omega) q4
 have hlb:=(j2P fI ctx (t.arg 0) (t.arg 1)).dn la _ lb (by omega) q4
 obtain⟨wm,hwm,hg⟩:=j5v E cs hE tot ht n y _ hwb lb _ lc (by omega) (by omega) q5
 cases hwb.c;have hM:=jfA lv _ hwy mv _ hwm;have hsu:LvP (j8S lv mv) (encL (j8S lv mv)):=by
  unfold j8S;split
  ·exact jbj (by simp) (by simp)
  ·split
   ·exact hwm.w
   ·exact jbj (by simp) (fun x hx=>by
     rcases List.mem_cons.1 hx with rfl|hx
     ·exact hwy.w
     ·rw[List.mem_singleton.1 hx];exact hwm.w)
 generalize j8S lv mv=q at *;have hR:=jl9 q _ hsu;have hso:=jdD q _ hsu;have hsv:=jeX hsu;obtain⟨k7,n7,b7,z7,x7,he7⟩:=j0A q;unfold jlK at hso hsv;cases hwm.c;rw[he7] at hM hR hso hsv;rcases j09 q6 with⟨e,q7,rfl⟩|⟨y9,ld,q7,q8⟩
 ·unfold j6B at q7;cases hr:j0x q 4 with
  |true=>
   rw[hr] at q7;cases q7
  |false=>
   rw[hr] at q7 hR;cases q7;refine⟨by omega,?_⟩
   refine j00 Tryz.func113 rfl rfl rfl ?_;repeat'(first|refine gU ?_|refine VIdx.mk _ ha0 ?_|refine VIdx.mk _ ha1 ?_|refine gZ hy1 ?_|refine gW hf ?_|refine gW hw ?_|refine gW hg ?_|refine gX hM ?_|refine gX hR ?_|apply gK)<;>conv=>whnf
   all_goals exact gJ
 ·unfold j6B at q7;cases hr:j0x q 4 with
  |false=>
   rw[hr] at q7;cases q7
  |true=>
   rw[hr] at q7 hR;cases q7;cases q8;refine⟨⟨jeT q,jbK hr⟩,_,hsv,?_⟩;refine j00 Tryz.func113 rfl rfl rfl ?_;repeat'(first|refine gU ?_|refine VIdx.mk _ ha0 ?_|refine VIdx.mk _ ha1 ?_|refine gZ hy1 ?_|refine gW hf ?_|refine gW hw ?_|refine gW hg ?_|refine gX hM ?_|refine gX hR ?_|refine gX hso ?_|apply gK)<;>conv=>whnf
   all_goals exact gJ
theorem jpO(hE:NvP E (.cp cs))(ht:tot≤1048576)(hI:jc9 cs tot I)(fI:∀c t,Fine (I c t))(ctx:List Tm)(cv:PV)(hc:CtxP ctx cv)(t:Tm)(v:PV)(h:TmP t v)(hs:shT t=true)(hk:t.kind=7)(l:Int)(r:Except Int Tm)(l':Int)(h0:0≤l)(h1:l≤tot)(hx:jsm E n I ctx t l=some (r,l')):IrT 114 [xI,cv,v] cs tot l r l':=by
 have hc':=hc;obtain⟨b,z,xs,rfl,-⟩:=hc';obtain⟨n1,s1,b1,z1,x1,c1,y1,ys1,rfl,hy1,hkid⟩:=kids h hs;obtain⟨a0,ha0,p0,i0⟩:=hkid 0 (by rw[hk];decide)
 obtain⟨a1,ha1,p1,i1⟩:=hkid 1 (by rw[hk];decide)
 obtain⟨a2,ha2,p2,i2⟩:=hkid 2 (by rw[hk];decide)
 have p0':=p0;have p1':=p1;have p2':=p2;cases p0'.c;cases p1'.c;cases p2'.c;unfold jsm at hx;rcases j09 hx with⟨e,q1,rfl⟩|⟨lv,la,q1,q2⟩
 ·obtain⟨he,hf⟩:=j4F hE ht hI fI ctx _ hc _ _ p0 i0 l _ l' h0 h1 q1;refine⟨he,?_⟩;refine j00 Tryz.func114 rfl rfl rfl ?_;repeat'(first|refine gU ?_|refine VIdx.mk _ ha0 ?_|refine gZ hy1 ?_|refine gW hf ?_)<;>conv=>whnf
  all_goals exact gJ
 obtain⟨wy,hwy,hf⟩:=j4F hE ht hI fI ctx _ hc _ _ p0 i0 l _ la h0 h1 q1;have hla:=(j1V (E:=E) (n:=n) fI ctx (t.arg 0)).dn l _ la h0 q1;cases hwy.c;rcases j09 q2 with⟨e,q3,rfl⟩|⟨u0,lb,q3,q4⟩
 ·obtain⟨he,hch⟩:=j6O hE ht hI fI ctx _ hc _ _ p1 i1 _ _ p0 la _ l' (by omega) (by omega) q3
  refine⟨he,?_⟩;refine j00 Tryz.func114 rfl rfl rfl ?_;repeat'(first|refine gU ?_|refine VIdx.mk _ ha0 ?_|refine VIdx.mk _ ha1 ?_|refine gZ hy1 ?_|refine gW hf ?_|refine gW hch ?_|apply gK)<;>conv=>whnf
  all_goals exact gJ
 have hch:Fr _ _ _ _ _ (.ret [iv 0]) lb:=j6O hE ht hI fI ctx _ hc _ _ p1 i1 _ _ p0 la _ lb (by omega) (by omega) q3
 have hlb:=(j4A (E:=E) (n:=n) fI ctx (t.arg 1) (t.arg 0)).dn la _ lb (by omega) q3
 have hN:=j6K _ _ p2 [t.arg 1] true 5 _ (.inl rfl) ⟨_,[],rfl,p1,rfl⟩ (by simp)
 have hoW:TmW ((InstF (t.arg 2) [t.arg 1]).getD tz):=j7k fun x hx=>j8O (by simpa using p1.w) p2.w hx
 rw[j5B] at hN;have hoS:∀x,InstF (t.arg 2) [t.arg 1]=some x→shT x=true:=fun x hx=>j6J hx
 generalize InstF (t.arg 2) [t.arg 1]=o at *;unfold TmW at hoW;obtain⟨k9,n9,s9,b9,z9,x9,c9,y9,ys9,he9⟩:=j07 (o.getD tz);rw[he9] at hN hoW;rcases j09 q4 with⟨e,q5,rfl⟩|⟨y,lc,q5,q6⟩
 ·obtain⟨rfl,rfl,hfi⟩:=j8i o _ hoW q5;refine⟨by omega,?_⟩
  refine j00 Tryz.func114 rfl rfl rfl ?_;repeat'(first|refine gU ?_|refine VIdx.mk _ ha0 ?_|refine VIdx.mk _ ha1 ?_|refine VIdx.mk _ ha2 ?_|refine gZ hy1 ?_|refine gW hf ?_|refine gW hch ?_|refine j01 hN fun _=>?_|refine j01 hfi fun _=>?_|apply gK)<;>conv=>whnf
  all_goals exact gJ
 ·obtain⟨rfl,rfl,hzy,hfi⟩:=j8i o _ hoW q5;have hwy:TmP y (.ag [iv k9,iv n9,sv s9,.sl b9 z9 x9,.sl c9 y9 ys9]):=hoW;have hg:=hI ctx _ hc _ _ hwy (hoS _ rfl) lc r l' (by omega) (by omega) q6
  cases r with
  |error e=>
   obtain⟨he,hg⟩:=hg;refine⟨he,?_⟩;refine j00 Tryz.func114 rfl rfl rfl ?_;repeat'(first|refine gU ?_|refine VIdx.mk _ ha0 ?_|refine VIdx.mk _ ha1 ?_|refine VIdx.mk _ ha2 ?_|refine gZ hy1 ?_|refine gW hf ?_|refine gW hch ?_|refine j01 hN fun _=>?_|refine j01 hfi fun _=>?_|refine gW hg ?_|apply gK)<;>conv=>whnf
   all_goals exact gJ
  |ok x=>
   obtain⟨g1,wx,hwx,hg⟩:=hg;refine⟨g1,_,hwx,?_⟩;cases hwx.c;refine j00 Tryz.func114 rfl rfl rfl ?_;repeat'(first|refine gU ?_|refine VIdx.mk _ ha0 ?_|refine VIdx.mk _ ha1 ?_|refine VIdx.mk _ ha2 ?_|refine gZ hy1 ?_|refine gW hf ?_|refine gW hch ?_|refine j01 hN fun _=>?_|refine j01 hfi fun _=>?_|refine gW hg ?_|apply gK)<;>conv=>whnf
   all_goals exact gJ
theorem IrT.via{f g:FuncId}{args args' cs:List PV}{tot l l0:Int}{r:Except Int Tm}{l':Int}(h:IrT f args cs tot l r l')(ho:∀(k9 n9:Int) (s9:List UInt8) (b9:Bool) (z9:Nat) (x9:List PV) (c9:Bool) (y9:Nat) (ys9:List PV) (e:Int),Fr f args cs tot l (.ret [.ag [iv k9,iv n9,sv s9,.sl b9 z9 x9,.sl c9 y9 ys9],iv e]) l'→Fr g args' cs tot l0 (.ret [.ag [iv k9,iv n9,sv s9,.sl b9 z9 x9,.sl c9 y9 ys9],iv e]) l'):IrT g args' cs tot l0 r l':=by
 cases r with
 |error e=>
  obtain⟨he,hg⟩:=h;exact⟨he,ho _ _ _ _ _ _ _ _ _ _ hg⟩
 |ok x=>
  obtain⟨g1,wx,hwx,hg⟩:=h;have hwx':=hwx;cases hwx'.c;exact⟨g1,_,hwx,ho _ _ _ _ _ _ _ _ _ _ hg⟩
theorem jl0(hE:NvP E (.cp cs))(ht:tot≤1048576)(hI:jc9 cs tot I)(fI:∀c t,Fine (I c t)):jc9 cs tot (jge E n I):=by
 intro ctx cv hc t v h hs l r l' h0 h1 hx;have hc':=hc;obtain⟨b,z,xs,rfl,hz,hxs,h64,-⟩:=hc';have h':=h;have hr:=j7t cs tot l;obtain⟨k1,n1,s1,l1,t1,b1,z1,x1,c1,y1,ys1,et,rfl,-⟩:=h'.open;have ek:t.kind=k1:=by subst et;rfl
 clear et;unfold jge at hx;rcases j09 hx with⟨e,q1,rfl⟩|⟨u0,la,q1,q2⟩
 ·rcases j1d q1 with⟨a1,a2,a3⟩|⟨a1,a2,a3⟩
  ·cases a3
  cases a3;subst a2;have hk:=jf0 cs tot l' a1;refine⟨by omega,?_⟩
  refine j00 Tryz.func68 rfl rfl rfl ?_;repeat'(first|refine gU ?_|refine gW hr ?_|refine gW hk ?_)<;>conv=>whnf
  all_goals exact gJ
 rcases j1d q1 with⟨a1,a2,a3⟩|⟨a1,a2,a3⟩
 rotate_left
 ·cases a3
 subst a2;have hk:=jf1 cs tot l a1 h1 ht;unfold j8j at q2;rw[ek] at q2;split at q2
 ·have hg:=jpK hE ht hI fI ctx _ hc t _ h hs (by omega) (l-1) r l' (by omega) (by omega) q2
  refine IrT.via hg fun k9 n9 s9 b9 z9 x9 c9 y9 ys9 e hg=>?_
  refine j00 Tryz.func68 rfl rfl rfl ?_;repeat'(first|refine gU ?_|refine gW hr ?_|refine gW hk ?_|refine gW hg ?_)<;>conv=>whnf
  all_goals exact gJ
 split at q2
 ·have hg:=jpN hE ht hI fI ctx _ hc t _ h hs (by omega) (l-1) r l' (by omega) (by omega) q2
  refine IrT.via hg fun k9 n9 s9 b9 z9 x9 c9 y9 ys9 e hg=>?_
  refine j00 Tryz.func68 rfl rfl rfl ?_;repeat'(first|refine gU ?_|refine gW hr ?_|refine gW hk ?_|refine gW hg ?_)<;>conv=>whnf
  all_goals exact gJ
 split at q2
 ·have hg:=jsq hE ht hI fI ctx _ hc t _ h hs (by omega) (l-1) r l' (by omega) (by omega) q2
  refine IrT.via hg fun k9 n9 s9 b9 z9 x9 c9 y9 ys9 e hg=>?_
  refine j00 Tryz.func68 rfl rfl rfl ?_;repeat'(first|refine gU ?_|refine gW hr ?_|refine gW hk ?_|refine gW hg ?_)<;>conv=>whnf
  all_goals exact gJ
 split at q2
 ·have hg:=jpO hE ht hI fI ctx _ hc t _ h hs (by omega) (l-1) r l' (by omega) (by omega) q2
  refine IrT.via hg fun k9 n9 s9 b9 z9 x9 c9 y9 ys9 e hg=>?_
  refine j00 Tryz.func68 rfl rfl rfl ?_;repeat'(first|refine gU ?_|refine gW hr ?_|refine gW hk ?_|refine gW hg ?_)<;>conv=>whnf
  all_goals exact gJ
 ·have hg:IrT 44 [.ci [.bp 0 0],.sl b z xs,.ag [iv k1,iv n1,sv s1,.sl b1 z1 x1,.sl c1 y1 ys1]] cs tot (l-1) r l':=by
   obtain⟨g1,g2⟩:=jmE E cs hE tot ht n ctx b z xs hz hxs (by omega) t _ h (l-1) r l' (by omega) (by omega) q2
   cases r with
   |error e=>exact⟨fun e0=>by
     subst e0;exact(jcO (E:=E) (n:=n) ctx t).nz _ _ q2,g2⟩
   |ok x=>exact⟨⟨(g1 x rfl).1,(g1 x rfl).2.1⟩,_,(g1 x rfl).2.2,g2⟩
  refine IrT.via hg fun k9 n9 s9 b9 z9 x9 c9 y9 ys9 e hg=>?_
  refine j00 Tryz.func68 rfl rfl rfl ?_;repeat'(first|refine gU ?_|refine gW hr ?_|refine gW hk ?_|refine gW hg ?_|apply gK)<;>conv=>whnf
  all_goals exact gJ
theorem I_ok(hE:NvP E (.cp cs))(ht:tot≤1048576):∀n,jc9 cs tot (j1I E n)
 |0=>fun _ _ _ _ _ _ _ _ _ _ _ _ h=>by cases h
 |n+1=>jl0 (n:=n) hE ht (I_ok hE ht n) (j0R n)
end
open Go Go.Am Go.Gw
variable{x y:Operand}
theorem jue:j0j C1.P .eql 22 x y (.sl true 0 []) (.sl true 0 [])=some (bv true):=by kernel_rfl
theorem juf{b:Bool}{z:Nat}{c:PV}{cs:List PV}:j0j C1.P .eql 22 x y (.sl b z (c::cs)) (.sl true 0 [])=some (bv false):=by kernel_rfl
def CtxN(ctx:List Tm)(v:PV):Prop:=∃b z xs,v=.sl b z xs∧((z=5∧¬xs=[])∨(xs=[]∧b=true∧z=0))∧TmsP ctx xs∧ctx.length≤1759218604441
theorem jkp(xs:List PV)(b:Bool)(z:Nat)(hz:(z=5∧¬xs=[])∨(xs=[]∧b=true∧z=0))(hp6:xs.all (pur 6)=true)(hl:xs.length≤64):∃b':Bool,(xs=[]→b'=true)∧Pf C1 69 [.sl b z xs] [.sl b' z xs]:=by
 cases xs with
 |nil=>
  obtain⟨rfl,rfl⟩:b=true∧z=0:=by
   rcases hz with⟨-,h⟩|h
   ·exact absurd rfl h
   ·exact h.2
  refine⟨true,fun _=>rfl,?_⟩
  refine j00 Tryz.func69 rfl rfl rfl ?_;repeat'(first|refine gU ?_|refine VRes.mk _ jue ?_)<;>conv=>whnf
  all_goals rfl
 |cons s r=>
  obtain rfl:z=5:=by
   rcases hz with h|h
   ·exact h.1
   ·exact absurd h.1 (by simp)
  refine⟨false,fun e=>(by cases e),?_⟩
  refine j00 Tryz.func69 rfl rfl rfl ?_;repeat'(first|refine gU ?_|refine VRes.mk _ juf ?_|refine VOk.mk (jed (w:=80) (r:=140737488355328) rfl rfl (by simp at hl⊢;omega) (by simp at hl⊢;omega)) ?_)<;>conv=>whnf
  exact j0n rfl (j04 (j0D rfl (by simp) hp6) j0m) rfl rfl
theorem jcQ(ctx:List Tm)(t:Tm):j1A ctx [t]=(j1A ctx []&&j0w t 4 ctx.length):=by
 unfold j1A;simp[Bool.and_assoc]
def IxT(f:FuncId)(args cs:List PV)(tot l:Int)(r:Except Int Tm)(l':Int):Prop:=(∀x,r=.ok x→shT x=true∧sizT x≤2000∧TmW x)∧(∀e,r=.error e→¬e=0)∧Fr f args cs tot l (.ret (errV r)) l'
def IxL(f:FuncId)(args cs:List PV)(tot l:Int)(r:Except Int Lv)(l':Int):Prop:=(∀x,r=.ok x→LvP x (encL x))∧(∀e,r=.error e→¬e=0)∧Fr f args cs tot l (.ret (errL r)) l'
section
variable{E:Nv}{cs:List PV}{tot:Int}{n:Nat}
theorem j7I(hE:NvP E (.cp cs))(ht:tot≤1048576)(ctx:List Tm)(cv:PV)(hc:CtxN ctx cv)(t:Tm)(v:PV)(h:TmP t v)(l:Int)(r:Except Int Tm)(l':Int)(h0:0≤l)(h1:l≤tot)(hx:j4q E n ctx t l=some (r,l')):IxT 19 [xI,cv,v] cs tot l r l':=by
 obtain⟨b,z,xs,rfl,hz,hxs,hbd⟩:=hc;have hlen:=hxs.len;have hfo:=jhM ctx b z xs (hz.imp (·.1) (·.1)) hxs
 have hri:=jd0 t v h b z xs ctx.length hlen;have hv:=h;cases h.c;unfold j4q at hx;rw[jcQ] at hx;rcases j09 hx with⟨e,q1,rfl⟩|⟨u0,la,q1,q2⟩
 ·obtain⟨rfl,d2⟩:=j1q q1;rcases d2 with⟨-,d2⟩|⟨d1,d2⟩
  ·cases d2
  cases d2;refine⟨fun x hx=>(by cases hx),fun e he=>(by cases he;omega),?_⟩
  cases hf:j1A ctx [] with
  |false=>
   rw[hf] at hfo;refine j00 Tryz.func19 rfl rfl rfl ?_;repeat'(first|refine gU ?_|refine gX hfo ?_)<;>conv=>whnf
   all_goals exact gJ
  |true=>
   rw[hf] at hfo d1;have d1:j0w t 4 ctx.length=false:=d1;rw[d1] at hri;refine j00 Tryz.func19 rfl rfl rfl ?_;repeat'(first|refine gU ?_|refine gX hfo ?_|refine gX hri ?_)<;>conv=>whnf
   all_goals exact gJ
 obtain⟨rfl,d2⟩:=j1q q1;rcases d2 with⟨d1,-⟩|⟨-,d2⟩
 rotate_left
 ·cases d2
 have hfm:j1A ctx [t]=true:=by rw[jcQ];exact d1
 obtain⟨hcp,hsh⟩:=j5s hfm (hz.imp (·.1) id) hxs
 have hcp':=hcp;obtain⟨b3,z3,xs3,e3,hz3,hxs3,h64,hsh3⟩:=hcp';obtain⟨b2,hb2,hcl⟩:=jkp xs b z hz hxs.pure6 (by omega)
 have hc2:CtxP ctx (.sl b2 z xs):=⟨_,_,_,rfl,hz.imp (·.1) (fun q=>⟨q.1,hb2 q.1,q.2.2⟩),hxs,h64,hsh3⟩
 rw[Bool.and_eq_true] at d1;rw[d1.1] at hfo;rw[d1.2] at hri;have hg:=I_ok hE ht n ctx _ hc2 t _ hv (hsh t (List.mem_singleton.2 rfl)).1 la r l' h0 h1 q2;cases r with
 |error e=>
  obtain⟨he,hg⟩:=hg;have ha:Pf C1 70 [.ag zTm,.sl true 0 []] [.ag zTm]:=j5R tz _ j5P true 0;refine⟨fun x hx=>(by cases hx),fun e he'=>(by cases he';exact he),?_⟩
  refine j00 Tryz.func19 rfl rfl rfl ?_;repeat'(first|refine gU ?_|refine gX hfo ?_|refine gX hri ?_|refine j01 hcl fun _=>?_|refine gW hg ?_|refine gX ha ?_|apply gK)<;>conv=>whnf
  all_goals exact gJ
 |ok x=>
  obtain⟨g1,w,hw,hg⟩:=hg;have ha:=j5R x w hw true 0;refine⟨fun y hy=>(by cases hy;exact⟨g1.1,g1.2,hw.w⟩),fun e he=>(by cases he),?_⟩
  simp only[errV];obtain⟨k9,n9,s9,b9,z9,x9,c9,y9,ys9,he9⟩:=j07 x;rw[he9] at ha⊢;cases hw.c;refine j00 Tryz.func19 rfl rfl rfl ?_;repeat'(first|refine gU ?_|refine gX hfo ?_|refine gX hri ?_|refine j01 hcl fun _=>?_|refine gW hg ?_|refine gX ha ?_|apply gK)<;>conv=>whnf
  all_goals exact gJ
theorem jgb(ctx:List Tm)(t:Tm):Fine (j4q E n ctx t):=j06 (j0u (by omega)) fun _=>j0R n ctx t
theorem jub:LvP (.mk 0 0 []) (.ag zLv):=⟨true,0,[],rfl,.inr rfl,rfl,by simp⟩
theorem jgc(hE:NvP E (.cp cs))(ht:tot≤1048576)(ctx:List Tm)(cv:PV)(hc:CtxN ctx cv)(t:Tm)(v:PV)(h:TmP t v)(l:Int)(r:Except Int Lv)(l':Int)(h0:0≤l)(h1:l≤tot)(hx:jcV E n ctx t l=some (r,l')):IxL 62 [xI,cv,v] cs tot l r l':=by
 have hc':=hc;obtain⟨b,z,xs,rfl,-⟩:=hc';have h':=h;cases h'.c;have hm:Pf C1 97 [.sl true 3 [.ag zLv]] [.ag zLv]:=j8q _ _ jub true 3 rfl;rcases j09 hx with⟨e,q1,rfl⟩|⟨x,la,q1,q2⟩
 ·obtain⟨-,he,hf⟩:=j7I hE ht ctx _ hc t _ h l _ l' h0 h1 q1;have he:=he _ rfl;simp only[errV] at hf;have hl:=j9l cs tot l' 0 0 [] true 0 [] true 0 [] e he;refine⟨fun x hx=>(by cases hx),fun e he'=>(by cases he';exact he),?_⟩
  simp only[errL];refine j00 Tryz.func62 rfl rfl rfl ?_;repeat'(first|refine gU ?_|refine gW hf ?_|refine gW hl ?_|refine gX hm ?_)<;>conv=>whnf
  all_goals exact gJ
 ·obtain⟨hw,-,hf⟩:=j7I hE ht ctx _ hc t _ h l _ la h0 h1 q1;obtain⟨-,-,hw⟩:=hw x rfl;simp only[errV] at hf;unfold TmW at hw;generalize encT x=w at *;have hla:=(jgb (E:=E) (n:=n) ctx t).dn l _ la h0 q1;have hl:=j5v E cs hE tot ht n x w hw la r l' (by omega) (by omega) q2
  cases hw.c;cases r with
  |error e=>
   obtain⟨he,hl⟩:=hl;refine⟨fun x hx=>(by cases hx),fun e he'=>(by cases he';exact he),?_⟩
   simp only[errL];refine j00 Tryz.func62 rfl rfl rfl ?_;repeat'(first|refine gU ?_|refine gW hf ?_|refine gW hl ?_|refine gX hm ?_)<;>conv=>whnf
   all_goals exact gJ
  |ok y=>
   obtain⟨wy,hwy,hl⟩:=hl;have hm:=j8q y _ hwy true 3 rfl;refine⟨fun y hy=>(by cases hy;exact je2 _ _ hwy),fun e he=>(by cases he),?_⟩
   simp only[errL];obtain⟨k9,n9,b9,z9,x9,he9⟩:=j0A y;rw[he9] at hm⊢;cases hwy.c;refine j00 Tryz.func62 rfl rfl rfl ?_;repeat'(first|refine gU ?_|refine gW hf ?_|refine gW hl ?_|refine gX hm ?_)<;>conv=>whnf
   all_goals exact gJ
theorem jkY(hE:NvP E (.cp cs))(ht:tot≤1048576)(ctx:List Tm)(cv:PV)(hc:CtxN ctx cv)(t:Tm)(v:PV)(h:TmP t v)(u:Tm)(uv:PV)(hu:TmP u uv)(l:Int)(r:Except Int Unit)(l':Int)(h0:0≤l)(h1:l≤tot)(hx:j9j E n ctx t u l=some (r,l')):IrU 63 [xI,cv,v,uv] cs tot l r l':=by
 have hc':=hc;obtain⟨b,z,xs,rfl,hz,hxs,hbd⟩:=hc';have h':=h;have hu':=hu;cases h'.c;cases hu'.c;rcases j09 hx with⟨e,q1,rfl⟩|⟨a,la,q1,q2⟩
 ·obtain⟨-,he,hf⟩:=j7I hE ht ctx _ hc t _ h l _ l' h0 h1 q1;have he:=he _ rfl;simp only[errV] at hf;refine⟨he,?_⟩;refine j00 Tryz.func63 rfl rfl rfl ?_;repeat'(first|refine gU ?_|refine gW hf ?_)<;>conv=>whnf
  all_goals exact gJ
 obtain⟨hw,-,hf⟩:=j7I hE ht ctx _ hc t _ h l _ la h0 h1 q1;obtain⟨-,-,hw⟩:=hw a rfl;simp only[errV] at hf;unfold TmW at hw;have hla:=(jgb (E:=E) (n:=n) ctx t).dn l _ la h0 q1;generalize encT a=w at *;have hw':=hw;cases hw'.c;rcases j09 q2 with⟨e,q3,rfl⟩|⟨ok,lb,q3,q4⟩
 ·have he:¬e=0:=fun e0=>by
   subst e0;exact(j3F (E:=E) (n:=n) ctx a u).nz _ _ q3
  have hg:=j7U E cs hE tot ht n ctx b z xs (hz.imp (·.1) id) hxs hbd a _ hw u _ hu la _ l' (by omega) (by omega) q3
  simp only[errB] at hg;refine⟨he,?_⟩;refine j00 Tryz.func63 rfl rfl rfl ?_;repeat'(first|refine gU ?_|refine gW hf ?_|refine gW hg ?_|apply gK)<;>conv=>whnf
  all_goals exact gJ
 have hg:=j7U E cs hE tot ht n ctx b z xs (hz.imp (·.1) id) hxs hbd a _ hw u _ hu la _ lb (by omega) (by omega) q3
 simp only[errB] at hg;cases ok with
 |true=>
  cases q4;show Fr _ _ _ _ _ (.ret [iv 0]) _
  refine j00 Tryz.func63 rfl rfl rfl ?_;repeat'(first|refine gU ?_|refine gW hf ?_|refine gW hg ?_|apply gK)<;>conv=>whnf
  all_goals exact gJ
 |false=>
  cases q4;refine⟨by omega,?_⟩
  refine j00 Tryz.func63 rfl rfl rfl ?_;repeat'(first|refine gU ?_|refine gW hf ?_|refine gW hg ?_|apply gK)<;>conv=>whnf
  all_goals exact gJ
end
open Go Go.Am Go.Gw
section
variable{E:Nv}{cs:List PV}{tot:Int}{n:Nat}
end
open Go Go.Am Go.Gw
open Go Go.Am Go.Gw
def tA5:Tm:=ap (la_ tNat (ap (cq [102]) (vr 0))) (cq [107])
def tB5:Tm:=ap (la_ tNat (vr 0)) (cq [112])
theorem jdZ:CtxN [] (.sl true 0 []):=⟨_,_,_,rfl,.inr ⟨rfl,rfl,rfl⟩,rfl,by simp⟩
open Go Go.ChangeShapes Go.WideShapes Go.ChangeAt Go.RowKit Go.Am Go.Gw
section
variable{H:Type}{enc:TypeId×Value→H}{W:World}{r:Reach}{b0:Nat}{v:Value}{d:DataW H}{ps:List MemPlace}
theorem jqC:Tryz.prog.readableRec 47=true∧47<Tryz.prog.types.size:=⟨by kernel_rfl,of_decide_eq_true (by kernel_rfl)⟩
theorem jii(fuel:Nat)(cs:List Value)(x:DataW H×List MemPlace)(h:DataW.trod enc Tryz.prog W 0 (fun _=>true) true fuel 25 cs=some x)(hw:∀n∈x.1.weights Tryz.prog 25,n≤reachBytes):∃t ps,TmP t (.ag ps)∧Rl (memB W) noPh ps cs∧ps.all cell=true∧cs.length=5:=
 jtQ Tryz.underlying25 Tryz.underlying22 Tryz.underlying86 Tryz.underlying23 Tryz.underlying3 Tryz.underlying9 (by kernel_rfl) (by kernel_rfl) (by kernel_rfl) (by kernel_rfl) (by kernel_rfl) (by kernel_rfl) (by kernel_rfl) (by kernel_rfl) rfl rfl rfl rfl rfl rfl rfl rfl rfl rfl rfl rfl rfl rfl rfl rfl fuel cs x h hw
theorem js2(fuel:Nat)(cs:List Value)(x:DataW H×List MemPlace)(h:DataW.trod enc Tryz.prog W 0 (fun _=>true) true fuel 125 cs=some x)(hw:∀n∈x.1.weights Tryz.prog 125,n≤reachBytes):∃c ps,LoP c (.ag ps)∧Rl (memB W) noPh ps cs∧ps.all cell=true∧cs.length=6:=by
 have hT:=Tryz.underlying125;obtain⟨xs,n,rfl,rfl,hlen,hxs,hf⟩:=DataW.trod_struct hT h;rw[show Tryz.prog.cellsOf 125=6 by kernel_rfl] at hlen
 obtain⟨c0,c1,c2,c3,c4,c5,rfl⟩:∃c0 c1 c2 c3 c4 c5,cs=[c0,c1,c2,c3,c4,c5]:=by
  match cs,hlen with
  |[c0,c1,c2,c3,c4,c5],_=>exact⟨c0,c1,c2,c3,c4,c5,rfl⟩
 obtain⟨y0,y1,rfl⟩:∃y0 y1,xs=[y0,y1]:=by
  match xs,hxs with
  |[y0,y1],_=>exact⟨y0,y1,rfl⟩
 have g0:DataW.trod enc Tryz.prog W 0 (fun _=>true) true n 9 (([c0,c1,c2,c3,c4,c5].drop 0).take (Tryz.prog.cellsOf 9))=some y0:=hf 0 _ rfl
 have g1:DataW.trod enc Tryz.prog W 0 (fun _=>true) true n 25 (([c0,c1,c2,c3,c4,c5].drop 1).take (Tryz.prog.cellsOf 25))=some y1:=hf 1 _ rfl
 rw[show Tryz.prog.cellsOf 9=1 by kernel_rfl] at g0
 rw[show Tryz.prog.cellsOf 25=5 by kernel_rfl] at g1
 replace g0:DataW.trod enc Tryz.prog W 0 (fun _=>true) true n 9 [c0]=some y0:=g0
 replace g1:DataW.trod enc Tryz.prog W 0 (fun _=>true) true n 25 [c1,c2,c3,c4,c5]=some y1:=g1
 obtain⟨s,hs,rfl,_⟩:=DataW.trod_string Tryz.underlying9 g0;cases hs;have hwj:∀(j:Nat) (t:TypeId) (d:DataW H),([9,25]:List TypeId)[j]?=some t→([.lit (.string s.data.toList),y1.1]:List (DataW H))[j]?=some d→∀n∈d.weights Tryz.prog t,n≤reachBytes:=fun j t d hj hd u hu=>hw u (by
  simp only[DataW.weights,hT,List.map_cons,List.map_nil];exact DataW.weights_mem_each (j:=j) hj hd u hu)
 have hsl:s.data.toList.length≤reachBytes:=hwj 0 9 _ rfl rfl _ (by simp[DataW.weights])
 have hw1:=hwj 1 25 y1.1 rfl rfl;obtain⟨t,ps,h1,h2,h3,h4⟩:=jii n _ y1 g1 hw1;unfold reachBytes at hsl;refine⟨(s.data.toList,t),sv s.data.toList::ps,⟨ps,rfl,h1,by dsimp only;omega⟩,.cons ?_ h2,?_,rfl⟩
 ·rw[j9Y s];exact .sc rfl
 ·rw[List.all_cons,h3];rfl
theorem LosP.of:∀{zs:List ((List UInt8×Tm)×List PV)},(∀(i:Nat) (z:(List UInt8×Tm)×List PV),zs[i]?=some z→LoP z.1 (.ag z.2))→LosP (zs.map (·.1)) (zs.map fun z=>.ag z.2)
 |[],_=>by simp only[List.map_nil,LosP]
 |z::r,h=>by
  simp only[List.map_cons,LosP];exact⟨_,_,rfl,h 0 z rfl,LosP.of fun i z' hz=>h (i+1) z' (by simpa using hz)⟩
theorem jmQ(fuel:Nat)(cs:List Value)(x:DataW H×List MemPlace)(h:DataW.trod enc Tryz.prog W 0 (fun _=>true) true fuel 47 cs=some x)(hw:∀n∈x.1.weights Tryz.prog 47,n≤reachBytes):∃c ps,DcP c (.ag ps)∧Rl (memB W) noPh ps cs∧ps.all cell=true∧cs.length=15:=by
 have hT:=Tryz.underlying47;obtain⟨xs,n,rfl,rfl,hlen,hxs,hf⟩:=DataW.trod_struct hT h;rw[show Tryz.prog.cellsOf 47=15 by kernel_rfl] at hlen
 obtain⟨c0,c1,c2,c3,c4,c5,c6,c7,c8,c9,c10,c11,c12,c13,c14,rfl⟩:∃c0 c1 c2 c3 c4 c5 c6 c7 c8 c9 c10 c11 c12 c13 c14,cs=[c0,c1,c2,c3,c4,c5,c6,c7,c8,c9,c10,c11,c12,c13,c14]:=by
  match cs,hlen with
  |[c0,c1,c2,c3,c4,c5,c6,c7,c8,c9,c10,c11,c12,c13,c14],_=>exact⟨c0,c1,c2,c3,c4,c5,c6,c7,c8,c9,c10,c11,c12,c13,c14,rfl⟩
 obtain⟨y0,y1,y2,y3,y4,y5,y6,rfl⟩:∃y0 y1 y2 y3 y4 y5 y6,xs=[y0,y1,y2,y3,y4,y5,y6]:=by
  match xs,hxs with
  |[y0,y1,y2,y3,y4,y5,y6],_=>exact⟨y0,y1,y2,y3,y4,y5,y6,rfl⟩
 have g0:DataW.trod enc Tryz.prog W 0 (fun _=>true) true n 3 (([c0,c1,c2,c3,c4,c5,c6,c7,c8,c9,c10,c11,c12,c13,c14].drop 0).take (Tryz.prog.cellsOf 3))=some y0:=hf 0 _ rfl
 have g1:DataW.trod enc Tryz.prog W 0 (fun _=>true) true n 3 (([c0,c1,c2,c3,c4,c5,c6,c7,c8,c9,c10,c11,c12,c13,c14].drop 1).take (Tryz.prog.cellsOf 3))=some y1:=hf 1 _ rfl
 have g2:DataW.trod enc Tryz.prog W 0 (fun _=>true) true n 9 (([c0,c1,c2,c3,c4,c5,c6,c7,c8,c9,c10,c11,c12,c13,c14].drop 2).take (Tryz.prog.cellsOf 9))=some y2:=hf 2 _ rfl
 have g3:DataW.trod enc Tryz.prog W 0 (fun _=>true) true n 25 (([c0,c1,c2,c3,c4,c5,c6,c7,c8,c9,c10,c11,c12,c13,c14].drop 3).take (Tryz.prog.cellsOf 25))=some y3:=hf 3 _ rfl
 have g4:DataW.trod enc Tryz.prog W 0 (fun _=>true) true n 25 (([c0,c1,c2,c3,c4,c5,c6,c7,c8,c9,c10,c11,c12,c13,c14].drop 8).take (Tryz.prog.cellsOf 25))=some y4:=hf 4 _ rfl
 have g5:DataW.trod enc Tryz.prog W 0 (fun _=>true) true n 3 (([c0,c1,c2,c3,c4,c5,c6,c7,c8,c9,c10,c11,c12,c13,c14].drop 13).take (Tryz.prog.cellsOf 3))=some y5:=hf 5 _ rfl
 have g6:DataW.trod enc Tryz.prog W 0 (fun _=>true) true n 45 (([c0,c1,c2,c3,c4,c5,c6,c7,c8,c9,c10,c11,c12,c13,c14].drop 14).take (Tryz.prog.cellsOf 45))=some y6:=hf 6 _ rfl
 rw[show Tryz.prog.cellsOf 3=1 by kernel_rfl] at g0 g1 g5
 rw[show Tryz.prog.cellsOf 9=1 by kernel_rfl] at g2
 rw[show Tryz.prog.cellsOf 25=5 by kernel_rfl] at g3 g4
 rw[show Tryz.prog.cellsOf 45=1 by kernel_rfl] at g6
 replace g0:DataW.trod enc Tryz.prog W 0 (fun _=>true) true n 3 [c0]=some y0:=g0
 replace g1:DataW.trod enc Tryz.prog W 0 (fun _=>true) true n 3 [c1]=some y1:=g1
 replace g2:DataW.trod enc Tryz.prog W 0 (fun _=>true) true n 9 [c2]=some y2:=g2
 replace g3:DataW.trod enc Tryz.prog W 0 (fun _=>true) true n 25 [c3,c4,c5,c6,c7]=some y3:=g3
 replace g4:DataW.trod enc Tryz.prog W 0 (fun _=>true) true n 25 [c8,c9,c10,c11,c12]=some y4:=g4
 replace g5:DataW.trod enc Tryz.prog W 0 (fun _=>true) true n 3 [c13]=some y5:=g5
 replace g6:DataW.trod enc Tryz.prog W 0 (fun _=>true) true n 45 [c14]=some y6:=g6
 obtain⟨k,hk,_,wk⟩:=DataW.trod_int Tryz.underlying3 g0;obtain⟨p,hp,_,wp⟩:=DataW.trod_int Tryz.underlying3 g1;obtain⟨fx,hx,_,wx⟩:=DataW.trod_int Tryz.underlying3 g5;obtain⟨s,hs,rfl,_⟩:=DataW.trod_string Tryz.underlying9 g2;cases hk;cases hp;cases hx;cases hs;have hwj:∀(j:Nat) (t:TypeId) (d:DataW H),([3,3,9,25,25,3,45]:List TypeId)[j]?=some t→([y0.1,y1.1,.lit (.string s.data.toList),y3.1,y4.1,y5.1,y6.1]:List (DataW H))[j]?=some d→∀n∈d.weights Tryz.prog t,n≤reachBytes:=fun j t d hj hd u hu=>hw u (by
  simp only[DataW.weights,hT,List.map_cons,List.map_nil];exact DataW.weights_mem_each (j:=j) hj hd u hu)
 have hsl:s.data.toList.length≤reachBytes:=hwj 2 9 _ rfl rfl _ (by simp[DataW.weights])
 have hw3:=hwj 3 25 y3.1 rfl rfl;have hw4:=hwj 4 25 y4.1 rfl rfl;have hw6:=hwj 6 45 y6.1 rfl rfl;obtain⟨ty,p3,t1,t2,t3,-⟩:=jii n _ y3 g3 hw3;obtain⟨vl,p4,v1,v2,v3,-⟩:=jii n _ y4 g4 hw4;obtain⟨zs,z1,z2,z3⟩:=jaq (V:=LoP) Tryz.underlying45 (show Tryz.prog.cellsOf 125=6 by kernel_rfl) (by omega) (show Tryz.prog.bytesOf 125=96 by kernel_rfl) n c14 y6 g6 hw6 (fun n' _ cs' x' hx' hw'=>js2 n' cs' x' hx' hw')
 unfold reachBytes at hsl z3;have hi:∀{q:Int},(Lit.int .i64 q).wf=true→Gw.i64 q:=fun{q} this=>by
  simp[Lit.wf,IntKind.min,IntKind.max,IntKind.signed,IntKind.bits] at this;unfold Gw.i64;omega
 obtain⟨u1,u2,u3,u4,u5,u6,u7,u8,u9,u10,u11,heq1,hpv1,-⟩:=t1.open;obtain⟨x1,x2,x3,x4,x5,x6,x7,x8,x9,x10,x11,heq2,hpv2,-⟩:=v1.open
 injection hpv1 with hpv1
 injection hpv2 with hpv2
 subst hpv1 hpv2;refine⟨⟨k,p,s.data.toList,ty,vl,fx,zs.map (·.1)⟩,_,.mk k p s.data.toList ty vl fx (zs.map (·.1)) _ _ _ _ _ _ _ _ _ _ _ _ _ _ _ _ _ _ false 6 (zs.map fun z=>.ag z.2) t1 v1 (.inl rfl) (LosP.of z1) (by rw[List.length_map];omega) (by omega) (hi wk) (hi wp) (hi wx),.cons (.sc rfl) (.cons (.sc rfl) (.cons ?_ (t2.append (v2.append (.cons (.sc rfl) (.cons z2 .nil)))))),rfl,rfl⟩
 rw[j9Y s];exact .sc rfl
theorem jpw(hv:Value.okWide Tryz.prog W r b0 47 v)(h:DataW.Trod enc Tryz.prog W 0 (fun _=>true) true 47 v d ps)(hw:∀n∈d.weights Tryz.prog 47,n≤reachBytes):
  ∃t pv,DcP t pv∧Am.R (memB W) Am.noPh pv v:=by
 obtain⟨cs,rfl,hsz⟩:=okWide_struct Tryz.underlying47 hv;obtain⟨fuel,hf⟩:=h;obtain⟨l,ps,h1,h2,h3,h4⟩:=jmQ fuel _ _ hf hw;refine⟨l,.ag ps,h1,?_⟩;have h2':Am.Rl (memB W) Am.noPh ps cs.toList:=by simpa[Value.cells] using h2
 have:=Am.R.ag h2'.1 h3 h2'.2;simpa using this
end
open Go Go.Am Go.Gw
theorem cq_P(s:List UInt8)(hs:s.length≤1000):TmP (cq s) (.ag [iv 3,iv 0,sv s,.sl true 0 [],.sl true 0 []]):=
 ⟨true,0,[],true,0,[],rfl,.inr rfl,rfl,by simp,.inr rfl,rfl,by simp,by omega,by unfold i64;omega⟩
end Go.Proofs.YtbnodhcijeaceaaGreatDoor
