/- Bytes that are made of numbers and texts (wire, pack): that they are made; which they are is not asked. -/
import Derived.Test.YtbnodhcijeaceaaGreatDoorZUf
set_option linter.all false
set_option maxHeartbeats 2000000
set_option maxRecDepth 100000
namespace Go.Proofs.YtbnodhcijeaceaaGreatDoor
open Go Go.Am Go.Gw
def andI(a b:Int):Int:=IntKind.i64.wrap ((BitVec.ofInt 64 a &&& BitVec.ofInt 64 b).toNat:Int)
def orI(a b:Int):Int:=IntKind.i64.wrap ((BitVec.ofInt 64 a |||BitVec.ofInt 64 b).toNat:Int)
variable{ρ:AEnv}{a b k p:Int}{cs r xs:List PV}{k0 m n w z:Nat}{x y:Operand}{K:PV→Prop}{P:Program}{T:TypeId}
theorem band:j0j P .and T x y (iv a) (iv b)=some (iv (andI a b)):=by
 simp only[j0j,j6E,eqGuard,binOp,Op.intBits];rfl
theorem bor:j0j P .or T x y (iv a) (iv b)=some (iv (orI a b)):=by
 simp only[j0j,j6E,eqGuard,binOp,Op.intBits];rfl
theorem ju2:j0j P .shr T x y (iv a) (.sc (.int .u64 7))=some (iv (a/128)):=by
 have e:a.fdiv (2^7)=a/128:=by rw[Int.fdiv_eq_ediv_of_nonneg _ (by decide)];rfl
 have h:¬((7:Int)<0):=by omega
 have hm:min (7:Int).toNat IntKind.i64.bits=7:=by decide
 simp only[j0j,j6E,eqGuard,binOp,Op.shift,if_neg h,hm,e];rfl
def ju1(op:BinOp)(a b:Int)(K:PV→Prop):Prop:=match op with
 | .and=>K (iv (andI a b))
 | .or=>K (iv (orI a b))
 |_=>False
theorem jk4{op:BinOp}(h:ju1 op a b K):VRes (j0j P op T x y (iv a) (iv b)) K:=by
 cases op with
 |and=>exact⟨_,band,h⟩
 |or=>exact⟨_,bor,h⟩
 |_=>exact h.elim
theorem jh2(h:K (iv (a/128))):VRes (j0j P .shr T x y (iv a) (.sc (.int .u64 7))) K:=⟨_,ju2,h⟩
def toB(a:Int):PV:=.sc (.int .u8 (IntKind.u8.wrap a))
theorem toU8(hx:aval ρ x=some (iv a)):jfh C1.P ρ 3 5 x=some (toB a):=by
 have h1:(strT C1.P 3&&jcF C1.P 5)=false:=by kernel_rfl
 have hs:C1.P.underlying 3=some (.int .i64):=by kernel_rfl
 have hd:C1.P.underlying 5=some (.int .u8):=by kernel_rfl
 have e:qrun C1.P (convert 3 5 (.int .i64 a))=some (.int .u8 (IntKind.u8.wrap a)):=by
  unfold convert;simp only[bind];rw[j4a (j1t hs),j4a (j1t hd)];rfl
 simp only[jfh,h1,hx];rw[e];rfl
def bufP(xs:List PV):PV:=match xs with
 |[]=>.sl true 0 []
 |_::r=>.ms 0 (r.length+1)
def bufS(xs:List PV):Sto:=match xs with
 |[]=>[]
 |a::r=>[.row false 5 1 (a::r)]
theorem p68(h:cs.all (pur 6)=true):cs.all (pur 8)=true:=List.all_eq_true.2 fun c hc=>jde (jde (List.all_eq_true.1 h c hc))
theorem jcR(hk0:k0=0∨k0=1)(hp:cs.all (pur 6)=true)(hacc:j9I [[]] 64 (ρ.flatMap (fun p=>ids 8 p.2)) []=[0])(h1:ρ.all (fun p=>j0e (fun i=>Nat.blt i 1) 8 p.2)=true):gc k0 ρ [.row false T z cs]=[.row false T z cs]:=by
 rcases hk0 with rfl|rfl
 ·refine j0L (acc:=[0]) (.cons (j08 (p68 hp)) .nil) (.cons (j08 (p68 hp)) .nil) rfl ?_ rfl h1 rfl;rw[show(List.take 0 [([]:List Nat)]).flatten=[] from rfl,List.append_nil]
  exact hacc
 ·exact j0X rfl
theorem j8L{f:FuncId}{Q:AEnd→Sto→Prop}(hk:C1.keep f=true)(hk0:k0=0∨k0=1)(hp:cs.all (pur 6)=true)(k:Q (.ret [.ms 0 n]) [.row false T z cs]):VRet C1 f k0 [.ms 0 n] [.row false T z cs] Q:=by
 refine j1j (.inl ⟨hk,rfl,rfl⟩) rfl (jcR hk0 hp rfl rfl) (j1a ?_) k;rcases hk0 with rfl|rfl<;>rfl
theorem jaa(xs:List PV):(bufS xs).length=0∨(bufS xs).length=1:=by cases xs<;>simp[bufS]
def Put1(xs:List PV)(n:Nat)(r:AEnd)(st:Sto):Prop:=∃ys,r=.ret [bufP ys]∧st=bufS ys∧ys.all (pur 6)=true∧ys.length≤xs.length+n∧0<ys.length
theorem j2L{y:PV}(hp:(y::r).all (pur 6)=true)(hl:(y::r).length≤xs.length+n)(hm:m=r.length+1)(T:TypeId)(z:Nat)(hT:T=5)(hz:z=1):Put1 xs n (.ret [.ms 0 m]) [.row false T z (y::r)]:=by
 subst hm hT hz;exact⟨y::r,rfl,rfl,hp,hl,by simp⟩
theorem jm0(n:Int):Pf C1 383 [iv n] [bv (decide (0≤n)&&decide (n≤1099511627776))]:=by
 refine j00 Tryz.func383 rfl rfl rfl ?_;repeat'(first|refine gU ?_|apply gE<;>intro h)<;>conv=>whnf
 all_goals
  refine j2g ?_;rw[Bool.eq_iff_iff];simp;omega
theorem jk6(n:Int)(h0:0≤n)(h1:n≤1099511627776)(xs:List PV)(hp:xs.all (pur 6)=true)(hl:xs.length≤100000000):Finds C1 384 [bufP xs,iv n] (bufS xs) (Put1 xs 6):=by
 refine j00 Tryz.func384 rfl rfl rfl ?_;all_goals try conv=>whnf
 refine j03 (G:=List PV×Int) (fun g=>[(0,bufP g.1),(1,iv g.2)]) (fun g=>bufS g.1) (fun g=>g.1.all (pur 6)=true∧0≤g.2∧((g.1.length=xs.length∧g.2<4398046511104)∨(g.1.length=xs.length+1∧g.2<34359738368)∨(g.1.length=xs.length+2∧g.2<268435456)∨(g.1.length=xs.length+3∧g.2<2097152)∨(g.1.length=xs.length+4∧g.2<16384)∨(g.1.length=xs.length+5∧g.2<128))) (fun g=>g.2.toNat) (xs,n) ⟨hp,h0,by dsimp only;omega⟩ rfl rfl ?_
 rintro⟨ys,m⟩ ⟨hys,hm0,hor⟩;dsimp only at hys hm0 hor⊢;cases ys with
 |nil=>
  simp only[bufP,bufS];repeat'(first|refine gU ?_|apply gE<;>intro h|refine jk4 ?_|refine jh2 ?_|refine VRes.mk _ (toU8 rfl) ?_)<;>conv=>whnf
  ·have h8:[toB (orI (andI m 127) 128)].all (pur 6)=true:=rfl;refine VAgain.mk _ rfl _ (jcR (jaa xs) h8 rfl rfl) ⟨([toB (orI (andI m 127) 128)],m/128),⟨h8,by dsimp only;omega,?_⟩,by dsimp only;omega,rfl⟩
   simp only[List.length_nil,List.length_cons] at hor⊢;omega
  ·have h8:[toB m].all (pur 6)=true:=rfl;refine j8L rfl (jaa xs) h8 (j2L h8 ?_ rfl _ _ rfl rfl);simp only[List.length_nil,List.length_cons] at hor⊢;omega
 |cons y r=>
  simp only[bufP,bufS];have hyl:r.length≤100000010:=by simp only[List.length_cons] at hor;omega
  repeat'(first|refine gU ?_|apply gE<;>intro h|refine jk4 ?_|refine jh2 ?_|refine VRes.mk _ (toU8 rfl) ?_|refine VOk.mk (j1h (w:=1) (r:=140737488355328) (by simp:(y::r).length=r.length+1) rfl rfl rfl rfl (by simp only[List.length_cons,List.length_nil];omega) (by simp only[List.length_cons,List.length_nil];omega)) ?_)<;>conv=>whnf
  ·have h8:(y::r++[toB (orI (andI m 127) 128)]).all (pur 6)=true:=by rw[List.all_append,hys];rfl
   refine VAgain.mk _ rfl _ (jcR (jaa xs) h8 rfl rfl) ⟨(y::r++[toB (orI (andI m 127) 128)],m/128),⟨h8,by dsimp only;omega,?_⟩,by dsimp only;omega,?_⟩
   ·simp only[List.length_append,List.length_nil,List.length_cons] at hor⊢;omega
   ·simp only[List.cons_append,bufP,List.length_append];rfl
  ·have h8:(y::r++[toB m]).all (pur 6)=true:=by rw[List.all_append,hys];rfl
   refine j8L rfl (jaa xs) h8 (j2L (r:=r++[toB m]) h8 ?_ (by simp) _ _ rfl rfl)
   simp only[List.length_append,List.cons_append,List.length_nil,List.length_cons] at hor⊢;omega
theorem jp5(n:Int)(h0:0≤n)(h1:n≤1099511627776)(b:Bool):∃ys:List PV,ys.all (pur 6)=true∧ys.length≤6∧0<ys.length∧Pf C1 363 [.sl b 1 [iv n]] [.sl false 1 ys,bv true]:=by
 have hr:=jm0 n;rw[decide_eq_true h0,decide_eq_true h1] at hr;simp only[Bool.and_self] at hr;have hw:=jk6 n h0 h1 [] rfl (by simp)
 obtain⟨r,st,⟨ys,rfl,rfl,hp,hl,hpos⟩,N,hN⟩:=hw;have hf:Finds C1 384 [.sl true 0 [],iv n] [] fun r st=>r=.ret [bufP ys]∧st=bufS ys:=⟨_,_,⟨rfl,rfl⟩,N,hN⟩
 clear hN;refine⟨ys,hp,by simpa using hl,hpos,?_⟩
 obtain⟨y,yr,rfl⟩:∃y yr,ys=y::yr:=by
  cases ys with
  |nil=>simp at hpos
  |cons y yr=>exact⟨y,yr,rfl⟩
 have hp8:=p68 hp;refine j00 Tryz.func363 rfl rfl rfl ?_;all_goals try conv=>whnf
 refine j03 (G:=Bool) (fun g=>[(9,iv (if g then 1 else 0)),(4,if g then .ms 0 (yr.length+1) else .sl true 0 [])]) (fun g=>if g then[.row false 5 1 (y::yr)] else[]) (fun _=>True) (fun g=>if g then 0 else 1) false trivial rfl rfl ?_
 intro g _;cases g with
 |false=>
  simp only[Bool.false_eq_true,if_false];repeat'(first|refine gU ?_|refine VIdx.mk _ rfl ?_|refine gX hr ?_)<;>conv=>whnf
  refine j1b rfl (Finds.mono hf ?_);rintro _ _ ⟨rfl,rfl⟩;refine⟨rfl,?_⟩;refine j4d (.cons (j0l hp8) .nil) rfl ?_;repeat'(refine gU ?_)<;>conv=>whnf
  refine VAgain.mk _ rfl _ (jcR (.inl rfl) hp rfl rfl) ⟨true,trivial,by simp,rfl⟩
 |true=>
  simp only[if_true];repeat'(refine gU ?_)<;>conv=>whnf
  refine j0n rfl (j04 (j0D rfl (by simp) hp) (j04 rfl j0m)) rfl rfl
theorem jj8{U t t' a b:Nat}(hs:strT P U=true)(h:xs.length=n)(h0:0<n)(ht:Nat.beq t t'=true)(hw:Nat.beq w 1=true)(ha:Nat.beq a 1=true)(hb:Nat.beq b 1=true)(h2:n+m≤140737488355328):
  (strT P U&&(Nat.beq n xs.length&&Nat.beq t t'&&Nat.beq w 1&&Nat.beq a 1&&Nat.beq b 1&&Nat.blt 0 n&&fits (n+m) 1))=true:=by
 subst h;have hf:fits (xs.length+m) 1=true:=by
  rw[fits,Nat.mul_one,Bool.and_self];exact Nat.ble_eq_true_of_le h2
 have hlt:Nat.blt 0 xs.length=true:=by rw[Nat.blt_eq];exact h0
 rw[hs,ht,hw,ha,hb,hf,hlt,Nat.beq_refl];rfl
def bsv(s:List UInt8):List PV:=s.map fun c=>.sc (.int .u8 c.toNat)
theorem jiP(s:List UInt8):(bsv s).all (pur 6)=true:=by
 rw[List.all_eq_true]
 intro x hx;obtain⟨c,_,rfl⟩:=List.mem_map.1 hx;rfl
theorem jm2(s:List UInt8)(hs:s.length≤1000000)(b:Bool):Finds C1 364 [.sl true 0 [],.sl b 1 [sv s]] [] (Put1 [] (6+s.length)):=by
 have hlen:(⟨s.toArray⟩:ByteArray).size=s.length:=j2K _;obtain⟨r,st,⟨ys,rfl,rfl,hp,hl,hpos⟩,N,hN⟩:=jk6 s.length (by omega) (by omega) [] rfl (by simp)
 have hf:Finds C1 384 [.sl true 0 [],iv s.length] [] fun r st=>r=.ret [bufP ys]∧st=bufS ys:=⟨_,_,⟨rfl,rfl⟩,N,hN⟩
 clear hN;obtain⟨y,yr,rfl⟩:∃y yr,ys=y::yr:=by
  cases ys with
  |nil=>simp at hpos
  |cons y yr=>exact⟨y,yr,rfl⟩
 have hp8:=p68 hp;refine j00 Tryz.func364 rfl rfl rfl ?_;all_goals try conv=>whnf
 refine j03 (G:=Bool) (fun g=>[(9,iv (if g then 1 else 0)),(0,if g then .ms 0 (yr.length+1+s.length) else .sl true 0 [])]) (fun g=>if g then[.row false 5 1 (y::yr++bsv s)] else[]) (fun _=>True) (fun g=>if g then 0 else 1) false trivial rfl rfl ?_
 intro g _;cases g with
 |false=>
  simp only[Bool.false_eq_true,if_false];repeat'(first|refine gU ?_|refine VIdx.mk _ rfl ?_)<;>conv=>whnf
  refine j1b rfl (Finds.mono hf ?_);rintro _ _ ⟨rfl,rfl⟩;refine⟨rfl,?_⟩;refine j4d (.cons (j0l hp8) .nil) rfl ?_;have hall:(y::yr++bsv s).all (pur 6)=true:=by rw[List.all_append,hp,jiP];rfl
  cases s with
  |nil=>
   repeat'(first|refine gU ?_|refine VOk.mk (jj8 rfl (by simp) (by omega) rfl rfl rfl rfl (by show yr.length+1+0≤_;simp only[List.length_nil,List.length_cons] at hl;omega)) ?_)<;>conv=>whnf
   refine VAgain.mk _ rfl _ (jcR (.inl rfl) hp rfl rfl) ⟨true,trivial,by simp,?_⟩
   simp only[bsv,List.map_nil,List.append_nil,if_true];rfl
  |cons c r=>
   repeat'(first|refine gU ?_|refine VOk.mk (jj8 rfl (by simp) (by omega) rfl rfl rfl rfl (by show yr.length+1+(c::r).length≤_;simp only[List.length_nil,List.length_cons] at hl hs⊢;omega)) ?_)<;>conv=>whnf
   refine VAgain.mk _ rfl _ (jcR (.inl rfl) hall rfl rfl) ⟨true,trivial,by simp,?_⟩
   rfl
 |true=>
  simp only[if_true];repeat'(refine gU ?_)<;>conv=>whnf
  have hall:(y::yr++bsv s).all (pur 6)=true:=by rw[List.all_append,hp,jiP];rfl
  refine j8L rfl (.inl rfl) hall (j2L (r:=yr++bsv s) hall ?_ (by simp[bsv];omega) _ _ rfl rfl)
  simp only[List.length_append,List.cons_append,List.length_nil,List.length_cons,bsv,List.length_map] at hl⊢;omega
theorem jdw(s:List UInt8)(hs:s.length≤1000000)(b:Bool):∃ys:List PV,ys.all (pur 6)=true∧ys.length≤6+s.length∧0<ys.length∧Pf C1 339 [.sl b 1 [sv s]] [.sl false 1 ys]:=by
 obtain⟨r,st,⟨ys,rfl,rfl,hp,hl,hpos⟩,N,hN⟩:=jm2 s hs b;have hf:Finds C1 364 [.sl true 0 [],.sl b 1 [sv s]] [] fun r st=>r=.ret [bufP ys]∧st=bufS ys:=⟨_,_,⟨rfl,rfl⟩,N,hN⟩
 clear hN;refine⟨ys,hp,by simpa using hl,hpos,?_⟩
 obtain⟨y,yr,rfl⟩:∃y yr,ys=y::yr:=by
  cases ys with
  |nil=>simp at hpos
  |cons y yr=>exact⟨y,yr,rfl⟩
 have hp8:=p68 hp;refine j00 Tryz.func339 rfl rfl rfl ?_;all_goals try conv=>whnf
 refine j1b rfl (Finds.mono hf ?_);rintro _ _ ⟨rfl,rfl⟩;refine⟨rfl,?_⟩;refine j4d (.cons (j0l hp8) .nil) rfl ?_;all_goals try conv=>whnf
 refine j0n rfl (j04 (j0D rfl (by simp) hp) j0m) rfl rfl
theorem jed{by_ r:Nat}{e:Bool}(hw:by_=w)(hr:room=r)(h1:m*w≤r)(h2:m≤r):(true&&(e||([]:List PV).isEmpty)&&fits m by_)=true:=by
 subst hw hr;rw[show(e||([]:List PV).isEmpty)=true by cases e<;>rfl,fits,Nat.ble_eq_true_of_le h1,Nat.ble_eq_true_of_le h2]
 rfl
theorem j4m(n:Int)(h0:0≤n)(h1:n≤1099511627776)(b:Bool)(xs:List PV)(hp:xs.all (pur 6)=true)(hl:xs.length≤100000000):Finds C1 338 [bufP xs,.sl b 1 [iv n]] (bufS xs) (Put1 xs 6):=by
 obtain⟨ys,hyp,hyl,hpos,hN⟩:=jp5 n h0 h1 b;obtain⟨y,yr,rfl⟩:∃y yr,ys=y::yr:=by
  cases ys with
  |nil=>simp at hpos
  |cons y yr=>exact⟨y,yr,rfl⟩
 have hall:(xs++y::yr).all (pur 6)=true:=by rw[List.all_append,hp,hyp];rfl
 simp only[List.length_cons] at hyl;cases xs with
 |nil=>
  refine j00 Tryz.func338 rfl rfl rfl ?_;simp only[bufP,bufS];repeat'(first|refine gU ?_|refine gX hN ?_|refine VOk.mk (jed (w:=1) (r:=140737488355328) rfl rfl (by simp only[List.length_cons,List.length_nil];omega) (by simp only[List.length_cons,List.length_nil];omega)) ?_)<;>conv=>whnf
  refine j8L rfl (.inl rfl) hall (j2L (r:=yr) hall ?_ (by simp) _ _ rfl rfl)
  simp only[List.length_nil,List.length_cons] at hl⊢;omega
 |cons x xr=>
  refine j00 Tryz.func338 rfl rfl rfl ?_;simp only[bufP,bufS];repeat'(first|refine gU ?_|refine gX hN ?_|refine VOk.mk (j1h (w:=1) (r:=140737488355328) (by simp:(x::xr).length=xr.length+1) rfl rfl rfl rfl (by simp only[List.length_cons] at hl⊢;omega) (by simp only[List.length_cons] at hl⊢;omega)) ?_)<;>conv=>whnf
  refine j8L rfl (.inr rfl) hall (j2L (r:=xr++y::yr) hall ?_ (by simp;omega) _ _ rfl rfl)
  simp only[List.length_append,List.cons_append,List.length_cons] at hl⊢;omega
theorem jpZ(k:Int):Pf C1 365 [iv k] [bv (decide (k=1)||decide (k=2))]:=by
 refine j00 Tryz.func365 rfl rfl rfl ?_;repeat'(first|refine gU ?_|apply gE<;>intro h)<;>conv=>whnf
 all_goals simp_all
open Go Go.Am Go.Gw
structure Dc where
 k:Int
 p:Int
 nm:List UInt8
 ty:Tm
 vl:Tm
 fx:Int
 cs:List (List UInt8×Tm)
def ju5(k p:Int)(nm:List UInt8)(ty vl:List PV)(fx:Int)(cs:PV):List PV:=iv k::iv p::sv nm::(ty++(vl++[iv fx,cs]))
inductive DcP:Dc→PV→Prop where
 |mk (k p:Int) (nm:List UInt8) (ty vl:Tm) (fx:Int) (cs:List (List UInt8×Tm)) (a1 a2:Int) (a3:List UInt8) (a4:Bool) (a5:Nat) (a6:List PV) (a7:Bool) (a8:Nat) (a9:List PV) (b1 b2:Int) (b3:List UInt8) (b4:Bool) (b5:Nat) (b6:List PV) (b7:Bool) (b8:Nat) (b9:List PV) (cb:Bool) (cz:Nat) (cx:List PV)
   (hty:TmP ty (.ag [iv a1,iv a2,sv a3,.sl a4 a5 a6,.sl a7 a8 a9])) (hvl:TmP vl (.ag [iv b1,iv b2,sv b3,.sl b4 b5 b6,.sl b7 b8 b9])) (hz:cz=6∨cx=[]) (hcs:LosP cs cx) (hlen:cs.length≤1466015503701) (hnm:nm.length≤140737488355328) (hk:i64 k) (hp:i64 p) (hfx:i64 fx) :
   DcP ⟨k,p,nm,ty,vl,fx,cs⟩ (.ag [iv k,iv p,sv nm,iv a1,iv a2,sv a3,.sl a4 a5 a6,.sl a7 a8 a9,iv b1,iv b2,sv b3,.sl b4 b5 b6,.sl b7 b8 b9,iv fx,.sl cb cz cx])
open Go Go.Am Go.Gw
theorem tz_P:TmP tz (.ag zTm):=jk0
theorem jlo(t:Tm)(v:PV)(h:TmP t v):Pf C1 122 [v] [bv (eqTm t tz)]:=by
 have hs:=j7J t v h tz _ tz_P;obtain⟨k0,nn0,s0,ls0,ts0,b0,z0,xs0,c0,y0,ys0,rfl,rfl,-⟩:=h.open;refine j00 Tryz.func122 rfl rfl rfl ?_;repeat'(first|refine gU ?_|apply gE<;>intro h|apply gM<;>intro h|refine gX hs ?_|apply gK)<;>conv=>whnf
 all_goals rfl
theorem ji7(k:Int):Pf C1 124 [iv k] [bv (decide (2≤k)&&decide (k≤4))]:=by
 refine j00 Tryz.func124 rfl rfl rfl ?_;repeat'(first|refine gU ?_|apply gE<;>intro h|apply gM<;>intro h|apply gK)<;>conv=>whnf
 all_goals(simp_all;try omega)
def dcB(k p:Int)(r:List PV):SO:=.box 47 (iv k::iv p::r)
def clV(i:Nat):PV:=.fn 119 [] [.bp i 0]
theorem j6u(k p:Int)(r:List PV)(hr:r.all (pur 8)=true)(t:Tm)(v:PV)(h:TmP t v):Finds C1 119 [v,.bp 0 0] [dcB k p r] fun q st=>q=.ret [bv (j0w t p 0)]∧st=[dcB k p r]:=by
 have hs:=j0I t v h p 0;obtain⟨k0,nn0,s0,ls0,ts0,b0,z0,xs0,c0,y0,ys0,rfl,rfl,-⟩:=h.open;refine j00 Tryz.func119 rfl rfl rfl ?_;unfold dcB;repeat'(first|refine gU ?_|apply gE<;>intro h|apply gM<;>intro h|refine gX hs ?_|apply gK)<;>conv=>whnf
 have hp:(iv k::iv p::r).all (pur 8)=true:=by rw[List.all_cons,List.all_cons,hr];rfl
 exact j0Z rfl rfl (.cons (jap hp) .nil) rfl ⟨rfl,rfl⟩
def j7p(p:Int)(c:List UInt8×Tm):Bool:=!j2G c.1 || !j0w c.2 p 0
def fmS(k p:Int)(r:List PV):Sto:=[.box 27 [clV 1],.box 47 (iv k::iv p::r)]
def wrP:PV:=.fn 120 [] [.bp 0 0]
theorem jdU(hr:r.all (pur 8)=true):(iv k::iv p::r).all (pur 8)=true:=by rw[List.all_cons,List.all_cons,hr];rfl
theorem j7j(hr:r.all (pur 8)=true):ShrL (fmS k p r) [[1],[]] [fun g=>.box 27 [.fn 119 [] [.bp (g 1) 0]],fun _=>.box 47 (iv k::iv p::r)]:=.cons (j05 rfl rfl) (.cons (jap (jdU hr)) .nil)
theorem jhH(k p:Int)(r:List PV)(hr:r.all (pur 8)=true)(c:List UInt8×Tm)(v:PV)(h:LoP c v):Finds C1 120 [v,.bp 0 0] (fmS k p r) fun q st=>q=.ret [bv (j7p p c)]∧st=fmS k p r:=by
 obtain⟨s,q1,q2,q3,q4,q5,q6,q7,q8,q9,t,rfl,rfl,ht,hs⟩:=h.open;have hn:=j1W s hs;have h1:=j6u k p r hr t _ ht;have hp:=jdU (k:=k) (p:=p) hr;refine j00 Tryz.func120 rfl rfl rfl ?_;unfold fmS clV;repeat'(first|refine gU ?_|apply gE<;>intro h|apply gM<;>intro h|refine gX hn ?_|apply gK)<;>conv=>whnf
 ·refine j0W rfl rfl (.cons (j05 rfl rfl) (.cons (jap hp) (.cons (j05 rfl rfl) .nil))) rfl rfl rfl rfl (Finds.mono h1 ?_);rintro _ _ ⟨rfl,rfl⟩;unfold dcB;refine j1K (st':=fmS k p r++[.box 125 [sv s,iv q1,iv q2,sv q3,.sl q4 q5 q6,.sl q7 q8 q9]]) (.cons (jap hp) .nil) rfl rfl rfl ?_;unfold fmS clV;repeat'(first|refine gU ?_|apply gE<;>intro h|apply gM<;>intro h|apply gK)<;>conv=>whnf
  refine j0Z rfl rfl (j7j hr) rfl ⟨?_,rfl⟩
  simp_all[j7p]
 ·refine j0Z rfl rfl (j7j hr) rfl ⟨?_,rfl⟩
  simp_all[j7p]
def idxW(q:List UInt8×Tm→Bool):List (List UInt8×Tm)→Nat→Int
 |[],_=>-1
 |t::r,i=>if q t=true then i else idxW q r (i+1)
theorem jjb(q:List UInt8×Tm→Bool):∀(ts:List (List UInt8×Tm)) (i:Nat),decide (0≤idxW q ts i)=ts.any q
 |[],i=>by simp[idxW]
 |t::r,i=>by
  rw[idxW,List.any_cons]
  by_cases h:q t=true
  ·rw[if_pos h,h];simp
  ·rw[if_neg h,jjb q r,Bool.eq_false_iff.2 h];simp
theorem jpL(k p:Int)(r:List PV)(hr:r.all (pur 8)=true)(cs:List (List UInt8×Tm))(cb:Bool)(cz:Nat)(cx:List PV)(hz:cz=6∨cx=[])(hxs:LosP cs cx)(hlen:cs.length≤1466015503701):
  Finds C1 186 [.sl cb cz cx,wrP] (fmS k p r) fun q st=>q=.ret [iv (idxW (j7p p) cs 0)]∧st=fmS k p r:=by
 have hcl:=hxs.len;have hp:=jdU (k:=k) (p:=p) hr;refine j00 Tryz.func186 rfl rfl rfl ?_;unfold fmS clV;repeat'(first|refine gU ?_|apply gE<;>intro h|apply gM<;>intro h|apply gK)<;>conv=>whnf
 refine j03 (G:=Nat) (fun i=>[(8,iv i)]) (fun _=>fmS k p r) (fun i=>i≤cs.length∧idxW (j7p p) (cs.drop i) i=idxW (j7p p) cs 0) (fun i=>cs.length-i) 0 ⟨by omega,rfl⟩ rfl rfl ?_
 rintro i ⟨hi,hall⟩;dsimp only at hi hall⊢;unfold fmS clV;repeat'(first|refine gU ?_|apply gE<;>intro h|apply gM<;>intro h|apply gK)<;>conv=>whnf
 ·have hi':i<cs.length:=by omega
  obtain⟨c,hc⟩:∃c,cs[i]?=some c:=⟨_,List.getElem?_eq_getElem hi'⟩;obtain⟨v,hv,hl⟩:=hxs.at hc;have h2:=jhH k p r hr c v hl;obtain⟨s,q1,q2,q3,q4,q5,q6,q7,q8,q9,t,rfl,rfl,-⟩:=hl.open;rw[drop_at hc,idxW] at hall;repeat'(first|refine gU ?_|apply gE<;>intro h|apply gM<;>intro h|refine VIdx.mk _ hv ?_|refine gZ hz ?_|apply gK)<;>conv=>whnf
  refine j0W rfl rfl (j7j hr) rfl rfl rfl rfl (Finds.mono h2 ?_);rintro _ _ ⟨rfl,rfl⟩;refine j1K (st':=fmS k p r) (j7j hr) rfl rfl rfl ?_;unfold fmS clV;repeat'(first|refine gU ?_|apply gE<;>intro h|apply gM<;>intro h|apply gK)<;>conv=>whnf
  ·rw[if_pos (by assumption)] at hall
   rw[←hall];exact j0Z rfl rfl (j7j hr) rfl ⟨rfl,rfl⟩
  ·rw[if_neg (by simp_all)] at hall
   exact VAgain.mk _ rfl _ (j0X rfl) ⟨i+1,⟨hi',hall⟩,by omega,rfl⟩
 ·rw[List.drop_of_length_le (by omega),idxW] at hall
  rw[←hall];exact j0Z rfl rfl (j7j hr) rfl ⟨rfl,rfl⟩
theorem jpm(k p:Int)(r:List PV)(hr:r.all (pur 8)=true)(cs:List (List UInt8×Tm))(cb:Bool)(cz:Nat)(cx:List PV)(hz:cz=6∨cx=[])(hxs:LosP cs cx)(hlen:cs.length≤1466015503701):
  Finds C1 123 [.sl cb cz cx,wrP] (fmS k p r) fun q st=>q=.ret [bv (cs.any (j7p p))]∧st=fmS k p r:=by
 have hi:=jpL k p r hr cs cb cz cx hz hxs hlen;have e:=jjb (j7p p) cs 0;refine j00 Tryz.func123 rfl rfl rfl ?_;repeat'(first|refine gU ?_|apply gE<;>intro h|apply gM<;>intro h|apply gK)<;>conv=>whnf
 refine j0W rfl rfl (j7j hr) rfl rfl rfl rfl (Finds.mono hi ?_);rintro _ _ ⟨rfl,rfl⟩;refine j1K (st':=fmS k p r) (j7j hr) rfl rfl rfl ?_;repeat'(first|refine gU ?_|apply gE<;>intro h|apply gM<;>intro h|apply gK)<;>conv=>whnf
 exact j0Z rfl rfl (j7j hr) rfl ⟨by rw[←e],rfl⟩
def j3R(d:Dc):Bool:=
 if(decide (1≤d.k∧d.k≤5)&&(j2G d.nm&&j0w d.ty d.p 0))=true then
  (if d.k=5 then eqTm d.vl tz&&(decide (0≤d.fx)&&(decide (d.fx≤16)&&(decide (d.cs.length≤8) && !d.cs.any (j7p d.p))))
  else if d.fx≠0∨d.cs.length≠0 then false
  else if 2≤d.k∧d.k≤4 then j0w d.vl d.p 0
  else eqTm d.vl tz)
 else false
theorem jcs(d:Dc)(v:PV)(h:DcP d v):Pf C1 76 [v] [bv (j3R d)]:=by
 obtain⟨k,p,nm,ty,vl,fx,cs,a1,a2,a3,a4,a5,a6,a7,a8,a9,b1,b2,b3,b4,b5,b6,b7,b8,b9,cb,cz,cx,hty,hvl,hz,hxs,hlen,hnm,hk,hp,hfx⟩:=h;have hnr:=j1W nm hnm;have he:=jlo vl _ hvl;have hv:=ji7 k;have h1:=j6u k p [sv nm,iv a1,iv a2,sv a3,.sl a4 a5 a6,.sl a7 a8 a9,iv b1,iv b2,sv b3,.sl b4 b5 b6,.sl b7 b8 b9,iv fx,.sl cb cz cx] rfl ty _ hty;have h2:=j6u k p [sv nm,iv a1,iv a2,sv a3,.sl a4 a5 a6,.sl a7 a8 a9,iv b1,iv b2,sv b3,.sl b4 b5 b6,.sl b7 b8 b9,iv fx,.sl cb cz cx] rfl vl _ hvl;have hcl:=hxs.len;refine j00 Tryz.func76 rfl rfl rfl ?_;repeat'(first|refine gU ?_|apply gE<;>intro h|apply gM<;>intro h|refine gX hnr ?_|refine gX he ?_|refine gX hv ?_|apply gK)<;>conv=>whnf
 ·rw[j3R,if_neg (by simp;omega)]
 ·rw[j3R,if_neg (by simp;omega)]
 ·refine j0W rfl rfl (.cons (j05 rfl rfl) (.cons (j05 rfl rfl) .nil)) rfl rfl rfl rfl (Finds.mono h1 ?_);rintro _ _ ⟨rfl,rfl⟩;unfold dcB;refine j4d (.cons (j05 rfl rfl) .nil) rfl ?_;have hF:1≤k∧k≤5→j2G nm=true→j0w ty p 0=true→j3R ⟨k,p,nm,ty,vl,fx,cs⟩=(if k=5 then eqTm vl tz&&(decide (0≤fx)&&(decide (fx≤16)&&(decide (cs.length≤8) && !cs.any (j7p p))))
    else if fx≠0∨cs.length≠0 then false
    else if 2≤k∧k≤4 then j0w vl p 0
    else eqTm vl tz):=fun e1 e2 e3=>by rw[j3R,if_pos (by simp[e1,e2,e3])]
  repeat'(first|refine gU ?_|apply gE<;>intro h|apply gM<;>intro h|refine gX he ?_|refine gX hv ?_|apply gK)<;>conv=>whnf
  ·have h3:=jpm k p [sv nm,iv a1,iv a2,sv a3,.sl a4 a5 a6,.sl a7 a8 a9,iv b1,iv b2,sv b3,.sl b4 b5 b6,.sl b7 b8 b9,iv fx,.sl cb cz cx] rfl cs cb cz cx hz hxs hlen;refine j0W rfl rfl (.cons (j05 rfl rfl) (.cons (j05 rfl rfl) .nil)) rfl rfl rfl rfl (Finds.mono h3 ?_);rintro _ _ ⟨rfl,rfl⟩;refine j4d (j7j rfl) rfl ?_;repeat'(first|refine gU ?_|apply gE<;>intro h|apply gM<;>intro h|apply gK)<;>conv=>whnf
   rw[hF (by omega) (by assumption) (by assumption)]
   simp_all
   try(intros;omega)
  all_goals try(rw[hF (by omega) (by assumption) (by assumption)];simp_all[retV];done)
  all_goals try(rw[hF (by omega) (by assumption) (by assumption)];simp_all[retV];omega)
  all_goals try(rw[hF (by omega) (by assumption) (by assumption)];simp_all[retV];intros;omega)
  all_goals try(rw[hF (by omega) (by assumption) (by assumption),if_neg (by omega),if_neg (by omega),if_neg (by simp_all)];rfl)
  all_goals try(rw[j3R,if_neg (by simp_all)];done)
  refine j0W rfl rfl (.cons (j05 rfl rfl) (.cons (j05 rfl rfl) .nil)) rfl rfl rfl rfl (Finds.mono h2 ?_);rintro _ _ ⟨rfl,rfl⟩;unfold dcB;refine j4d (.cons (j05 rfl rfl) .nil) rfl ?_;repeat'(first|refine gU ?_|apply gE<;>intro h|apply gM<;>intro h|apply gK)<;>conv=>whnf
  rw[hF (by omega) (by assumption) (by assumption)]
  simp_all[retV]
 ·rw[j3R,if_neg (by simp_all)]
open Go Go.Am Go.Gw
theorem jdC(d:Dc)(v:PV)(h:DcP d v)(q:Int)(hq:0≤q∧q≤100000):∃n,Pf C1 118 [v,iv q] [iv n]:=by
 suffices key:Finds C1 118 [v,iv q] [] fun r _=>∃n,r=.ret [iv n] by
  obtain⟨r,st',⟨n,rfl⟩,N,hN⟩:=key;exact⟨n,_,st',rfl,N,hN⟩
 obtain⟨k,p,nm,ty,vl,fx,cs,a1,a2,a3,a4,a5,a6,a7,a8,a9,b1,b2,b3,b4,b5,b6,b7,b8,b9,cb,cz,cx,hty,hvl,hz,hxs,hlen,hnm,hk,hp,hfx⟩:=h;have h1:=j3q ty _ hty q hq.1 (by omega)
 have h2:=j3q vl _ hvl q hq.1 (by omega)
 have u1:=jbU ty q hq.1;have u2:=jbU vl q hq.1;have hcl:=hxs.len;have hnl:nm.length/16≤nm.length:=Nat.div_le_self _ _;have hsz:(⟨nm.toArray⟩:ByteArray).size=nm.length:=by show nm.toArray.size=_;simp
 refine j00 Tryz.func118 rfl rfl rfl ?_;repeat'(first|refine gU ?_|apply gE<;>intro h|apply gM<;>intro h|refine j01 h1 fun _=>?_|refine j01 h2 fun _=>?_|refine gX h1 ?_|refine gX h2 ?_|refine VRes.mk _ (jjT (by rw[hsz];exact hnm)) ?_|apply gK)<;>conv=>whnf
 ·exact⟨_,rfl⟩
 rw[hsz];repeat'(first|refine gU ?_|apply gE<;>intro h|apply gM<;>intro h|refine VRes.mk _ (jjT (by rw[hsz];exact hnm)) ?_|refine j01 h1 fun _=>?_|refine j01 h2 fun _=>?_|apply gK)<;>conv=>whnf
 refine j03 (G:=Nat×Int) (fun g=>[(6,iv g.1),(5,iv g.2)]) (fun _=>_) (fun g=>g.1≤cs.length∧0≤g.2∧g.2≤20000000000000) (fun g=>cs.length-g.1) (0,useN ty q+useN vl q+((nm.length/16:Nat):Int)) ⟨by omega,by dsimp only;omega,by dsimp only;omega⟩ rfl rfl ?_
 rintro⟨i,acc⟩ ⟨hi,ha0,ha1⟩;dsimp only at hi ha0 ha1⊢;have hcx:∀{i:Nat},((i:Int)<cx.length)→i<cs.length:=fun h=>by omega
 repeat'(first|refine gU ?_|apply gE<;>intro h|apply gM<;>intro h|apply gK)<;>conv=>whnf
 ·have hlt:=hcx (by assumption)
  obtain⟨c,hc⟩:∃c,cs[i]?=some c:=⟨_,List.getElem?_eq_getElem hlt⟩;obtain⟨z,hz1,hz2⟩:=hxs.at hc;obtain⟨s,q1,q2,q3,q4,q5,q6,q7,q8,q9,t,rfl,rfl,ht,hsl⟩:=hz2.open;have h3:=j3q t _ ht q hq.1 (by omega)
  have u3:=jbU t q hq.1;have hs16:s.length/16≤s.length:=Nat.div_le_self _ _;have hs17:s.length/16≤8796093022208:=by omega
  have hszs:(⟨s.toArray⟩:ByteArray).size=s.length:=by show s.toArray.size=_;simp
  repeat'(first|refine gU ?_|apply gE<;>intro h|apply gM<;>intro h|refine VIdx.mk _ hz1 ?_|refine gZ hz ?_|refine gX h3 ?_|refine j01 h3 fun _=>?_|refine VRes.mk _ (jjT (by rw[hszs];exact hsl)) ?_|apply gK)<;>conv=>whnf
  rw[hszs];repeat'(first|refine gU ?_|apply gE<;>intro h|apply gM<;>intro h|apply gK)<;>conv=>whnf
  exact VAgain.mk _ rfl _ (j0a rfl rfl rfl) ⟨(i+1,_),⟨hlt,by dsimp only;omega,by dsimp only;omega⟩,by dsimp only;omega,rfl⟩
 ·exact⟨_,rfl⟩
 ·exact⟨_,rfl⟩
theorem jk8(d:Dc)(v:PV)(h:DcP d v):∃b,(b=false→d.cs.length≤20)∧Pf C1 75 [v] [bv b]:=by
 obtain⟨n,hn⟩:=jdC d v h 4000 (by omega)
 suffices key:Finds C1 75 [v] [] fun r _=>∃b,(b=false→d.cs.length≤20)∧r=.ret [bv b] by
  obtain⟨r,st',⟨b,hb,rfl⟩,N,hN⟩:=key;exact⟨b,hb,_,st',rfl,N,hN⟩
 obtain⟨k,p,nm,ty,vl,fx,cs,a1,a2,a3,a4,a5,a6,a7,a8,a9,b1,b2,b3,b4,b5,b6,b7,b8,b9,cb,cz,cx,hty,hvl,hz,hxs,hlen,hnm,hk,hp,hfx⟩:=h;have hcl:=hxs.len;refine j00 Tryz.func75 rfl rfl rfl ?_;repeat'(first|refine gU ?_|apply gE<;>intro h|apply gM<;>intro h|refine gX hn ?_|apply gK)<;>conv=>whnf
 ·exact⟨true,fun e=>(by cases e),rfl⟩
 ·exact⟨_,fun _=>by dsimp only;omega,rfl⟩
end Go.Proofs.YtbnodhcijeaceaaGreatDoor
