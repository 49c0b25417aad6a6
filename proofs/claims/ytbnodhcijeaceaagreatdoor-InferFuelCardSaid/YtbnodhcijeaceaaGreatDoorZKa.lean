/- Bytes that are made of numbers and texts (wire, pack): that they are made; which they are is not asked. -/
import Derived.Test.YtbnodhcijeaceaaGreatDoorZTe
import Derived.Test.YtbnodhcijeaceaaGreatDoorZRw
set_option linter.all false
set_option maxRecDepth 100000
namespace Go.Proofs.YtbnodhcijeaceaaGreatDoor
open Go Go.Am Go.Gw
def andI(a b:Int):Int:=IntKind.i64.wrap ((BitVec.ofInt 64 a &&& BitVec.ofInt 64 b).toNat:Int)
def orI(a b:Int):Int:=IntKind.i64.wrap ((BitVec.ofInt 64 a |||BitVec.ofInt 64 b).toNat:Int)
variable{ρ:AEnv}{a b:Int}{ns:List (List UInt8)}{cs xs:List PV}{k0 m n w z:Nat}{x y:Operand}{K:PV→Prop}{P:Program}{T:TypeId}
theorem band:j0h P .and T x y (iv a) (iv b)=some (iv (andI a b)):=by
 simp only[j0h,j6N,eqGuard,binOp,Op.intBits];rfl
theorem bor:j0h P .or T x y (iv a) (iv b)=some (iv (orI a b)):=by
 simp only[j0h,j6N,eqGuard,binOp,Op.intBits];rfl
theorem jvy:j0h P .shr T x y (iv a) (.sc (.int .u64 7))=some (iv (a/128)):=by
 have e:a.fdiv (2^7)=a/128:=by rw[Int.fdiv_eq_ediv_of_nonneg _ (by decide)];rfl
 have h:¬((7:Int)<0):=by omega
 have hm:min (7:Int).toNat IntKind.i64.bits=7:=by decide
 simp only[j0h,j6N,eqGuard,binOp,Op.shift,if_neg h,hm,e];rfl
def jvx(op:BinOp)(a b:Int)(K:PV→Prop):Prop:=match op with
 | .and=>K (iv (andI a b))
 | .or=>K (iv (orI a b))
 |_=>False
theorem jkY{op:BinOp}(h:jvx op a b K):VRes (j0h P op T x y (iv a) (iv b)) K:=by
 cases op with
 |and=>exact⟨_,band,h⟩
 |or=>exact⟨_,bor,h⟩
 |_=>exact h.elim
theorem jhR(h:K (iv (a/128))):VRes (j0h P .shr T x y (iv a) (.sc (.int .u64 7))) K:=⟨_,jvy,h⟩
def toB(a:Int):PV:=.sc (.int .u8 (IntKind.u8.wrap a))
theorem toU8(hx:aval ρ x=some (iv a)):jfX C1.P ρ 3 5 x=some (toB a):=by
 have h1:(strT C1.P 3&&jd8 C1.P 5)=false:=by kernel_rfl
 have hs:C1.P.underlying 3=some (.int .i64):=by kernel_rfl
 have hd:C1.P.underlying 5=some (.int .u8):=by kernel_rfl
 have e:qrun C1.P (convert 3 5 (.int .i64 a))=some (.int .u8 (IntKind.u8.wrap a)):=by
  unfold convert;simp only[bind];rw[j4k (j1D hs),j4k (j1D hd)];rfl
 simp only[jfX,h1,hx];rw[e];rfl
def bufP(xs:List PV):PV:=match xs with
 |[]=>.sl true 0 []
 |_::r=>.ms 0 (r.length+1)
def bufS(xs:List PV):Sto:=match xs with
 |[]=>[]
 |a::r=>[.row false 5 1 (a::r)]
theorem p68(h:cs.all (pur 6)=true):cs.all (pur 8)=true:=List.all_eq_true.2 fun c hc=>jdK (jdK (List.all_eq_true.1 h c hc))
theorem jdm(hk0:k0=0∨k0=1)(hp:cs.all (pur 6)=true)(hacc:ja9 [[]] 64 (ρ.flatMap (fun p=>ids 8 p.2)) []=[0])(h1:ρ.all (fun p=>j0f (fun i=>Nat.blt i 1) 8 p.2)=true):gc k0 ρ [.row false T z cs]=[.row false T z cs]:=by
 rcases hk0 with rfl|rfl
 ·refine j1u (acc:=[0]) (.cons (j0c (p68 hp)) .nil) (.cons (j0c (p68 hp)) .nil) rfl ?_ rfl h1 rfl;rw[show(List.take 0 [([]:List Nat)]).flatten=[] from rfl,List.append_nil]
  exact hacc
 ·exact j1n rfl
theorem j9k{f:FuncId}{Q:AEnd→Sto→Prop}(hk:C1.keep f=true)(hk0:k0=0∨k0=1)(hp:cs.all (pur 6)=true)(k:Q (.ret [.ms 0 n]) [.row false T z cs]):VRet C1 f k0 [.ms 0 n] [.row false T z cs] Q:=by
 refine j1G (.inl ⟨hk,rfl,rfl⟩) rfl (jdm hk0 hp rfl rfl) (j2E ?_) k;rcases hk0 with rfl|rfl<;>rfl
theorem jay(xs:List PV):(bufS xs).length=0∨(bufS xs).length=1:=by cases xs<;>simp[bufS]
def Put1(xs:List PV)(n:Nat)(r:AEnd)(st:Sto):Prop:=∃ys,r=.ret [bufP ys]∧st=bufS ys∧ys.all (pur 6)=true∧ys.length≤xs.length+n∧0<ys.length
theorem j2W{y:PV}{r:List PV}(hp:(y::r).all (pur 6)=true)(hl:(y::r).length≤xs.length+n)(hm:m=r.length+1)(T:TypeId)(z:Nat)(hT:T=5)(hz:z=1):Put1 xs n (.ret [.ms 0 m]) [.row false T z (y::r)]:=by
 subst hm hT hz;exact⟨y::r,rfl,rfl,hp,hl,by simp⟩
theorem jmI(n:Int):Pf C1 383 [iv n] [bv (decide (0≤n)&&decide (n≤1099511627776))]:=by
 refine j00 Tryz.func383 rfl rfl rfl ?_;repeat'(first|refine gU ?_|apply gE<;>intro h)<;>conv=>whnf
 all_goals
  refine j2t ?_;rw[Bool.eq_iff_iff];simp;omega
theorem jl0(n:Int)(h0:0≤n)(h1:n≤1099511627776)(xs:List PV)(hp:xs.all (pur 6)=true)(hl:xs.length≤100000000):Finds C1 384 [bufP xs,iv n] (bufS xs) (Put1 xs 6):=by
 refine j00 Tryz.func384 rfl rfl rfl ?_;all_goals try conv=>whnf
 refine j04 (G:=List PV×Int) (fun g=>[(0,bufP g.1),(1,iv g.2)]) (fun g=>bufS g.1) (fun g=>g.1.all (pur 6)=true∧0≤g.2∧((g.1.length=xs.length∧g.2<4398046511104)∨(g.1.length=xs.length+1∧g.2<34359738368)∨(g.1.length=xs.length+2∧g.2<268435456)∨(g.1.length=xs.length+3∧g.2<2097152)∨(g.1.length=xs.length+4∧g.2<16384)∨(g.1.length=xs.length+5∧g.2<128))) (fun g=>g.2.toNat) (xs,n) ⟨hp,h0,by dsimp only;omega⟩ rfl rfl ?_
 rintro⟨ys,m⟩ ⟨hys,hm0,hor⟩;dsimp only at hys hm0 hor⊢;cases ys with
 |nil=>
  simp only[bufP,bufS];repeat'(first|refine gU ?_|apply gE<;>intro h|refine jkY ?_|refine jhR ?_|refine VRes.mk _ (toU8 rfl) ?_)<;>conv=>whnf
  ·have h8:[toB (orI (andI m 127) 128)].all (pur 6)=true:=rfl;refine VAgain.mk _ rfl _ (jdm (jay xs) h8 rfl rfl) ⟨([toB (orI (andI m 127) 128)],m/128),⟨h8,by dsimp only;omega,?_⟩,by dsimp only;omega,rfl⟩
   simp only[List.length_nil,List.length_cons] at hor⊢;omega
  ·have h8:[toB m].all (pur 6)=true:=rfl;refine j9k rfl (jay xs) h8 (j2W h8 ?_ rfl _ _ rfl rfl);simp only[List.length_nil,List.length_cons] at hor⊢;omega
 |cons y r=>
  simp only[bufP,bufS];have hyl:r.length≤100000010:=by simp only[List.length_cons] at hor;omega
  repeat'(first|refine gU ?_|apply gE<;>intro h|refine jkY ?_|refine jhR ?_|refine VRes.mk _ (toU8 rfl) ?_|refine VOk.mk (j1o (w:=1) (r:=140737488355328) (by simp:(y::r).length=r.length+1) rfl rfl rfl rfl (by simp only[List.length_cons,List.length_nil];omega) (by simp only[List.length_cons,List.length_nil];omega)) ?_)<;>conv=>whnf
  ·have h8:(y::r++[toB (orI (andI m 127) 128)]).all (pur 6)=true:=by rw[List.all_append,hys];rfl
   refine VAgain.mk _ rfl _ (jdm (jay xs) h8 rfl rfl) ⟨(y::r++[toB (orI (andI m 127) 128)],m/128),⟨h8,by dsimp only;omega,?_⟩,by dsimp only;omega,?_⟩
   ·simp only[List.length_append,List.length_nil,List.length_cons] at hor⊢;omega
   ·simp only[List.cons_append,bufP,List.length_append];rfl
  ·have h8:(y::r++[toB m]).all (pur 6)=true:=by rw[List.all_append,hys];rfl
   refine j9k rfl (jay xs) h8 (j2W (r:=r++[toB m]) h8 ?_ (by simp) _ _ rfl rfl)
   simp only[List.length_append,List.cons_append,List.length_nil,List.length_cons] at hor⊢;omega
theorem jq2(n:Int)(h0:0≤n)(h1:n≤1099511627776)(b:Bool):∃ys:List PV,ys.all (pur 6)=true∧ys.length≤6∧0<ys.length∧Pf C1 363 [.sl b 1 [iv n]] [.sl false 1 ys,bv true]:=by
 have hr:=jmI n;rw[decide_eq_true h0,decide_eq_true h1] at hr;simp only[Bool.and_self] at hr;have hw:=jl0 n h0 h1 [] rfl (by simp)
 obtain⟨r,st,⟨ys,rfl,rfl,hp,hl,hpos⟩,N,hN⟩:=hw;have hf:Finds C1 384 [.sl true 0 [],iv n] [] fun r st=>r=.ret [bufP ys]∧st=bufS ys:=⟨_,_,⟨rfl,rfl⟩,N,hN⟩
 clear hN;refine⟨ys,hp,by simpa using hl,hpos,?_⟩
 obtain⟨y,yr,rfl⟩:∃y yr,ys=y::yr:=by
  cases ys with
  |nil=>simp at hpos
  |cons y yr=>exact⟨y,yr,rfl⟩
 have hp8:=p68 hp;refine j00 Tryz.func363 rfl rfl rfl ?_;all_goals try conv=>whnf
 refine j04 (G:=Bool) (fun g=>[(9,iv (if g then 1 else 0)),(4,if g then .ms 0 (yr.length+1) else .sl true 0 [])]) (fun g=>if g then[.row false 5 1 (y::yr)] else[]) (fun _=>True) (fun g=>if g then 0 else 1) false trivial rfl rfl ?_
 intro g _;cases g with
 |false=>
  simp only[Bool.false_eq_true,if_false];repeat'(first|refine gU ?_|refine VIdx.mk _ rfl ?_|refine gX hr ?_)<;>conv=>whnf
  refine j1g rfl (Finds.mono hf ?_);rintro _ _ ⟨rfl,rfl⟩;refine⟨rfl,?_⟩;refine j4l (.cons (j1P hp8) .nil) rfl ?_;repeat'(refine gU ?_)<;>conv=>whnf
  refine VAgain.mk _ rfl _ (jdm (.inl rfl) hp rfl rfl) ⟨true,trivial,by simp,rfl⟩
 |true=>
  simp only[if_true];repeat'(refine gU ?_)<;>conv=>whnf
  refine j0y rfl (j05 (j0P rfl (by simp) hp) (j05 rfl j0p)) rfl rfl
theorem jjZ{U t t' a b:Nat}(hs:strT P U=true)(h:xs.length=n)(h0:0<n)(ht:Nat.beq t t'=true)(hw:Nat.beq w 1=true)(ha:Nat.beq a 1=true)(hb:Nat.beq b 1=true)(h2:n+m≤140737488355328):
  (strT P U&&(Nat.beq n xs.length&&Nat.beq t t'&&Nat.beq w 1&&Nat.beq a 1&&Nat.beq b 1&&Nat.blt 0 n&&fits (n+m) 1))=true:=by
 subst h;have hf:fits (xs.length+m) 1=true:=by
  rw[fits,Nat.mul_one,Bool.and_self];exact Nat.ble_eq_true_of_le h2
 have hlt:Nat.blt 0 xs.length=true:=by rw[Nat.blt_eq];exact h0
 rw[hs,ht,hw,ha,hb,hf,hlt,Nat.beq_refl];rfl
def bsv(s:List UInt8):List PV:=s.map fun c=>.sc (.int .u8 c.toNat)
theorem jjD(s:List UInt8):(bsv s).all (pur 6)=true:=by
 rw[List.all_eq_true]
 intro x hx;obtain⟨c,_,rfl⟩:=List.mem_map.1 hx;rfl
theorem jmK(s:List UInt8)(hs:s.length≤1000000)(b:Bool):Finds C1 364 [.sl true 0 [],.sl b 1 [sv s]] [] (Put1 [] (6+s.length)):=by
 have hlen:(⟨s.toArray⟩:ByteArray).size=s.length:=j2V _;obtain⟨r,st,⟨ys,rfl,rfl,hp,hl,hpos⟩,N,hN⟩:=jl0 s.length (by omega) (by omega) [] rfl (by simp)
 have hf:Finds C1 384 [.sl true 0 [],iv s.length] [] fun r st=>r=.ret [bufP ys]∧st=bufS ys:=⟨_,_,⟨rfl,rfl⟩,N,hN⟩
 clear hN;obtain⟨y,yr,rfl⟩:∃y yr,ys=y::yr:=by
  cases ys with
  |nil=>simp at hpos
  |cons y yr=>exact⟨y,yr,rfl⟩
 have hp8:=p68 hp;refine j00 Tryz.func364 rfl rfl rfl ?_;all_goals try conv=>whnf
 refine j04 (G:=Bool) (fun g=>[(9,iv (if g then 1 else 0)),(0,if g then .ms 0 (yr.length+1+s.length) else .sl true 0 [])]) (fun g=>if g then[.row false 5 1 (y::yr++bsv s)] else[]) (fun _=>True) (fun g=>if g then 0 else 1) false trivial rfl rfl ?_
 intro g _;cases g with
 |false=>
  simp only[Bool.false_eq_true,if_false];repeat'(first|refine gU ?_|refine VIdx.mk _ rfl ?_)<;>conv=>whnf
  refine j1g rfl (Finds.mono hf ?_);rintro _ _ ⟨rfl,rfl⟩;refine⟨rfl,?_⟩;refine j4l (.cons (j1P hp8) .nil) rfl ?_;have hall:(y::yr++bsv s).all (pur 6)=true:=by rw[List.all_append,hp,jjD];rfl
  cases s with
  |nil=>
   repeat'(first|refine gU ?_|refine VOk.mk (jjZ rfl (by simp) (by omega) rfl rfl rfl rfl (by show yr.length+1+0≤_;simp only[List.length_nil,List.length_cons] at hl;omega)) ?_)<;>conv=>whnf
   refine VAgain.mk _ rfl _ (jdm (.inl rfl) hp rfl rfl) ⟨true,trivial,by simp,?_⟩
   simp only[bsv,List.map_nil,List.append_nil,if_true];rfl
  |cons c r=>
   repeat'(first|refine gU ?_|refine VOk.mk (jjZ rfl (by simp) (by omega) rfl rfl rfl rfl (by show yr.length+1+(c::r).length≤_;simp only[List.length_nil,List.length_cons] at hl hs⊢;omega)) ?_)<;>conv=>whnf
   refine VAgain.mk _ rfl _ (jdm (.inl rfl) hall rfl rfl) ⟨true,trivial,by simp,?_⟩
   rfl
 |true=>
  simp only[if_true];repeat'(refine gU ?_)<;>conv=>whnf
  have hall:(y::yr++bsv s).all (pur 6)=true:=by rw[List.all_append,hp,jjD];rfl
  refine j9k rfl (.inl rfl) hall (j2W (r:=yr++bsv s) hall ?_ (by simp[bsv];omega) _ _ rfl rfl)
  simp only[List.length_append,List.cons_append,List.length_nil,List.length_cons,bsv,List.length_map] at hl⊢;omega
theorem je2(s:List UInt8)(hs:s.length≤1000000)(b:Bool):∃ys:List PV,ys.all (pur 6)=true∧ys.length≤6+s.length∧0<ys.length∧Pf C1 339 [.sl b 1 [sv s]] [.sl false 1 ys]:=by
 obtain⟨r,st,⟨ys,rfl,rfl,hp,hl,hpos⟩,N,hN⟩:=jmK s hs b;have hf:Finds C1 364 [.sl true 0 [],.sl b 1 [sv s]] [] fun r st=>r=.ret [bufP ys]∧st=bufS ys:=⟨_,_,⟨rfl,rfl⟩,N,hN⟩
 clear hN;refine⟨ys,hp,by simpa using hl,hpos,?_⟩
 obtain⟨y,yr,rfl⟩:∃y yr,ys=y::yr:=by
  cases ys with
  |nil=>simp at hpos
  |cons y yr=>exact⟨y,yr,rfl⟩
 have hp8:=p68 hp;refine j00 Tryz.func339 rfl rfl rfl ?_;all_goals try conv=>whnf
 refine j1g rfl (Finds.mono hf ?_);rintro _ _ ⟨rfl,rfl⟩;refine⟨rfl,?_⟩;refine j4l (.cons (j1P hp8) .nil) rfl ?_;all_goals try conv=>whnf
 refine j0y rfl (j05 (j0P rfl (by simp) hp) j0p) rfl rfl
theorem jeD{by_ r:Nat}{e:Bool}(hw:by_=w)(hr:room=r)(h1:m*w≤r)(h2:m≤r):(true&&(e||([]:List PV).isEmpty)&&fits m by_)=true:=by
 subst hw hr;rw[show(e||([]:List PV).isEmpty)=true by cases e<;>rfl,fits,Nat.ble_eq_true_of_le h1,Nat.ble_eq_true_of_le h2]
 rfl
theorem j4y(n:Int)(h0:0≤n)(h1:n≤1099511627776)(b:Bool)(xs:List PV)(hp:xs.all (pur 6)=true)(hl:xs.length≤100000000):Finds C1 338 [bufP xs,.sl b 1 [iv n]] (bufS xs) (Put1 xs 6):=by
 obtain⟨ys,hyp,hyl,hpos,hN⟩:=jq2 n h0 h1 b;obtain⟨y,yr,rfl⟩:∃y yr,ys=y::yr:=by
  cases ys with
  |nil=>simp at hpos
  |cons y yr=>exact⟨y,yr,rfl⟩
 have hall:(xs++y::yr).all (pur 6)=true:=by rw[List.all_append,hp,hyp];rfl
 simp only[List.length_cons] at hyl;cases xs with
 |nil=>
  refine j00 Tryz.func338 rfl rfl rfl ?_;simp only[bufP,bufS];repeat'(first|refine gU ?_|refine gX hN ?_|refine VOk.mk (jeD (w:=1) (r:=140737488355328) rfl rfl (by simp only[List.length_cons,List.length_nil];omega) (by simp only[List.length_cons,List.length_nil];omega)) ?_)<;>conv=>whnf
  refine j9k rfl (.inl rfl) hall (j2W (r:=yr) hall ?_ (by simp) _ _ rfl rfl)
  simp only[List.length_nil,List.length_cons] at hl⊢;omega
 |cons x xr=>
  refine j00 Tryz.func338 rfl rfl rfl ?_;simp only[bufP,bufS];repeat'(first|refine gU ?_|refine gX hN ?_|refine VOk.mk (j1o (w:=1) (r:=140737488355328) (by simp:(x::xr).length=xr.length+1) rfl rfl rfl rfl (by simp only[List.length_cons] at hl⊢;omega) (by simp only[List.length_cons] at hl⊢;omega)) ?_)<;>conv=>whnf
  refine j9k rfl (.inr rfl) hall (j2W (r:=xr++y::yr) hall ?_ (by simp;omega) _ _ rfl rfl)
  simp only[List.length_append,List.cons_append,List.length_cons] at hl⊢;omega
theorem jqU(k:Int):Pf C1 365 [iv k] [bv (decide (k=1)||decide (k=2))]:=by
 refine j00 Tryz.func365 rfl rfl rfl ?_;repeat'(first|refine gU ?_|apply gE<;>intro h)<;>conv=>whnf
 all_goals simp_all
open Go Go.Am Go.Gw
theorem jsU{i:Nat}{c:List UInt8}(h:ns[i]?=some c):(svs ns)[i]?=some (sv c):=by simp[svs,h]
theorem jpL(h:z=1∨ns=[]):z=1∨svs ns=[]:=by
 rcases h with rfl|rfl
 ·exact .inl rfl
 ·exact .inr rfl
def jex(s:List UInt8):List (List UInt8)→Nat→Int
 |[],_=>-1
 |c::r,i=>if s=c then i else jex s r (i+1)
theorem jgK(s:List UInt8):∀(ns:List (List UInt8)) (i:Nat),decide (0≤jex s ns i)=decide (s∈ns)
 |[],i=>by simp[jex]
 |c::r,i=>by
  rw[jex]
  by_cases h:s=c
  ·rw[if_pos h];simp[h]
  ·rw[if_neg h,jgK s r (i+1)];simp[h]
theorem jqG(s:List UInt8)(ns:List (List UInt8))(b:Bool)(z:Nat)(hz:z=1∨ns=[])(hbd:ns.length≤8796093022208):Pf C1 394 [.sl b z (svs ns),sv s] [iv (jex s ns 0)]:=by
 have hln:(svs ns).length=ns.length:=by simp
 refine j00 Tryz.func394 rfl rfl rfl ?_;all_goals try conv=>whnf
 refine j04 (G:=Nat) (fun i=>[(8,iv i)]) (fun _=>_) (fun i=>i≤ns.length∧jex s (ns.drop i) i=jex s ns 0) (fun i=>ns.length-i) 0 ⟨by omega,rfl⟩ rfl rfl ?_
 rintro i ⟨hi,hall⟩;dsimp only at hi hall⊢;repeat'(first|refine gU ?_|apply gE<;>intro h)<;>conv=>whnf
 ·have hi':i<ns.length:=by omega
  obtain⟨c,hc⟩:∃c,ns[i]?=some c:=⟨_,List.getElem?_eq_getElem hi'⟩;rw[drop_at hc,jex] at hall;repeat'(first|refine gU ?_|apply gM<;>intro h|refine VIdx.mk _ (jsU hc) ?_|refine VOk.mk (j0D rfl (jpL hz)) ?_|refine j3l ?_)<;>conv=>whnf
  ·rw[if_pos (by simpa using h)] at hall
   rw[←hall]
  ·rw[if_neg (by simpa using h)] at hall
   exact VAgain.mk _ rfl _ (j0b rfl rfl rfl) ⟨i+1,⟨hi',hall⟩,by omega,rfl⟩
 ·rw[List.drop_of_length_le (by omega),jex] at hall
  rw[←hall]
theorem je6(s:List UInt8)(ns:List (List UInt8))(b:Bool)(z:Nat)(hz:z=1∨ns=[])(hbd:ns.length≤8796093022208):Pf C1 392 [.sl b z (svs ns),sv s] [bv (decide (s∈ns))]:=by
 have hi:=jqG s ns b z hz hbd;have e:=jgK s ns 0;refine j00 Tryz.func392 rfl rfl rfl ?_;repeat'(first|refine gU ?_|refine gX hi ?_)<;>conv=>whnf
 rw[←e]
end Go.Proofs.YtbnodhcijeaceaaGreatDoor
