/- Bytes that are made of numbers and texts (wire, pack): that they are made; which they are is not asked. -/
import Derived.Test.YtbnodhcijeaceaaGreatDoorXUf
set_option linter.all false
set_option maxHeartbeats 2000000
set_option maxRecDepth 100000
namespace Go.Proofs.YtbnodhcijeaceaaGreatDoor
open Go Go.Am Go.Gw
def andI(a b:Int):Int:=IntKind.i64.wrap ((BitVec.ofInt 64 a &&& BitVec.ofInt 64 b).toNat:Int)
def orI(a b:Int):Int:=IntKind.i64.wrap ((BitVec.ofInt 64 a |||BitVec.ofInt 64 b).toNat:Int)
variable{ρ:AEnv}{f:FuncId}{a b k p:Int}{ls:List Lv}{cs r xs:List PV}{ts:List Tm}{l:Lv}{i k0 m n w z:Nat}{x y:Operand}{K:PV→Prop}{P:Program}{T:TypeId}
def band:j0i P .and T x y (iv a) (iv b)=some (iv (andI a b)):=by
 simp only[j0i,j5r,eqGuard,binOp,Op.intBits];rfl
def bor:j0i P .or T x y (iv a) (iv b)=some (iv (orI a b)):=by
 simp only[j0i,j5r,eqGuard,binOp,Op.intBits];rfl
def juX:j0i P .shr T x y (iv a) (.sc (.int .u64 7))=some (iv (a/128)):=by
 have e:a.fdiv (2^7)=a/128:=by rw[FQ _ (by decide)];rfl
 have h:¬((7:Int)<0):=by omega
 have hm:min (7:Int).toNat IntKind.i64.bits=7:=by decide
 simp only[j0i,j5r,eqGuard,binOp,Op.shift,if_neg h,hm,e];rfl
def juW(op:BinOp)(a b:Int)(K:PV→Prop):Prop:=match op with
 | .and=>K (iv (andI a b))
 | .or=>K (iv (orI a b))
 |_=>False
def jkG{op:BinOp}(h:juW op a b K):VRes (j0i P op T x y (iv a) (iv b)) K:=by
 cases op with
 |and=>exact⟨_,band,h⟩
 |or=>exact⟨_,bor,h⟩
 |_=>exact h.elim
def jhq(h:K (iv (a/128))):VRes (j0i P .shr T x y (iv a) (.sc (.int .u64 7))) K:=⟨_,juX,h⟩
def toB(a:Int):PV:=.sc (.int .u8 (IntKind.u8.wrap a))
def toU8(hx:aval ρ x=some (iv a)):jfG C1.P ρ 3 5 x=some (toB a):=by
 have h1:(strT C1.P 3&&jd7 C1.P 5)=false:=by kernel_rfl
 have hs:C1.P.underlying 3=some (.int .i64):=by kernel_rfl
 have hd:C1.P.underlying 5=some (.int .u8):=by kernel_rfl
 have e:qrun C1.P (convert 3 5 (.int .i64 a))=some (.int .u8 (IntKind.u8.wrap a)):=by
  unfold convert;simp only[bind];rw[j3z (j1q hs),j3z (j1q hd)];rfl
 simp only[jfG,h1,hx];rw[e];rfl
def bufP(xs:List PV):PV:=match xs with
 |[]=>.sl true 0 []
 |_::r=>.ms 0 (r.length+1)
def bufS(xs:List PV):Sto:=match xs with
 |[]=>[]
 |a::r=>[.row false 5 1 (a::r)]
def p68(h:cs.all (pur 6)=true):cs.all (pur 8)=true:=AF.2 fun c hc=>jdF (jdF (AF.1 h c hc))
def jdm(qA:k0=0∨k0=1)(hp:cs.all (pur 6)=true)(hA:jab [[]] 64 (ρ.flatMap (fun p=>ids 8 p.2)) []=[0])(h1:ρ.all (fun p=>j0e (fun i=>Nat.blt i 1) 8 p.2)=true):gc k0 ρ [.row false T z cs]=[.row false T z cs]:=by
 rcases qA with rfl|rfl
 ·refine j0B (acc:=[0]) (.cons (j05 (p68 hp)) .nil) (.cons (j05 (p68 hp)) .nil) rfl ?_ rfl h1 rfl;rw[show(List.take 0 [([]:List Nat)]).flatten=[] from rfl,BF]
  exact hA
 ·exact j1a rfl
def j9j{Q:AEnd→Sto→Prop}(hk:C1.keep f=true)(hA:k0=0∨k0=1)(hp:cs.all (pur 6)=true)(k:Q (.ret [.ms 0 n]) [.row false T z cs]):VRet C1 f k0 [.ms 0 n] [.row false T z cs] Q:=by
 refine j1g (.inl ⟨hk,rfl,rfl⟩) rfl (jdm hA hp rfl rfl) (j0L ?_) k;rcases hA with rfl|rfl<;>rfl
def jaG(xs:List PV):(bufS xs).length=0∨(bufS xs).length=1:=by cases xs<;>simp[bufS]
def Put1(xs:List PV)(n:Nat)(r:AEnd)(st:Sto):Prop:=∃ys,r=.ret [bufP ys]∧st=bufS ys∧ys.all (pur 6)=true∧ys.length≤xs.length+n∧0<ys.length
def j3c{y:PV}(hp:(y::r).all (pur 6)=true)(hl:(y::r).length≤xs.length+n)(hm:m=r.length+1)(T:TypeId)(z:Nat)(hT:T=5)(hz:z=1):Put1 xs n (.ret [.ms 0 m]) [.row false T z (y::r)]:=by
 subst hm hT hz;exact⟨y::r,rfl,rfl,hp,hl,by simp⟩
def jmF(n:Int):Pf C1 383 [iv n] [bv (decide (0≤n)&&decide (n≤1099511627776))]:=by
 refine gR Tryz.func383 ?_;repeat'(first|refine gU ?_|apply gE<;>intro h)<;>conv=>whnf
 all_goals
  refine j0O ?_;rw[CL];simp;omega
def jkH(n:Int)(h0:0≤n)(h1:n≤1099511627776)(xs:List PV)(hp:xs.all (pur 6)=true)(hl:xs.length≤100000000):Finds C1 384 [bufP xs,iv n] (bufS xs) (Put1 xs 6):=by
 refine gR Tryz.func384 ?_;all_goals try conv=>whnf
 refine j04 (G:=List PV×Int) (fun g=>[(0,bufP g.1),(1,iv g.2)]) (fun g=>bufS g.1) (fun g=>g.1.all (pur 6)=true∧0≤g.2∧((g.1.length=xs.length∧g.2<4398046511104)∨(g.1.length=xs.length+1∧g.2<34359738368)∨(g.1.length=xs.length+2∧g.2<268435456)∨(g.1.length=xs.length+3∧g.2<2097152)∨(g.1.length=xs.length+4∧g.2<16384)∨(g.1.length=xs.length+5∧g.2<128))) (fun g=>g.2.toNat) (xs,n) ⟨hp,h0,by dsimp only;omega⟩ rfl rfl ?_
 rintro⟨ys,m⟩ ⟨qA,gA,hA⟩;dsimp only at qA gA hA⊢;cases ys with
 |nil=>
  simp only[bufP,bufS];repeat'(first|refine gU ?_|apply gE<;>intro h|refine jkG ?_|refine jhq ?_|refine VRes.mk _ (toU8 rfl) ?_)<;>conv=>whnf
  ·have h8:[toB (orI (andI m 127) 128)].all (pur 6)=true:=rfl;refine VAgain.mk _ rfl _ (jdm (jaG xs) h8 rfl rfl) ⟨([toB (orI (andI m 127) 128)],m/128),⟨h8,by dsimp only;omega,?_⟩,by dsimp only;omega,rfl⟩
   simp only[AG,AC] at hA⊢;omega
  ·have h8:[toB m].all (pur 6)=true:=rfl;refine j9j rfl (jaG xs) h8 (j3c h8 ?_ rfl _ _ rfl rfl);simp only[AG,AC] at hA⊢;omega
 |cons y r=>
  simp only[bufP,bufS];have wA:r.length≤100000010:=by simp only[AC] at hA;omega
  repeat'(first|refine gU ?_|apply gE<;>intro h|refine jkG ?_|refine jhq ?_|refine VRes.mk _ (toU8 rfl) ?_|refine VOk.mk (j0N (w:=1) (r:=140737488355328) (by simp:(y::r).length=r.length+1) rfl rfl rfl rfl (by simp only[AC,AG];omega) (by simp only[AC,AG];omega)) ?_)<;>conv=>whnf
  ·have h8:(y::r++[toB (orI (andI m 127) 128)]).all (pur 6)=true:=by rw[DF,qA];rfl
   refine VAgain.mk _ rfl _ (jdm (jaG xs) h8 rfl rfl) ⟨(y::r++[toB (orI (andI m 127) 128)],m/128),⟨h8,by dsimp only;omega,?_⟩,by dsimp only;omega,?_⟩
   ·simp only[AL,AG,AC] at hA⊢;omega
   ·simp only[BY,bufP,AL];rfl
  ·have h8:(y::r++[toB m]).all (pur 6)=true:=by rw[DF,qA];rfl
   refine j9j rfl (jaG xs) h8 (j3c (r:=r++[toB m]) h8 ?_ (by simp) _ _ rfl rfl)
   simp only[AL,BY,AG,AC] at hA⊢;omega
def jpR(n:Int)(h0:0≤n)(h1:n≤1099511627776)(b:Bool):∃ys:List PV,ys.all (pur 6)=true∧ys.length≤6∧0<ys.length∧Pf C1 363 [.sl b 1 [iv n]] [.sl false 1 ys,bv true]:=by
 have hr:=jmF n;rw[decide_eq_true h0,decide_eq_true h1] at hr;simp only[CP] at hr;have hw:=jkH n h0 h1 [] rfl (by simp)
 obtain⟨r,st,⟨ys,rfl,rfl,hp,hl,hA⟩,N,hN⟩:=hw;have hf:Finds C1 384 [.sl true 0 [],iv n] [] fun r st=>r=.ret [bufP ys]∧st=bufS ys:=⟨_,_,⟨rfl,rfl⟩,N,hN⟩
 clear hN;refine⟨ys,hp,by simpa using hl,hA,?_⟩
 obtain⟨y,yr,rfl⟩:∃y yr,ys=y::yr:=by
  cases ys with
  |nil=>simp at hA
  |cons y yr=>exact⟨y,yr,rfl⟩
 have qA:=p68 hp;refine gR Tryz.func363 ?_;all_goals try conv=>whnf
 refine j04 (G:=Bool) (fun g=>[(9,iv (if g then 1 else 0)),(4,if g then .ms 0 (yr.length+1) else .sl true 0 [])]) (fun g=>if g then[.row false 5 1 (y::yr)] else[]) (fun _=>True) (fun g=>if g then 0 else 1) false trivial rfl rfl ?_
 intro g _;cases g with
 |false=>
  simp only[CN,if_false];repeat'(first|refine gU ?_|refine VIdx.mk _ rfl ?_|refine gX hr ?_)<;>conv=>whnf
  refine j1d rfl (Finds.mono hf ?_);rintro _ _ ⟨rfl,rfl⟩;refine⟨rfl,?_⟩;refine j4w (.cons (j0o qA) .nil) rfl ?_;repeat'(refine gU ?_)<;>conv=>whnf
  refine VAgain.mk _ rfl _ (jdm (.inl rfl) hp rfl rfl) ⟨true,trivial,by simp,rfl⟩
 |true=>
  simp only[if_true];repeat'(refine gU ?_)<;>conv=>whnf
  refine j0m rfl (j03 (j0p rfl (by simp) hp) (j03 rfl j0h)) rfl rfl
def jjJ{U t t' a b:Nat}(hs:strT P U=true)(h:xs.length=n)(h0:0<n)(ht:Nat.beq t t'=true)(hw:Nat.beq w 1=true)(ha:Nat.beq a 1=true)(hb:Nat.beq b 1=true)(h2:n+m≤140737488355328):
  (strT P U&&(Nat.beq n xs.length&&Nat.beq t t'&&Nat.beq w 1&&Nat.beq a 1&&Nat.beq b 1&&Nat.blt 0 n&&fits (n+m) 1))=true:=by
 subst h;have hf:fits (xs.length+m) 1=true:=by
  rw[fits,FD,CP];exact BN h2
 have hA:Nat.blt 0 xs.length=true:=by rw[BW];exact h0
 rw[hs,ht,hw,ha,hb,hf,hA,DG];rfl
def bsv(s:List UInt8):List PV:=s.map fun c=>.sc (.int .u8 c.toNat)
def jjp(s:List UInt8):(bsv s).all (pur 6)=true:=by
 rw[AF]
 intro x hx;obtain⟨c,_,rfl⟩:=DC.1 hx;rfl
def jmH(s:List UInt8)(hs:s.length≤1000000)(b:Bool):Finds C1 364 [.sl true 0 [],.sl b 1 [sv s]] [] (Put1 [] (6+s.length)):=by
 have hlen:(⟨s.toArray⟩:ByteArray).size=s.length:=j2A _;obtain⟨r,st,⟨ys,rfl,rfl,hp,hl,qA⟩,N,hN⟩:=jkH s.length (by omega) (by omega) [] rfl (by simp)
 have hf:Finds C1 384 [.sl true 0 [],iv s.length] [] fun r st=>r=.ret [bufP ys]∧st=bufS ys:=⟨_,_,⟨rfl,rfl⟩,N,hN⟩
 clear hN;obtain⟨y,yr,rfl⟩:∃y yr,ys=y::yr:=by
  cases ys with
  |nil=>simp at qA
  |cons y yr=>exact⟨y,yr,rfl⟩
 have gA:=p68 hp;refine gR Tryz.func364 ?_;all_goals try conv=>whnf
 refine j04 (G:=Bool) (fun g=>[(9,iv (if g then 1 else 0)),(0,if g then .ms 0 (yr.length+1+s.length) else .sl true 0 [])]) (fun g=>if g then[.row false 5 1 (y::yr++bsv s)] else[]) (fun _=>True) (fun g=>if g then 0 else 1) false trivial rfl rfl ?_
 intro g _;cases g with
 |false=>
  simp only[CN,if_false];repeat'(first|refine gU ?_|refine VIdx.mk _ rfl ?_)<;>conv=>whnf
  refine j1d rfl (Finds.mono hf ?_);rintro _ _ ⟨rfl,rfl⟩;refine⟨rfl,?_⟩;refine j4w (.cons (j0o gA) .nil) rfl ?_;have hA:(y::yr++bsv s).all (pur 6)=true:=by rw[DF,hp,jjp];rfl
  cases s with
  |nil=>
   repeat'(first|refine gU ?_|refine VOk.mk (jjJ rfl (by simp) (by omega) rfl rfl rfl rfl (by show yr.length+1+0≤_;simp only[AG,AC] at hl;omega)) ?_)<;>conv=>whnf
   refine VAgain.mk _ rfl _ (jdm (.inl rfl) hp rfl rfl) ⟨true,trivial,by simp,?_⟩
   simp only[bsv,CE,BF,if_true];rfl
  |cons c r=>
   repeat'(first|refine gU ?_|refine VOk.mk (jjJ rfl (by simp) (by omega) rfl rfl rfl rfl (by show yr.length+1+(c::r).length≤_;simp only[AG,AC] at hl hs⊢;omega)) ?_)<;>conv=>whnf
   refine VAgain.mk _ rfl _ (jdm (.inl rfl) hA rfl rfl) ⟨true,trivial,by simp,?_⟩
   rfl
 |true=>
  simp only[if_true];repeat'(refine gU ?_)<;>conv=>whnf
  have hA:(y::yr++bsv s).all (pur 6)=true:=by rw[DF,hp,jjp];rfl
  refine j9j rfl (.inl rfl) hA (j3c (r:=yr++bsv s) hA ?_ (by simp[bsv];omega) _ _ rfl rfl)
  simp only[AL,BY,AG,AC,bsv,AZ] at hl⊢;omega
def jdU(s:List UInt8)(hs:s.length≤1000000)(b:Bool):∃ys:List PV,ys.all (pur 6)=true∧ys.length≤6+s.length∧0<ys.length∧Pf C1 339 [.sl b 1 [sv s]] [.sl false 1 ys]:=by
 obtain⟨r,st,⟨ys,rfl,rfl,hp,hl,hA⟩,N,hN⟩:=jmH s hs b;have hf:Finds C1 364 [.sl true 0 [],.sl b 1 [sv s]] [] fun r st=>r=.ret [bufP ys]∧st=bufS ys:=⟨_,_,⟨rfl,rfl⟩,N,hN⟩
 clear hN;refine⟨ys,hp,by simpa using hl,hA,?_⟩
 obtain⟨y,yr,rfl⟩:∃y yr,ys=y::yr:=by
  cases ys with
  |nil=>simp at hA
  |cons y yr=>exact⟨y,yr,rfl⟩
 have qA:=p68 hp;refine gR Tryz.func339 ?_;all_goals try conv=>whnf
 refine j1d rfl (Finds.mono hf ?_);rintro _ _ ⟨rfl,rfl⟩;refine⟨rfl,?_⟩;refine j4w (.cons (j0o qA) .nil) rfl ?_;all_goals try conv=>whnf
 refine j0m rfl (j03 (j0p rfl (by simp) hp) j0h) rfl rfl
def j8G{by_ r:Nat}{e:Bool}(hw:by_=w)(hr:room=r)(h1:m*w≤r)(h2:m≤r):(true&&(e||([]:List PV).isEmpty)&&fits m by_)=true:=by
 subst hw hr;rw[show(e||([]:List PV).isEmpty)=true by cases e<;>rfl,fits,BN h1,BN h2]
 rfl
def j4F(n:Int)(h0:0≤n)(h1:n≤1099511627776)(b:Bool)(xs:List PV)(hp:xs.all (pur 6)=true)(hl:xs.length≤100000000):Finds C1 338 [bufP xs,.sl b 1 [iv n]] (bufS xs) (Put1 xs 6):=by
 obtain⟨ys,gA,wA,qA,hN⟩:=jpR n h0 h1 b;obtain⟨y,yr,rfl⟩:∃y yr,ys=y::yr:=by
  cases ys with
  |nil=>simp at qA
  |cons y yr=>exact⟨y,yr,rfl⟩
 have hA:(xs++y::yr).all (pur 6)=true:=by rw[DF,hp,gA];rfl
 simp only[AC] at wA;cases xs with
 |nil=>
  refine gR Tryz.func338 ?_;simp only[bufP,bufS];repeat'(first|refine gU ?_|refine gX hN ?_|refine VOk.mk (j8G (w:=1) (r:=140737488355328) rfl rfl (by simp only[AC,AG];omega) (by simp only[AC,AG];omega)) ?_)<;>conv=>whnf
  refine j9j rfl (.inl rfl) hA (j3c (r:=yr) hA ?_ (by simp) _ _ rfl rfl)
  simp only[AG,AC] at hl⊢;omega
 |cons x xr=>
  refine gR Tryz.func338 ?_;simp only[bufP,bufS];repeat'(first|refine gU ?_|refine gX hN ?_|refine VOk.mk (j0N (w:=1) (r:=140737488355328) (by simp:(x::xr).length=xr.length+1) rfl rfl rfl rfl (by simp only[AC] at hl⊢;omega) (by simp only[AC] at hl⊢;omega)) ?_)<;>conv=>whnf
  refine j9j rfl (.inr rfl) hA (j3c (r:=xr++y::yr) hA ?_ (by simp;omega) _ _ rfl rfl)
  simp only[AL,BY,AC] at hl⊢;omega
def jqL(k:Int):Pf C1 365 [iv k] [bv (decide (k=1)||decide (k=2))]:=by
 refine gR Tryz.func365 ?_;repeat'(first|refine gU ?_|apply gE<;>intro h)<;>conv=>whnf
 all_goals simp_all
open Go Go.Am Go.Gw
def j0J{a y:PV}{yr:List PV}{q:Nat}{st:Sto}{K:AEnd→Sto→Prop}(hA:C1.raw f=true)(ha:pur 8 a=true)(hn:n=yr.length+1)(hB:st[i]?=some (.row false 5 1 (y::yr)))(hp:(y::yr).all (pur 6)=true)
  (h:Finds C1 f [bufP (y::yr),a] (bufS (y::yr)) (Put1 (y::yr) q))
  (k:∀z zr,(z::zr).all (pur 6)=true→(z::zr).length≤(y::yr).length+q→K (.ret [.ms i (zr.length+1)]) (st.set i (.row false 5 1 (z::zr)))):VCall C1 f [.ms i n,a] st K:=by
 subst hn;have hi:=j9S ha;have hR:=j0o (b:=false) (T:=5) (z:=1) (p68 hp);have hC:∀f,soIn f (.row false 5 1 (y::yr))=true:=fun f=>hR.sh.2 f (fun j hj=>nomatch hj)
 have gA:[PV.ms i (yr.length+1),a].flatMap (ids 8)=[i]:=by
  rw[EA,EA,hi.1];rfl
 have gB:[i].elem i=true:=by simp
 refine j0K (args':=[.ms i (yr.length+1),a]) (args0:=[bufP (y::yr),a]) (st0:=bufS (y::yr)) (π:=[i]) (by unfold handed;rw[hA]) rfl ?_ ?_ ?_ ?_ (Finds.mono h ?_)
 ·rw[gA];simp only[close,List.elem_nil,hB,hR.sh.1,BF,HF,GA,BV]
 ·rw[BH,BH,hi.2];show([i].elem i&&_)=true
  rw[gB];rfl
 ·simp only[fetch,mapO,hB,hC,hR.ren];rfl
 ·rw[BC,BC,j5o ha];have e:place i 0 [i]=0:=by simp[place]
  show[PV.ms (place i 0 [i]) (yr.length+1),a]=_
  rw[e];rfl
 ·rintro _ _ ⟨ys,rfl,rfl,wA,qB,qA⟩;obtain⟨z,zr,rfl⟩:∃z zr,ys=z::zr:=by
   cases ys with
   |nil=>simp at qA
   |cons z zr=>exact⟨z,zr,rfl⟩
  have hZ:=j0o (b:=false) (T:=5) (z:=1) (p68 wA);have wB:∀f,soIn f (.row false 5 1 (z::zr))=true:=fun f=>hZ.sh.2 f (fun j hj=>nomatch hj)
  refine j1z ?_ ?_
  ·simp only[bufP,bufS,BH,FY,wB];rfl
  ·have:=k z zr wA qB;simp only[bufP,bufS,j2s,hZ.ren,AC,AG,List.drop_succ_cons,CH,CE,BF];exact this
def jsC{n:Int}(h:allF (.mk k n ls) 4=true):(1≤k∧k≤5)∧(0≤n∧n≤100)∧j3n ls 4=true:=by
 simp only[allF,AB] at h;obtain⟨h1,h2⟩:=h;simp only[j7G,jcB] at h1;refine⟨?_,?_,h2⟩<;>(repeat' split at h1)<;>simp_all<;>omega
def j5v(h:j3n ls p=true)(e:ls[i]?=some l):allF l p=true:=by
 induction ls generalizing i with
 |nil=>simp at e
 |cons a r ih=>
  simp only[j3n,AB] at h;cases i with
  |zero=>simp at e;subst e;exact h.1
  |succ i=>exact ih h.2 (by simpa using e)
def j2H(l:Lv):∀v,LvP l v→allF l 4=true→∀(x:PV) (xr:List PV),(x::xr).all (pur 6)=true→(x::xr).length+12*j0T l≤100000000→Finds C1 340 [bufP (x::xr),v] (bufS (x::xr)) (Put1 (x::xr) (12*j0T l)):=by
 induction l using Lv.ind with
 |_ k nn ls ih=>
 intro v h qD x xr hp hl;obtain⟨_,_,_,b,z,xs,⟨rfl,rfl,rfl⟩,rfl,hz,wD,hlen,kF⟩:=h.open;have hA:=p68 hp;refine gR Tryz.func340 ?_;have hb:=jsC qD;have hk:=j4F k (by omega) (by omega) true
 have hn:=j4F nn (by omega) (by omega) true
 have qE:=jqL k;simp only[j0T] at hl⊢;simp only[bufP,bufS];repeat'(first|apply gM<;>intro h|refine gX qE ?_|refine j0J rfl rfl rfl rfl hp (hk _ hp (by omega)) (fun z0 zr0 gC hF=>?_)|refine j0J rfl rfl rfl rfl gC (hn _ gC (by omega)) (fun z1 zr1 kE wE=>?_))<;>conv=>whnf
 ·refine j04 (G:=Nat×PV×List PV) (fun g=>[(23,iv g.1),(0,.ms 0 (g.2.2.length+1))]) (fun g=>[.row false 5 1 (g.2.1::g.2.2),_]) (fun g=>g.1≤ls.length∧(g.2.1::g.2.2).all (pur 6)=true∧(g.2.1::g.2.2).length+12*j0d (ls.drop g.1)≤(x::xr).length+12*(1+j0d ls)) (fun g=>ls.length-g.1) (0,z1,zr1) ⟨by omega,kE,by simp only[CH,AC] at *;omega⟩ rfl rfl ?_
  rintro⟨i,y,yr⟩ ⟨hi,qA,gA⟩;dsimp only at hi qA gA⊢;have hA:=p68 qA;repeat'(first|refine gU ?_|apply gE<;>intro h)<;>conv=>whnf
  ·have hC:i<ls.length:=by omega
   obtain⟨lc,wA⟩:∃lc,ls[i]?=some lc:=⟨_,AA hC⟩;obtain⟨v,hv,gB⟩:=wD.at wA;have gD:=j5v hb.2.2 wA;have hsz:j0d (ls.drop i)=j0T lc+j0d (ls.drop (i+1)):=by rw[drop_at wA,j0d]
   have hB:=ih _ (AE wA) _ gB gD y yr qA (by simp only[AC] at gA hl⊢;omega)
   obtain⟨k1,n1,l1,b1,z1,x1,rfl,rfl,hE,qC,wB,hD⟩:=gB.open;repeat'(first|refine gU ?_|refine VIdx.mk _ hv ?_|refine gZ hz ?_|refine j0J rfl rfl rfl rfl qA hB (fun w wr qB wC=>?_))<;>conv=>whnf
   have hA:=p68 qB;refine VAgain.mk _ rfl _ (j0B (.cons (j05 hA) (.cons (j02 rfl rfl) (.cons (j02 rfl rfl) .nil))) (.cons (j05 hA) (.cons (j02 rfl rfl) .nil)) rfl rfl rfl rfl rfl) ⟨(i+1,w,wr),⟨hC,qB,?_⟩,by dsimp only;omega,rfl⟩
   simp only[AC] at gA wC⊢;omega
  ·refine j1g (.inl ⟨rfl,rfl,rfl⟩) rfl (j0B (.cons (j05 hA) (.cons (j02 rfl rfl) .nil)) (.cons (j05 hA) .nil) rfl rfl rfl rfl rfl) (j0L rfl) (j3c qA ?_ rfl _ _ rfl rfl);simp only[AC] at gA⊢;omega
 ·refine j04 (G:=Nat×PV×List PV) (fun g=>[(23,iv g.1),(0,.ms 0 (g.2.2.length+1))]) (fun g=>[.row false 5 1 (g.2.1::g.2.2),_]) (fun g=>g.1≤ls.length∧(g.2.1::g.2.2).all (pur 6)=true∧(g.2.1::g.2.2).length+12*j0d (ls.drop g.1)≤(x::xr).length+12*(1+j0d ls)) (fun g=>ls.length-g.1) (0,z0,zr0) ⟨by omega,gC,by simp only[CH,AC] at *;omega⟩ rfl rfl ?_
  rintro⟨i,y,yr⟩ ⟨hi,qA,gA⟩;dsimp only at hi qA gA⊢;have hA:=p68 qA;repeat'(first|refine gU ?_|apply gE<;>intro h)<;>conv=>whnf
  ·have hC:i<ls.length:=by omega
   obtain⟨lc,wA⟩:∃lc,ls[i]?=some lc:=⟨_,AA hC⟩;obtain⟨v,hv,gB⟩:=wD.at wA;have gD:=j5v hb.2.2 wA;have hsz:j0d (ls.drop i)=j0T lc+j0d (ls.drop (i+1)):=by rw[drop_at wA,j0d]
   have hB:=ih _ (AE wA) _ gB gD y yr qA (by simp only[AC] at gA hl⊢;omega)
   obtain⟨k1,n1,l1,b1,z1,x1,rfl,rfl,hE,qC,wB,hD⟩:=gB.open;repeat'(first|refine gU ?_|refine VIdx.mk _ hv ?_|refine gZ hz ?_|refine j0J rfl rfl rfl rfl qA hB (fun w wr qB wC=>?_))<;>conv=>whnf
   have hA:=p68 qB;refine VAgain.mk _ rfl _ (j0B (.cons (j05 hA) (.cons (j02 rfl rfl) (.cons (j02 rfl rfl) .nil))) (.cons (j05 hA) (.cons (j02 rfl rfl) .nil)) rfl rfl rfl rfl rfl) ⟨(i+1,w,wr),⟨hC,qB,?_⟩,by dsimp only;omega,rfl⟩
   simp only[AC] at gA wC⊢;omega
  ·refine j1g (.inl ⟨rfl,rfl,rfl⟩) rfl (j0B (.cons (j05 hA) (.cons (j02 rfl rfl) .nil)) (.cons (j05 hA) .nil) rfl rfl rfl rfl rfl) (j0L rfl) (j3c qA ?_ rfl _ _ rfl rfl);simp only[AC] at gA⊢;omega
mutual
def j8T:Tm→Bool
 | .mk k n _ _ ts=>(!decide (k=1)||decide (n<1099511627776))&&jbV ts
def jbV:List Tm→Bool
 |[]=>true
 |t::r=>j8T t&&jbV r
end
def j5h{t:Tm}(h:jbV ts=true)(e:ts[i]?=some t):j8T t=true:=by
 induction ts generalizing i with
 |nil=>simp at e
 |cons a r ih=>
  simp only[jbV,AB] at h;cases i with
  |zero=>simp at e;subst e;exact h.1
  |succ i=>exact ih h.2 (by simpa using e)
def j3Y(h:j1j ls p=true)(e:ls[i]?=some l):j0C l p=true:=by
 induction ls generalizing i with
 |nil=>simp at e
 |cons a r ih=>
  simp only[j1j,AB] at h;cases i with
  |zero=>simp at e;subst e;exact h.1
  |succ i=>exact ih h.2 (by simpa using e)
def j3h(h:j0C l p=true):allF l p=true:=by
 simp only[j0C,AB] at h;exact h.2.2.2
def juz{n:Int}{s:List UInt8}{kk:Int}(h:allT (.mk k n s ls ts) 4 kk=true)(hn:j8T (.mk k n s ls ts)=true):(1≤k∧k≤7)∧(k=1→0≤n∧n≤1099511627776)∧s.length≤40∧(ls.length:Int)≤4∧j1j ls 4=true∧jbV ts=true:=by
 obtain⟨hk,hl,hA,qA,gA⟩:=j0q h;simp only[j8T,AB] at hn;simp only[j2Q] at hA;refine⟨hk,?_,?_,?_,qA,hn.2⟩
 ·intro h1;rw[if_pos h1] at hA;have:=hn.1;simp[h1] at this hA;omega
 ·split at hA
  ·simp at hA;simp[hA.2.2.1]
  ·split at hA
   ·simp[j2f] at hA;omega
   ·simp at hA;simp[hA.2.1]
 ·split at hA
  ·simp at hA;simp[hA.2.2.2]
  ·split at hA
   ·simp at hA;omega
   ·have h3:j0G k≤1:=by unfold j0G;split<;>omega
    simp only[AB,decide_eq_true_eq] at hA;omega
def j8c(t:Tm):∀v,TmP t v→∀kk:Int,allT t 4 kk=true→j8T t=true→∀(x:PV) (xr:List PV),(x::xr).all (pur 6)=true→(x::xr).length+64*sizT t≤100000000→Finds C1 311 [bufP (x::xr),v] (bufS (x::xr)) (Put1 (x::xr) (64*sizT t)):=by
 induction t using Tm.ind with
 |_ k nn s ls ts ih=>
 intro v h kk wF qF x xr hp hl;obtain⟨qI,hH,gH,kI,gG,hE⟩:=juz wF qF;have kE:=(j0q wF).2.2.2.2;obtain⟨_,_,_,_,_,b,z,xs,c,y,ys,⟨rfl,rfl,rfl,rfl,rfl⟩,rfl,hz,qG,hlen,hK,hy,kG,hlen2,gI,hJ⟩:=h.open;have qA:=p68 hp;have hk:=j4F k (by omega) (by omega) true
 have hn:=fun h=>j4F nn (hH h).1 (hH h).2 true
 have hc:=j4F xs.length (by omega) (by omega) true
 obtain⟨tx,kH,wI,qH,hT⟩:=jdU s (by omega) true
 obtain⟨q,qr,rfl⟩:∃q qr,tx=q::qr:=by
  cases tx with
  |nil=>simp at qH
  |cons q qr=>exact⟨q,qr,rfl⟩
 have gF:∀{z:PV}{zr:List PV},(z::zr).all (pur 6)=true→(z::(zr++q::qr)).all (pur 6)=true:=fun{z zr} h=>by
  rw[show z::(zr++q::qr)=(z::zr)++q::qr from rfl,DF,h,kH]
  rfl
 refine gR Tryz.func311 ?_;simp only[sizT] at hl⊢;simp only[bufP,bufS];repeat'(first|refine gU ?_|apply gE<;>intro h|refine j0J rfl rfl rfl rfl hp (hk _ hp (by omega)) (fun z0 zr0 kF wJ=>?_)|refine j0J rfl rfl rfl rfl kF (hn (by omega) _ kF (by omega)) (fun z1 zr1 hI qJ=>?_)|refine gX hT ?_|refine VOk.mk (j0N (w:=1) (r:=140737488355328) (by simp:(z0::zr0).length=zr0.length+1) rfl rfl rfl rfl (by simp only[AC] at *;omega) (by simp only[AC] at *;omega)) ?_|refine j0J (y:=z0) (yr:=zr0++q::qr) rfl rfl (by simp;omega) rfl (gF kF) (hc _ (gF kF) (by simp only[AC,AL] at *;omega)) (fun z2 zr2 wH kJ=>?_))<;>conv=>whnf
 ·refine j04 (G:=Nat×PV×List PV) (fun g=>[(40,iv g.1),(0,.ms 0 (g.2.2.length+1))]) (fun g=>[.row false 5 1 (g.2.1::g.2.2),_]) (fun g=>g.1≤ls.length∧(g.2.1::g.2.2).all (pur 6)=true∧(g.2.1::g.2.2).length+12*j0d (ls.drop g.1)≤(x::xr).length+58+12*j0d ls) (fun g=>ls.length-g.1) (0,z1,zr1) ⟨by omega,hI,by simp only[CH,AC,AL] at *;omega⟩ rfl rfl ?_
  rintro⟨i,y,yr⟩ ⟨hi,hA,gA⟩;dsimp only at hi hA gA⊢;have qA:=p68 hA;repeat'(first|refine gU ?_|apply gE<;>intro h)<;>conv=>whnf
  ·have gD:i<ls.length:=by omega
   obtain⟨lc,wC⟩:∃lc,ls[i]?=some lc:=⟨_,AA gD⟩;obtain⟨v,hv,gB⟩:=qG.at wC;have hG:=j3h (j3Y gG wC);have hsz:j0d (ls.drop i)=j0T lc+j0d (ls.drop (i+1)):=by rw[drop_at wC,j0d]
   have wA:=j2H lc _ gB hG y yr hA (by simp only[AC] at gA hl⊢;omega)
   obtain⟨k1,n1,l1,b1,z1,x1,rfl,rfl,qE,hC,wB,hD⟩:=gB.open;repeat'(first|refine gU ?_|refine VIdx.mk _ hv ?_|refine gZ hz ?_|refine j0J rfl rfl rfl rfl hA wA (fun w wr qB qC=>?_))<;>conv=>whnf
   have qA:=p68 qB;refine VAgain.mk _ rfl _ (j0B (.cons (j05 qA) (.cons (j02 rfl rfl) (.cons (j02 rfl rfl) .nil))) (.cons (j05 qA) (.cons (j02 rfl rfl) .nil)) rfl rfl rfl rfl rfl) ⟨(i+1,w,wr),⟨gD,qB,?_⟩,by dsimp only;omega,rfl⟩
   simp only[AC] at gA qC⊢;omega
  ·refine j04 (G:=Nat×PV×List PV) (fun g=>[(51,iv g.1),(0,.ms 0 (g.2.2.length+1))]) (fun g=>[.row false 5 1 (g.2.1::g.2.2),_]) (fun g=>g.1≤ts.length∧(g.2.1::g.2.2).all (pur 6)=true∧(g.2.1::g.2.2).length+64*j0x (ts.drop g.1)≤(x::xr).length+58+12*j0d ls+64*j0x ts) (fun g=>ts.length-g.1) (0,y,yr) ⟨by omega,hA,by simp only[CH,AC] at *;omega⟩ rfl rfl ?_
   rintro⟨j,y,yr⟩ ⟨hj,hA,gA⟩;dsimp only at hj hA gA⊢;have qA:=p68 hA;repeat'(first|refine gU ?_|apply gE<;>intro h)<;>conv=>whnf
   ·have qD:j<ts.length:=by omega
    obtain⟨tc,hB⟩:∃tc,ts[j]?=some tc:=⟨_,AA qD⟩;obtain⟨v,hv,gB⟩:=kG.at hB;have hsz:j0x (ts.drop j)=sizT tc+j0x (ts.drop (j+1)):=by rw[drop_at hB,j0x]
    have wA:=ih _ (AE hB) _ gB _ (j2v kE hB) (j5h hE hB) y yr hA (by simp only[AC] at gA hl⊢;omega)
    obtain⟨k1,n1,s1,l1,t1,b1,z1,x1,c1,y1,ys1,rfl,rfl,qE,hC,wB,hD,wG,wE,gC,wD,hF⟩:=gB.open;repeat'(first|refine gU ?_|refine VIdx.mk _ hv ?_|refine gZ hy ?_|refine j0J rfl rfl rfl rfl hA wA (fun w wr qB qC=>?_))<;>conv=>whnf
    have qA:=p68 qB;refine VAgain.mk _ rfl _ (j0B (.cons (j05 qA) (.cons (j02 rfl rfl) (.cons (j02 rfl rfl) .nil))) (.cons (j05 qA) (.cons (j02 rfl rfl) .nil)) rfl rfl rfl rfl rfl) ⟨(j+1,w,wr),⟨qD,qB,?_⟩,by dsimp only;omega,rfl⟩
    simp only[AC] at gA qC⊢;omega
   ·refine j1g (.inl ⟨rfl,rfl,rfl⟩) rfl (j0B (.cons (j05 qA) (.cons (j02 rfl rfl) .nil)) (.cons (j05 qA) .nil) rfl rfl rfl rfl rfl) (j0L rfl) (j3c hA ?_ rfl _ _ rfl rfl);simp only[AC] at gA⊢;omega
 ·refine j04 (G:=Nat×PV×List PV) (fun g=>[(40,iv g.1),(0,.ms 0 (g.2.2.length+1))]) (fun g=>[.row false 5 1 (g.2.1::g.2.2),_]) (fun g=>g.1≤ls.length∧(g.2.1::g.2.2).all (pur 6)=true∧(g.2.1::g.2.2).length+12*j0d (ls.drop g.1)≤(x::xr).length+58+12*j0d ls) (fun g=>ls.length-g.1) (0,z2,zr2) ⟨by omega,wH,by simp only[CH,AC,AL] at *;omega⟩ rfl rfl ?_
  rintro⟨i,y,yr⟩ ⟨hi,hA,gA⟩;dsimp only at hi hA gA⊢;have qA:=p68 hA;repeat'(first|refine gU ?_|apply gE<;>intro h)<;>conv=>whnf
  ·have gD:i<ls.length:=by omega
   obtain⟨lc,wC⟩:∃lc,ls[i]?=some lc:=⟨_,AA gD⟩;obtain⟨v,hv,gB⟩:=qG.at wC;have hG:=j3h (j3Y gG wC);have hsz:j0d (ls.drop i)=j0T lc+j0d (ls.drop (i+1)):=by rw[drop_at wC,j0d]
   have wA:=j2H lc _ gB hG y yr hA (by simp only[AC] at gA hl⊢;omega)
   obtain⟨k1,n1,l1,b1,z1,x1,rfl,rfl,qE,hC,wB,hD⟩:=gB.open;repeat'(first|refine gU ?_|refine VIdx.mk _ hv ?_|refine gZ hz ?_|refine j0J rfl rfl rfl rfl hA wA (fun w wr qB qC=>?_))<;>conv=>whnf
   have qA:=p68 qB;refine VAgain.mk _ rfl _ (j0B (.cons (j05 qA) (.cons (j02 rfl rfl) (.cons (j02 rfl rfl) .nil))) (.cons (j05 qA) (.cons (j02 rfl rfl) .nil)) rfl rfl rfl rfl rfl) ⟨(i+1,w,wr),⟨gD,qB,?_⟩,by dsimp only;omega,rfl⟩
   simp only[AC] at gA qC⊢;omega
  ·refine j04 (G:=Nat×PV×List PV) (fun g=>[(51,iv g.1),(0,.ms 0 (g.2.2.length+1))]) (fun g=>[.row false 5 1 (g.2.1::g.2.2),_]) (fun g=>g.1≤ts.length∧(g.2.1::g.2.2).all (pur 6)=true∧(g.2.1::g.2.2).length+64*j0x (ts.drop g.1)≤(x::xr).length+58+12*j0d ls+64*j0x ts) (fun g=>ts.length-g.1) (0,y,yr) ⟨by omega,hA,by simp only[CH,AC] at *;omega⟩ rfl rfl ?_
   rintro⟨j,y,yr⟩ ⟨hj,hA,gA⟩;dsimp only at hj hA gA⊢;have qA:=p68 hA;repeat'(first|refine gU ?_|apply gE<;>intro h)<;>conv=>whnf
   ·have qD:j<ts.length:=by omega
    obtain⟨tc,hB⟩:∃tc,ts[j]?=some tc:=⟨_,AA qD⟩;obtain⟨v,hv,gB⟩:=kG.at hB;have hsz:j0x (ts.drop j)=sizT tc+j0x (ts.drop (j+1)):=by rw[drop_at hB,j0x]
    have wA:=ih _ (AE hB) _ gB _ (j2v kE hB) (j5h hE hB) y yr hA (by simp only[AC] at gA hl⊢;omega)
    obtain⟨k1,n1,s1,l1,t1,b1,z1,x1,c1,y1,ys1,rfl,rfl,qE,hC,wB,hD,wG,wE,gC,wD,hF⟩:=gB.open;repeat'(first|refine gU ?_|refine VIdx.mk _ hv ?_|refine gZ hy ?_|refine j0J rfl rfl rfl rfl hA wA (fun w wr qB qC=>?_))<;>conv=>whnf
    have qA:=p68 qB;refine VAgain.mk _ rfl _ (j0B (.cons (j05 qA) (.cons (j02 rfl rfl) (.cons (j02 rfl rfl) .nil))) (.cons (j05 qA) (.cons (j02 rfl rfl) .nil)) rfl rfl rfl rfl rfl) ⟨(j+1,w,wr),⟨qD,qB,?_⟩,by dsimp only;omega,rfl⟩
    simp only[AC] at gA qC⊢;omega
   ·refine j1g (.inl ⟨rfl,rfl,rfl⟩) rfl (j0B (.cons (j05 qA) (.cons (j02 rfl rfl) .nil)) (.cons (j05 qA) .nil) rfl rfl rfl rfl rfl) (j0L rfl) (j3c hA ?_ rfl _ _ rfl rfl);simp only[AC] at gA⊢;omega
 ·refine j04 (G:=Nat×PV×List PV) (fun g=>[(40,iv g.1),(0,.ms 0 (g.2.2.length+1))]) (fun g=>[.row false 5 1 (g.2.1::g.2.2),_]) (fun g=>g.1≤ls.length∧(g.2.1::g.2.2).all (pur 6)=true∧(g.2.1::g.2.2).length+12*j0d (ls.drop g.1)≤(x::xr).length+58+12*j0d ls) (fun g=>ls.length-g.1) (0,z0,zr0) ⟨by omega,kF,by simp only[CH,AC,AL] at *;omega⟩ rfl rfl ?_
  rintro⟨i,y,yr⟩ ⟨hi,hA,gA⟩;dsimp only at hi hA gA⊢;have qA:=p68 hA;repeat'(first|refine gU ?_|apply gE<;>intro h)<;>conv=>whnf
  ·have gD:i<ls.length:=by omega
   obtain⟨lc,wC⟩:∃lc,ls[i]?=some lc:=⟨_,AA gD⟩;obtain⟨v,hv,gB⟩:=qG.at wC;have hG:=j3h (j3Y gG wC);have hsz:j0d (ls.drop i)=j0T lc+j0d (ls.drop (i+1)):=by rw[drop_at wC,j0d]
   have wA:=j2H lc _ gB hG y yr hA (by simp only[AC] at gA hl⊢;omega)
   obtain⟨k1,n1,l1,b1,z1,x1,rfl,rfl,qE,hC,wB,hD⟩:=gB.open;repeat'(first|refine gU ?_|refine VIdx.mk _ hv ?_|refine gZ hz ?_|refine j0J rfl rfl rfl rfl hA wA (fun w wr qB qC=>?_))<;>conv=>whnf
   have qA:=p68 qB;refine VAgain.mk _ rfl _ (j0B (.cons (j05 qA) (.cons (j02 rfl rfl) (.cons (j02 rfl rfl) .nil))) (.cons (j05 qA) (.cons (j02 rfl rfl) .nil)) rfl rfl rfl rfl rfl) ⟨(i+1,w,wr),⟨gD,qB,?_⟩,by dsimp only;omega,rfl⟩
   simp only[AC] at gA qC⊢;omega
  ·refine j04 (G:=Nat×PV×List PV) (fun g=>[(51,iv g.1),(0,.ms 0 (g.2.2.length+1))]) (fun g=>[.row false 5 1 (g.2.1::g.2.2),_]) (fun g=>g.1≤ts.length∧(g.2.1::g.2.2).all (pur 6)=true∧(g.2.1::g.2.2).length+64*j0x (ts.drop g.1)≤(x::xr).length+58+12*j0d ls+64*j0x ts) (fun g=>ts.length-g.1) (0,y,yr) ⟨by omega,hA,by simp only[CH,AC] at *;omega⟩ rfl rfl ?_
   rintro⟨j,y,yr⟩ ⟨hj,hA,gA⟩;dsimp only at hj hA gA⊢;have qA:=p68 hA;repeat'(first|refine gU ?_|apply gE<;>intro h)<;>conv=>whnf
   ·have qD:j<ts.length:=by omega
    obtain⟨tc,hB⟩:∃tc,ts[j]?=some tc:=⟨_,AA qD⟩;obtain⟨v,hv,gB⟩:=kG.at hB;have hsz:j0x (ts.drop j)=sizT tc+j0x (ts.drop (j+1)):=by rw[drop_at hB,j0x]
    have wA:=ih _ (AE hB) _ gB _ (j2v kE hB) (j5h hE hB) y yr hA (by simp only[AC] at gA hl⊢;omega)
    obtain⟨k1,n1,s1,l1,t1,b1,z1,x1,c1,y1,ys1,rfl,rfl,qE,hC,wB,hD,wG,wE,gC,wD,hF⟩:=gB.open;repeat'(first|refine gU ?_|refine VIdx.mk _ hv ?_|refine gZ hy ?_|refine j0J rfl rfl rfl rfl hA wA (fun w wr qB qC=>?_))<;>conv=>whnf
    have qA:=p68 qB;refine VAgain.mk _ rfl _ (j0B (.cons (j05 qA) (.cons (j02 rfl rfl) (.cons (j02 rfl rfl) .nil))) (.cons (j05 qA) (.cons (j02 rfl rfl) .nil)) rfl rfl rfl rfl rfl) ⟨(j+1,w,wr),⟨qD,qB,?_⟩,by dsimp only;omega,rfl⟩
    simp only[AC] at gA qC⊢;omega
   ·refine j1g (.inl ⟨rfl,rfl,rfl⟩) rfl (j0B (.cons (j05 qA) (.cons (j02 rfl rfl) .nil)) (.cons (j05 qA) .nil) rfl rfl rfl rfl rfl) (j0L rfl) (j3c hA ?_ rfl _ _ rfl rfl);simp only[AC] at gA⊢;omega
def jgY(t:Tm)(v:PV)(h:TmP t v)(kk:Int)(hG:allT t 4 kk=true)(gF:j8T t=true)(hl:64*sizT t≤100000000):Finds C1 311 [.sl true 0 [],v] [] (Put1 [] (64*sizT t)):=by
 obtain⟨k,nn,s,ls,ts⟩:=t;obtain⟨wI,kH,hI,gI,wG,hE⟩:=juz hG gF;have kE:=(j0q hG).2.2.2.2;obtain⟨_,_,_,_,_,b,z,xs,c,y,ys,⟨rfl,rfl,rfl,rfl,rfl⟩,rfl,hz,gG,hlen,kK,hy,qG,hlen2,hJ,qJ⟩:=h.open;have hk:=j4F k (by omega) (by omega) true [] rfl (by simp)
 have hn:=fun h=>j4F nn (kH h).1 (kH h).2 true
 have hc:=j4F xs.length (by omega) (by omega) true
 obtain⟨tx,gH,kJ,wH,hT⟩:=jdU s (by omega) true
 obtain⟨q,qr,rfl⟩:∃q qr,tx=q::qr:=by
  cases tx with
  |nil=>simp at wH
  |cons q qr=>exact⟨q,qr,rfl⟩
 have wF:∀{z:PV}{zr:List PV},(z::zr).all (pur 6)=true→(z::(zr++q::qr)).all (pur 6)=true:=fun{z zr} h=>by
  rw[show z::(zr++q::qr)=(z::zr)++q::qr from rfl,DF,h,gH]
  rfl
 refine gR Tryz.func311 ?_;simp only[sizT] at hl⊢;all_goals try conv=>whnf
 refine j1d rfl (Finds.mono hk ?_);rintro _ _ ⟨ws,rfl,rfl,qE,qH,qF⟩;obtain⟨z0,zr0,rfl⟩:∃z0 zr0,ws=z0::zr0:=by
  cases ws with
  |nil=>simp at qF
  |cons z zr=>exact⟨z,zr,rfl⟩
 have qA:=p68 qE;have qH:(z0::zr0).length≤6:=by simpa using qH
 refine⟨rfl,?_⟩;refine j4w (.cons (j0o qA) .nil) rfl ?_;repeat'(first|refine gU ?_|apply gE<;>intro h|refine j0J (i:=1) (n:=zr0.length+1) (y:=z0) (yr:=zr0) rfl rfl rfl rfl qE (hn (by omega) _ qE (by omega)) (fun z1 zr1 qI hK=>?_)|refine gX hT ?_|refine VOk.mk (j0N (w:=1) (r:=140737488355328) (by simp:(z0::zr0).length=zr0.length+1) rfl rfl rfl rfl (by simp only[AC] at *;omega) (by simp only[AC] at *;omega)) ?_|refine j0J (i:=1) (n:=zr0.length+1+(q::qr).length) (y:=z0) (yr:=zr0++q::qr) rfl rfl (by simp;omega) rfl (wF qE) (hc _ (wF qE) (by simp only[AC,AL] at *;omega)) (fun z2 zr2 kI wJ=>?_))<;>conv=>whnf
 ·refine j04 (G:=Nat×PV×List PV) (fun g=>[(40,iv g.1),(0,.ms 1 (g.2.2.length+1))]) (fun g=>[_,.row false 5 1 (g.2.1::g.2.2)]) (fun g=>g.1≤ls.length∧(g.2.1::g.2.2).all (pur 6)=true∧(g.2.1::g.2.2).length+12*j0d (ls.drop g.1)≤58+12*j0d ls) (fun g=>ls.length-g.1) (0,z1,zr1) ⟨by omega,qI,by simp only[CH,AC,AL] at *;omega⟩ rfl rfl ?_
  rintro⟨i,y,yr⟩ ⟨hi,hA,gA⟩;dsimp only at hi hA gA⊢;have qA:=p68 hA;repeat'(first|refine gU ?_|apply gE<;>intro h)<;>conv=>whnf
  ·have gD:i<ls.length:=by omega
   obtain⟨lc,wC⟩:∃lc,ls[i]?=some lc:=⟨_,AA gD⟩;obtain⟨v,hv,qB⟩:=gG.at wC;have kG:=j3h (j3Y wG wC);have hsz:j0d (ls.drop i)=j0T lc+j0d (ls.drop (i+1)):=by rw[drop_at wC,j0d]
   have wA:=j2H lc _ qB kG y yr hA (by simp only[AC] at gA hl⊢;omega)
   obtain⟨k1,n1,l1,b1,z1,x1,rfl,rfl,wE,hC,gB,hD⟩:=qB.open;repeat'(first|refine gU ?_|refine VIdx.mk _ hv ?_|refine gZ hz ?_|refine j0J rfl rfl rfl rfl hA wA (fun w wr hB qC=>?_))<;>conv=>whnf
   have qA:=p68 hB;refine VAgain.mk _ rfl _ (j0B (.cons (j02 rfl rfl) (.cons (j05 qA) (.cons (j02 rfl rfl) .nil))) (.cons (j02 rfl rfl) (.cons (j05 qA) .nil)) rfl rfl rfl rfl rfl) ⟨(i+1,w,wr),⟨gD,hB,?_⟩,by dsimp only;omega,rfl⟩
   simp only[AC] at gA qC⊢;omega
  ·refine j04 (G:=Nat×PV×List PV) (fun g=>[(51,iv g.1),(0,.ms 1 (g.2.2.length+1))]) (fun g=>[_,.row false 5 1 (g.2.1::g.2.2)]) (fun g=>g.1≤ts.length∧(g.2.1::g.2.2).all (pur 6)=true∧(g.2.1::g.2.2).length+64*j0x (ts.drop g.1)≤58+12*j0d ls+64*j0x ts) (fun g=>ts.length-g.1) (0,y,yr) ⟨by omega,hA,by simp only[CH,AC] at *;omega⟩ rfl rfl ?_
   rintro⟨j,y,yr⟩ ⟨hj,hA,gA⟩;dsimp only at hj hA gA⊢;have qA:=p68 hA;repeat'(first|refine gU ?_|apply gE<;>intro h)<;>conv=>whnf
   ·have qD:j<ts.length:=by omega
    obtain⟨tc,wB⟩:∃tc,ts[j]?=some tc:=⟨_,AA qD⟩;obtain⟨v,hv,qB⟩:=qG.at wB;have hsz:j0x (ts.drop j)=sizT tc+j0x (ts.drop (j+1)):=by rw[drop_at wB,j0x]
    have wA:=j8c tc _ qB _ (j2v kE wB) (j5h hE wB) y yr hA (by simp only[AC] at gA hl⊢;omega)
    obtain⟨k1,n1,s1,l1,t1,b1,z1,x1,c1,y1,ys1,rfl,rfl,wE,hC,gB,hD,hH,hF,gC,wD,kF⟩:=qB.open;repeat'(first|refine gU ?_|refine VIdx.mk _ hv ?_|refine gZ hy ?_|refine j0J rfl rfl rfl rfl hA wA (fun w wr hB qC=>?_))<;>conv=>whnf
    have qA:=p68 hB;refine VAgain.mk _ rfl _ (j0B (.cons (j02 rfl rfl) (.cons (j05 qA) (.cons (j02 rfl rfl) .nil))) (.cons (j02 rfl rfl) (.cons (j05 qA) .nil)) rfl rfl rfl rfl rfl) ⟨(j+1,w,wr),⟨qD,hB,?_⟩,by dsimp only;omega,rfl⟩
    simp only[AC] at gA qC⊢;omega
   ·refine j1g (.inl ⟨rfl,rfl,rfl⟩) rfl (j0B (.cons (j02 rfl rfl) (.cons (j05 qA) .nil)) (.cons j0l (.cons (j05 qA) .nil)) rfl rfl rfl rfl rfl) (j2a (.cons j2i (.cons (j0o qA) .nil)) rfl rfl rfl rfl) (j3c hA ?_ rfl _ _ rfl rfl);simp only[AC] at gA⊢;omega
 ·refine j04 (G:=Nat×PV×List PV) (fun g=>[(40,iv g.1),(0,.ms 1 (g.2.2.length+1))]) (fun g=>[_,.row false 5 1 (g.2.1::g.2.2)]) (fun g=>g.1≤ls.length∧(g.2.1::g.2.2).all (pur 6)=true∧(g.2.1::g.2.2).length+12*j0d (ls.drop g.1)≤58+12*j0d ls) (fun g=>ls.length-g.1) (0,z2,zr2) ⟨by omega,kI,by simp only[CH,AC,AL] at *;omega⟩ rfl rfl ?_
  rintro⟨i,y,yr⟩ ⟨hi,hA,gA⟩;dsimp only at hi hA gA⊢;have qA:=p68 hA;repeat'(first|refine gU ?_|apply gE<;>intro h)<;>conv=>whnf
  ·have gD:i<ls.length:=by omega
   obtain⟨lc,wC⟩:∃lc,ls[i]?=some lc:=⟨_,AA gD⟩;obtain⟨v,hv,qB⟩:=gG.at wC;have kG:=j3h (j3Y wG wC);have hsz:j0d (ls.drop i)=j0T lc+j0d (ls.drop (i+1)):=by rw[drop_at wC,j0d]
   have wA:=j2H lc _ qB kG y yr hA (by simp only[AC] at gA hl⊢;omega)
   obtain⟨k1,n1,l1,b1,z1,x1,rfl,rfl,wE,hC,gB,hD⟩:=qB.open;repeat'(first|refine gU ?_|refine VIdx.mk _ hv ?_|refine gZ hz ?_|refine j0J rfl rfl rfl rfl hA wA (fun w wr hB qC=>?_))<;>conv=>whnf
   have qA:=p68 hB;refine VAgain.mk _ rfl _ (j0B (.cons (j02 rfl rfl) (.cons (j05 qA) (.cons (j02 rfl rfl) .nil))) (.cons (j02 rfl rfl) (.cons (j05 qA) .nil)) rfl rfl rfl rfl rfl) ⟨(i+1,w,wr),⟨gD,hB,?_⟩,by dsimp only;omega,rfl⟩
   simp only[AC] at gA qC⊢;omega
  ·refine j04 (G:=Nat×PV×List PV) (fun g=>[(51,iv g.1),(0,.ms 1 (g.2.2.length+1))]) (fun g=>[_,.row false 5 1 (g.2.1::g.2.2)]) (fun g=>g.1≤ts.length∧(g.2.1::g.2.2).all (pur 6)=true∧(g.2.1::g.2.2).length+64*j0x (ts.drop g.1)≤58+12*j0d ls+64*j0x ts) (fun g=>ts.length-g.1) (0,y,yr) ⟨by omega,hA,by simp only[CH,AC] at *;omega⟩ rfl rfl ?_
   rintro⟨j,y,yr⟩ ⟨hj,hA,gA⟩;dsimp only at hj hA gA⊢;have qA:=p68 hA;repeat'(first|refine gU ?_|apply gE<;>intro h)<;>conv=>whnf
   ·have qD:j<ts.length:=by omega
    obtain⟨tc,wB⟩:∃tc,ts[j]?=some tc:=⟨_,AA qD⟩;obtain⟨v,hv,qB⟩:=qG.at wB;have hsz:j0x (ts.drop j)=sizT tc+j0x (ts.drop (j+1)):=by rw[drop_at wB,j0x]
    have wA:=j8c tc _ qB _ (j2v kE wB) (j5h hE wB) y yr hA (by simp only[AC] at gA hl⊢;omega)
    obtain⟨k1,n1,s1,l1,t1,b1,z1,x1,c1,y1,ys1,rfl,rfl,wE,hC,gB,hD,hH,hF,gC,wD,kF⟩:=qB.open;repeat'(first|refine gU ?_|refine VIdx.mk _ hv ?_|refine gZ hy ?_|refine j0J rfl rfl rfl rfl hA wA (fun w wr hB qC=>?_))<;>conv=>whnf
    have qA:=p68 hB;refine VAgain.mk _ rfl _ (j0B (.cons (j02 rfl rfl) (.cons (j05 qA) (.cons (j02 rfl rfl) .nil))) (.cons (j02 rfl rfl) (.cons (j05 qA) .nil)) rfl rfl rfl rfl rfl) ⟨(j+1,w,wr),⟨qD,hB,?_⟩,by dsimp only;omega,rfl⟩
    simp only[AC] at gA qC⊢;omega
   ·refine j1g (.inl ⟨rfl,rfl,rfl⟩) rfl (j0B (.cons (j02 rfl rfl) (.cons (j05 qA) .nil)) (.cons j0l (.cons (j05 qA) .nil)) rfl rfl rfl rfl rfl) (j2a (.cons j2i (.cons (j0o qA) .nil)) rfl rfl rfl rfl) (j3c hA ?_ rfl _ _ rfl rfl);simp only[AC] at gA⊢;omega
 ·refine j04 (G:=Nat×PV×List PV) (fun g=>[(40,iv g.1),(0,.ms 1 (g.2.2.length+1))]) (fun g=>[_,.row false 5 1 (g.2.1::g.2.2)]) (fun g=>g.1≤ls.length∧(g.2.1::g.2.2).all (pur 6)=true∧(g.2.1::g.2.2).length+12*j0d (ls.drop g.1)≤58+12*j0d ls) (fun g=>ls.length-g.1) (0,z0,zr0) ⟨by omega,qE,by simp only[CH,AC,AL] at *;omega⟩ rfl rfl ?_
  rintro⟨i,y,yr⟩ ⟨hi,hA,gA⟩;dsimp only at hi hA gA⊢;have qA:=p68 hA;repeat'(first|refine gU ?_|apply gE<;>intro h)<;>conv=>whnf
  ·have gD:i<ls.length:=by omega
   obtain⟨lc,wC⟩:∃lc,ls[i]?=some lc:=⟨_,AA gD⟩;obtain⟨v,hv,qB⟩:=gG.at wC;have kG:=j3h (j3Y wG wC);have hsz:j0d (ls.drop i)=j0T lc+j0d (ls.drop (i+1)):=by rw[drop_at wC,j0d]
   have wA:=j2H lc _ qB kG y yr hA (by simp only[AC] at gA hl⊢;omega)
   obtain⟨k1,n1,l1,b1,z1,x1,rfl,rfl,wE,hC,gB,hD⟩:=qB.open;repeat'(first|refine gU ?_|refine VIdx.mk _ hv ?_|refine gZ hz ?_|refine j0J rfl rfl rfl rfl hA wA (fun w wr hB qC=>?_))<;>conv=>whnf
   have qA:=p68 hB;refine VAgain.mk _ rfl _ (j0B (.cons (j02 rfl rfl) (.cons (j05 qA) (.cons (j02 rfl rfl) .nil))) (.cons (j02 rfl rfl) (.cons (j05 qA) .nil)) rfl rfl rfl rfl rfl) ⟨(i+1,w,wr),⟨gD,hB,?_⟩,by dsimp only;omega,rfl⟩
   simp only[AC] at gA qC⊢;omega
  ·refine j04 (G:=Nat×PV×List PV) (fun g=>[(51,iv g.1),(0,.ms 1 (g.2.2.length+1))]) (fun g=>[_,.row false 5 1 (g.2.1::g.2.2)]) (fun g=>g.1≤ts.length∧(g.2.1::g.2.2).all (pur 6)=true∧(g.2.1::g.2.2).length+64*j0x (ts.drop g.1)≤58+12*j0d ls+64*j0x ts) (fun g=>ts.length-g.1) (0,y,yr) ⟨by omega,hA,by simp only[CH,AC] at *;omega⟩ rfl rfl ?_
   rintro⟨j,y,yr⟩ ⟨hj,hA,gA⟩;dsimp only at hj hA gA⊢;have qA:=p68 hA;repeat'(first|refine gU ?_|apply gE<;>intro h)<;>conv=>whnf
   ·have qD:j<ts.length:=by omega
    obtain⟨tc,wB⟩:∃tc,ts[j]?=some tc:=⟨_,AA qD⟩;obtain⟨v,hv,qB⟩:=qG.at wB;have hsz:j0x (ts.drop j)=sizT tc+j0x (ts.drop (j+1)):=by rw[drop_at wB,j0x]
    have wA:=j8c tc _ qB _ (j2v kE wB) (j5h hE wB) y yr hA (by simp only[AC] at gA hl⊢;omega)
    obtain⟨k1,n1,s1,l1,t1,b1,z1,x1,c1,y1,ys1,rfl,rfl,wE,hC,gB,hD,hH,hF,gC,wD,kF⟩:=qB.open;repeat'(first|refine gU ?_|refine VIdx.mk _ hv ?_|refine gZ hy ?_|refine j0J rfl rfl rfl rfl hA wA (fun w wr hB qC=>?_))<;>conv=>whnf
    have qA:=p68 hB;refine VAgain.mk _ rfl _ (j0B (.cons (j02 rfl rfl) (.cons (j05 qA) (.cons (j02 rfl rfl) .nil))) (.cons (j02 rfl rfl) (.cons (j05 qA) .nil)) rfl rfl rfl rfl rfl) ⟨(j+1,w,wr),⟨qD,hB,?_⟩,by dsimp only;omega,rfl⟩
    simp only[AC] at gA qC⊢;omega
   ·refine j1g (.inl ⟨rfl,rfl,rfl⟩) rfl (j0B (.cons (j02 rfl rfl) (.cons (j05 qA) .nil)) (.cons j0l (.cons (j05 qA) .nil)) rfl rfl rfl rfl rfl) (j2a (.cons j2i (.cons (j0o qA) .nil)) rfl rfl rfl rfl) (j3c hA ?_ rfl _ _ rfl rfl);simp only[AC] at gA⊢;omega
open Go Go.Am Go.Gw
structure Dc where
 k:Int
 p:Int
 nm:List UInt8
 ty:Tm
 vl:Tm
 fx:Int
 cs:List (List UInt8×Tm)
def jv3(k p:Int)(nm:List UInt8)(ty vl:List PV)(fx:Int)(cs:PV):List PV:=iv k::iv p::sv nm::(ty++(vl++[iv fx,cs]))
inductive DcP:Dc→PV→Prop where
 |mk (k p:Int) (nm:List UInt8) (ty vl:Tm) (fx:Int) (cs:List (List UInt8×Tm)) (a1 a2:Int) (a3:List UInt8) (a4:Bool) (a5:Nat) (a6:List PV) (a7:Bool) (a8:Nat) (a9:List PV) (b1 b2:Int) (b3:List UInt8) (b4:Bool) (b5:Nat) (b6:List PV) (b7:Bool) (b8:Nat) (b9:List PV) (cb:Bool) (cz:Nat) (cx:List PV)
   (hty:TmP ty (.ag [iv a1,iv a2,sv a3,.sl a4 a5 a6,.sl a7 a8 a9])) (hvl:TmP vl (.ag [iv b1,iv b2,sv b3,.sl b4 b5 b6,.sl b7 b8 b9])) (hz:cz=6∨cx=[]) (hcs:LosP cs cx) (hlen:cs.length≤1466015503701) (hnm:nm.length≤140737488355328) (hk:i64 k) (hp:i64 p) (hfx:i64 fx) :
   DcP ⟨k,p,nm,ty,vl,fx,cs⟩ (.ag [iv k,iv p,sv nm,iv a1,iv a2,sv a3,.sl a4 a5 a6,.sl a7 a8 a9,iv b1,iv b2,sv b3,.sl b4 b5 b6,.sl b7 b8 b9,iv fx,.sl cb cz cx])
open Go Go.Am Go.Gw
def tz_P:TmP tz (.ag zTm):=jkB
def jlX(t:Tm)(v:PV)(h:TmP t v):Pf C1 122 [v] [bv (eqTm t tz)]:=by
 have hs:=j8l t v h tz _ tz_P;obtain⟨k0,nn0,s0,ls0,ts0,b0,z0,xs0,c0,y0,ys0,rfl,rfl,-⟩:=h.open;refine gR Tryz.func122 ?_;repeat'(first|refine gU ?_|apply gE<;>intro h|apply gM<;>intro h|refine gX hs ?_|apply gK)<;>conv=>whnf
 all_goals rfl
def jiF(k:Int):Pf C1 124 [iv k] [bv (decide (2≤k)&&decide (k≤4))]:=by
 refine gR Tryz.func124 ?_;repeat'(first|refine gU ?_|apply gE<;>intro h|apply gM<;>intro h|apply gK)<;>conv=>whnf
 all_goals(simp_all;try omega)
def dcB(k p:Int)(r:List PV):SO:=.box 47 (iv k::iv p::r)
def clV(i:Nat):PV:=.fn 119 [] [.bp i 0]
def j6R(k p:Int)(r:List PV)(hr:r.all (pur 8)=true)(t:Tm)(v:PV)(h:TmP t v):Finds C1 119 [v,.bp 0 0] [dcB k p r] fun q st=>q=.ret [bv (j0s t p 0)]∧st=[dcB k p r]:=by
 have hs:=j0R t v h p 0;obtain⟨k0,nn0,s0,ls0,ts0,b0,z0,xs0,c0,y0,ys0,rfl,rfl,-⟩:=h.open;refine gR Tryz.func119 ?_;unfold dcB;repeat'(first|refine gU ?_|apply gE<;>intro h|apply gM<;>intro h|refine gX hs ?_|apply gK)<;>conv=>whnf
 have hp:(iv k::iv p::r).all (pur 8)=true:=by rw[BH,BH,hr];rfl
 exact j1h rfl rfl (.cons (jaU hp) .nil) rfl ⟨rfl,rfl⟩
def j2I(p:Int)(c:List UInt8×Tm):Bool:=!j2f c.1 || !j0s c.2 p 0
def fmS(k p:Int)(r:List PV):Sto:=[.box 27 [clV 1],.box 47 (iv k::iv p::r)]
def wrP:PV:=.fn 120 [] [.bp 0 0]
def jeh(hr:r.all (pur 8)=true):(iv k::iv p::r).all (pur 8)=true:=by rw[BH,BH,hr];rfl
def j7L(hr:r.all (pur 8)=true):ShrL (fmS k p r) [[1],[]] [fun g=>.box 27 [.fn 119 [] [.bp (g 1) 0]],fun _=>.box 47 (iv k::iv p::r)]:=.cons (j07 rfl rfl) (.cons (jaU (jeh hr)) .nil)
def jia(k p:Int)(r:List PV)(hr:r.all (pur 8)=true)(c:List UInt8×Tm)(v:PV)(h:LoP c v):Finds C1 120 [v,.bp 0 0] (fmS k p r) fun q st=>q=.ret [bv (j2I p c)]∧st=fmS k p r:=by
 obtain⟨s,q1,q2,q3,q4,q5,q6,q7,q8,q9,t,rfl,rfl,ht,hs⟩:=h.open;have hn:=j2g s hs;have h1:=j6R k p r hr t _ ht;have hp:=jeh (k:=k) (p:=p) hr;refine gR Tryz.func120 ?_;unfold fmS clV;repeat'(first|refine gU ?_|apply gE<;>intro h|apply gM<;>intro h|refine gX hn ?_|apply gK)<;>conv=>whnf
 ·refine j1e rfl rfl (.cons (j07 rfl rfl) (.cons (jaU hp) (.cons (j07 rfl rfl) .nil))) rfl rfl rfl rfl (Finds.mono h1 ?_);rintro _ _ ⟨rfl,rfl⟩;unfold dcB;refine j1R (st':=fmS k p r++[.box 125 [sv s,iv q1,iv q2,sv q3,.sl q4 q5 q6,.sl q7 q8 q9]]) (.cons (jaU hp) .nil) rfl rfl rfl ?_;unfold fmS clV;repeat'(first|refine gU ?_|apply gE<;>intro h|apply gM<;>intro h|apply gK)<;>conv=>whnf
  refine j1h rfl rfl (j7L hr) rfl ⟨?_,rfl⟩
  simp_all[j2I]
 ·refine j1h rfl rfl (j7L hr) rfl ⟨?_,rfl⟩
  simp_all[j2I]
def idxW(q:List UInt8×Tm→Bool):List (List UInt8×Tm)→Nat→Int
 |[],_=>-1
 |t::r,i=>if q t=true then i else idxW q r (i+1)
def jjM(q:List UInt8×Tm→Bool):∀(ts:List (List UInt8×Tm)) (i:Nat),decide (0≤idxW q ts i)=ts.any q
 |[],i=>by simp[idxW]
 |t::r,i=>by
  rw[idxW,DT]
  by_cases h:q t=true
  ·rw[if_pos h,h];simp
  ·rw[if_neg h,jjM q r,CM.2 h];simp
def jqx(k p:Int)(r:List PV)(hr:r.all (pur 8)=true)(cs:List (List UInt8×Tm))(cb:Bool)(cz:Nat)(cx:List PV)(hz:cz=6∨cx=[])(qA:LosP cs cx)(hlen:cs.length≤1466015503701):
  Finds C1 186 [.sl cb cz cx,wrP] (fmS k p r) fun q st=>q=.ret [iv (idxW (j2I p) cs 0)]∧st=fmS k p r:=by
 have wA:=qA.len;have hp:=jeh (k:=k) (p:=p) hr;refine gR Tryz.func186 ?_;unfold fmS clV;repeat'(first|refine gU ?_|apply gE<;>intro h|apply gM<;>intro h|apply gK)<;>conv=>whnf
 refine j04 (G:=Nat) (fun i=>[(8,iv i)]) (fun _=>fmS k p r) (fun i=>i≤cs.length∧idxW (j2I p) (cs.drop i) i=idxW (j2I p) cs 0) (fun i=>cs.length-i) 0 ⟨by omega,rfl⟩ rfl rfl ?_
 rintro i ⟨hi,hA⟩;dsimp only at hi hA⊢;unfold fmS clV;repeat'(first|refine gU ?_|apply gE<;>intro h|apply gM<;>intro h|apply gK)<;>conv=>whnf
 ·have gA:i<cs.length:=by omega
  obtain⟨c,hc⟩:∃c,cs[i]?=some c:=⟨_,AA gA⟩;obtain⟨v,hv,hl⟩:=qA.at hc;have h2:=jia k p r hr c v hl;obtain⟨s,q1,q2,q3,q4,q5,q6,q7,q8,q9,t,rfl,rfl,-⟩:=hl.open;rw[drop_at hc,idxW] at hA;repeat'(first|refine gU ?_|apply gE<;>intro h|apply gM<;>intro h|refine VIdx.mk _ hv ?_|refine gZ hz ?_|apply gK)<;>conv=>whnf
  refine j1e rfl rfl (j7L hr) rfl rfl rfl rfl (Finds.mono h2 ?_);rintro _ _ ⟨rfl,rfl⟩;refine j1R (st':=fmS k p r) (j7L hr) rfl rfl rfl ?_;unfold fmS clV;repeat'(first|refine gU ?_|apply gE<;>intro h|apply gM<;>intro h|apply gK)<;>conv=>whnf
  ·rw[if_pos (by assumption)] at hA
   rw[←hA];exact j1h rfl rfl (j7L hr) rfl ⟨rfl,rfl⟩
  ·rw[if_neg (by simp_all)] at hA
   exact VAgain.mk _ rfl _ (j1a rfl) ⟨i+1,⟨gA,hA⟩,by omega,rfl⟩
 ·rw[AV (by omega),idxW] at hA
  rw[←hA];exact j1h rfl rfl (j7L hr) rfl ⟨rfl,rfl⟩
def jq7(k p:Int)(r:List PV)(hr:r.all (pur 8)=true)(cs:List (List UInt8×Tm))(cb:Bool)(cz:Nat)(cx:List PV)(hz:cz=6∨cx=[])(hA:LosP cs cx)(hlen:cs.length≤1466015503701):
  Finds C1 123 [.sl cb cz cx,wrP] (fmS k p r) fun q st=>q=.ret [bv (cs.any (j2I p))]∧st=fmS k p r:=by
 have hi:=jqx k p r hr cs cb cz cx hz hA hlen;have e:=jjM (j2I p) cs 0;refine gR Tryz.func123 ?_;repeat'(first|refine gU ?_|apply gE<;>intro h|apply gM<;>intro h|apply gK)<;>conv=>whnf
 refine j1e rfl rfl (j7L hr) rfl rfl rfl rfl (Finds.mono hi ?_);rintro _ _ ⟨rfl,rfl⟩;refine j1R (st':=fmS k p r) (j7L hr) rfl rfl rfl ?_;repeat'(first|refine gU ?_|apply gE<;>intro h|apply gM<;>intro h|apply gK)<;>conv=>whnf
 exact j1h rfl rfl (j7L hr) rfl ⟨by rw[←e],rfl⟩
def j1F(d:Dc):Bool:=
 if(decide (1≤d.k∧d.k≤5)&&(j2f d.nm&&j0s d.ty d.p 0))=true then
  (if d.k=5 then eqTm d.vl tz&&(decide (0≤d.fx)&&(decide (d.fx≤16)&&(decide (d.cs.length≤8) && !d.cs.any (j2I d.p))))
  else if d.fx≠0∨d.cs.length≠0 then false
  else if 2≤d.k∧d.k≤4 then j0s d.vl d.p 0
  else eqTm d.vl tz)
 else false
def jcT(d:Dc)(v:PV)(h:DcP d v):Pf C1 76 [v] [bv (j1F d)]:=by
 obtain⟨k,p,nm,ty,vl,fx,cs,a1,a2,a3,a4,a5,a6,a7,a8,a9,b1,b2,b3,b4,b5,b6,b7,b8,b9,cb,cz,cx,gA,qA,hz,hA,hlen,hB,hk,hp,qB⟩:=h;have wA:=j2g nm hB;have he:=jlX vl _ qA;have hv:=jiF k;have h1:=j6R k p [sv nm,iv a1,iv a2,sv a3,.sl a4 a5 a6,.sl a7 a8 a9,iv b1,iv b2,sv b3,.sl b4 b5 b6,.sl b7 b8 b9,iv fx,.sl cb cz cx] rfl ty _ gA;have h2:=j6R k p [sv nm,iv a1,iv a2,sv a3,.sl a4 a5 a6,.sl a7 a8 a9,iv b1,iv b2,sv b3,.sl b4 b5 b6,.sl b7 b8 b9,iv fx,.sl cb cz cx] rfl vl _ qA;have gB:=hA.len;refine gR Tryz.func76 ?_;repeat'(first|refine gU ?_|apply gE<;>intro h|apply gM<;>intro h|refine gX wA ?_|refine gX he ?_|refine gX hv ?_|apply gK)<;>conv=>whnf
 ·rw[j1F,if_neg (by simp;omega)]
 ·rw[j1F,if_neg (by simp;omega)]
 ·refine j1e rfl rfl (.cons (j07 rfl rfl) (.cons (j07 rfl rfl) .nil)) rfl rfl rfl rfl (Finds.mono h1 ?_);rintro _ _ ⟨rfl,rfl⟩;unfold dcB;refine j4w (.cons (j07 rfl rfl) .nil) rfl ?_;have hF:1≤k∧k≤5→j2f nm=true→j0s ty p 0=true→j1F ⟨k,p,nm,ty,vl,fx,cs⟩=(if k=5 then eqTm vl tz&&(decide (0≤fx)&&(decide (fx≤16)&&(decide (cs.length≤8) && !cs.any (j2I p))))
    else if fx≠0∨cs.length≠0 then false
    else if 2≤k∧k≤4 then j0s vl p 0
    else eqTm vl tz):=fun e1 e2 e3=>by rw[j1F,if_pos (by simp[e1,e2,e3])]
  repeat'(first|refine gU ?_|apply gE<;>intro h|apply gM<;>intro h|refine gX he ?_|refine gX hv ?_|apply gK)<;>conv=>whnf
  ·have h3:=jq7 k p [sv nm,iv a1,iv a2,sv a3,.sl a4 a5 a6,.sl a7 a8 a9,iv b1,iv b2,sv b3,.sl b4 b5 b6,.sl b7 b8 b9,iv fx,.sl cb cz cx] rfl cs cb cz cx hz hA hlen;refine j1e rfl rfl (.cons (j07 rfl rfl) (.cons (j07 rfl rfl) .nil)) rfl rfl rfl rfl (Finds.mono h3 ?_);rintro _ _ ⟨rfl,rfl⟩;refine j4w (j7L rfl) rfl ?_;repeat'(first|refine gU ?_|apply gE<;>intro h|apply gM<;>intro h|apply gK)<;>conv=>whnf
   rw[hF (by omega) (by assumption) (by assumption)]
   simp_all
   try(intros;omega)
  all_goals try(rw[hF (by omega) (by assumption) (by assumption)];simp_all[retV];done)
  all_goals try(rw[hF (by omega) (by assumption) (by assumption)];simp_all[retV];omega)
  all_goals try(rw[hF (by omega) (by assumption) (by assumption)];simp_all[retV];intros;omega)
  all_goals try(rw[hF (by omega) (by assumption) (by assumption),if_neg (by omega),if_neg (by omega),if_neg (by simp_all)];rfl)
  all_goals try(rw[j1F,if_neg (by simp_all)];done)
  refine j1e rfl rfl (.cons (j07 rfl rfl) (.cons (j07 rfl rfl) .nil)) rfl rfl rfl rfl (Finds.mono h2 ?_);rintro _ _ ⟨rfl,rfl⟩;unfold dcB;refine j4w (.cons (j07 rfl rfl) .nil) rfl ?_;repeat'(first|refine gU ?_|apply gE<;>intro h|apply gM<;>intro h|apply gK)<;>conv=>whnf
  rw[hF (by omega) (by assumption) (by assumption)]
  simp_all[retV]
 ·rw[j1F,if_neg (by simp_all)]
open Go Go.Am Go.Gw
def je1(d:Dc)(v:PV)(h:DcP d v)(q:Int)(hq:0≤q∧q≤100000):∃n,Pf C1 118 [v,iv q] [iv n]:=by
 suffices key:Finds C1 118 [v,iv q] [] fun r _=>∃n,r=.ret [iv n] by
  obtain⟨r,st',⟨n,rfl⟩,N,hN⟩:=key;exact⟨n,_,st',rfl,N,hN⟩
 obtain⟨k,p,nm,ty,vl,fx,cs,a1,a2,a3,a4,a5,a6,a7,a8,a9,b1,b2,b3,b4,b5,b6,b7,b8,b9,cb,cz,cx,wB,gB,hz,qA,hlen,gA,hk,hp,wD⟩:=h;have h1:=j3H ty _ wB q hq.1 (by omega)
 have h2:=j3H vl _ gB q hq.1 (by omega)
 have u1:=jcm ty q hq.1;have u2:=jcm vl q hq.1;have hE:=qA.len;have gD:nm.length/16≤nm.length:=FJ _ _;have hsz:(⟨nm.toArray⟩:ByteArray).size=nm.length:=by show nm.toArray.size=_;simp
 refine gR Tryz.func118 ?_;repeat'(first|refine gU ?_|apply gE<;>intro h|apply gM<;>intro h|refine j01 h1 fun _=>?_|refine j01 h2 fun _=>?_|refine gX h1 ?_|refine gX h2 ?_|refine VRes.mk _ (jkv (by rw[hsz];exact gA)) ?_|apply gK)<;>conv=>whnf
 ·exact⟨_,rfl⟩
 rw[hsz];repeat'(first|refine gU ?_|apply gE<;>intro h|apply gM<;>intro h|refine VRes.mk _ (jkv (by rw[hsz];exact gA)) ?_|refine j01 h1 fun _=>?_|refine j01 h2 fun _=>?_|apply gK)<;>conv=>whnf
 refine j04 (G:=Nat×Int) (fun g=>[(6,iv g.1),(5,iv g.2)]) (fun _=>_) (fun g=>g.1≤cs.length∧0≤g.2∧g.2≤20000000000000) (fun g=>cs.length-g.1) (0,useN ty q+useN vl q+((nm.length/16:Nat):Int)) ⟨by omega,by dsimp only;omega,by dsimp only;omega⟩ rfl rfl ?_
 rintro⟨i,acc⟩ ⟨hi,qD,hD⟩;dsimp only at hi qD hD⊢;have wC:∀{i:Nat},((i:Int)<cx.length)→i<cs.length:=fun h=>by omega
 repeat'(first|refine gU ?_|apply gE<;>intro h|apply gM<;>intro h|apply gK)<;>conv=>whnf
 ·have wA:=wC (by assumption)
  obtain⟨c,hc⟩:∃c,cs[i]?=some c:=⟨_,AA wA⟩;obtain⟨z,qB,hB⟩:=qA.at hc;obtain⟨s,q1,q2,q3,q4,q5,q6,q7,q8,q9,t,rfl,rfl,ht,hC⟩:=hB.open;have h3:=j3H t _ ht q hq.1 (by omega)
  have u3:=jcm t q hq.1;have gC:s.length/16≤s.length:=FJ _ _;have qC:s.length/16≤8796093022208:=by omega
  have hA:(⟨s.toArray⟩:ByteArray).size=s.length:=by show s.toArray.size=_;simp
  repeat'(first|refine gU ?_|apply gE<;>intro h|apply gM<;>intro h|refine VIdx.mk _ qB ?_|refine gZ hz ?_|refine gX h3 ?_|refine j01 h3 fun _=>?_|refine VRes.mk _ (jkv (by rw[hA];exact hC)) ?_|apply gK)<;>conv=>whnf
  rw[hA];repeat'(first|refine gU ?_|apply gE<;>intro h|apply gM<;>intro h|apply gK)<;>conv=>whnf
  exact VAgain.mk _ rfl _ (j0a rfl rfl rfl) ⟨(i+1,_),⟨wA,by dsimp only;omega,by dsimp only;omega⟩,by dsimp only;omega,rfl⟩
 ·exact⟨_,rfl⟩
 ·exact⟨_,rfl⟩
def jcU(d:Dc)(v:PV)(h:DcP d v):∃b,(b=false→d.cs.length≤20)∧Pf C1 75 [v] [bv b]:=by
 obtain⟨n,hn⟩:=je1 d v h 4000 (by omega)
 suffices key:Finds C1 75 [v] [] fun r _=>∃b,(b=false→d.cs.length≤20)∧r=.ret [bv b] by
  obtain⟨r,st',⟨b,hb,rfl⟩,N,hN⟩:=key;exact⟨b,hb,_,st',rfl,N,hN⟩
 obtain⟨k,p,nm,ty,vl,fx,cs,a1,a2,a3,a4,a5,a6,a7,a8,a9,b1,b2,b3,b4,b5,b6,b7,b8,b9,cb,cz,cx,gA,qA,hz,hA,hlen,wA,hk,hp,hB⟩:=h;have qB:=hA.len;refine gR Tryz.func75 ?_;repeat'(first|refine gU ?_|apply gE<;>intro h|apply gM<;>intro h|refine gX hn ?_|apply gK)<;>conv=>whnf
 ·exact⟨true,fun e=>(by cases e),rfl⟩
 ·exact⟨_,fun _=>by dsimp only;omega,rfl⟩
