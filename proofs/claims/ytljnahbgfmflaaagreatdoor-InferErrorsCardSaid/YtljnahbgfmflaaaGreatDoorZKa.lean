/-
  Bytes that are made of numbers and texts (wire, pack): that they are made; which they are is not asked. No statement of the seat.
-/
import Derived.Test.YtljnahbgfmflaaaGreatDoorZTf
import Derived.Test.YtljnahbgfmflaaaGreatDoorZSh
import Derived.Test.YtljnahbgfmflaaaGreatDoorZLj
set_option linter.unusedVariables false
set_option maxHeartbeats 2000000
set_option maxRecDepth 100000
set_option linter.unusedSimpArgs false
set_option linter.unnecessarySimpa false
namespace Go.Proofs.YtljnahbgfmflaaaGreatDoor
open Go Go.Am Go.Gw
def andI (a b:Int):Int:=IntKind.i64.wrap ((BitVec.ofInt 64 a &&& BitVec.ofInt 64 b).toNat:Int)
def orI (a b:Int):Int:=IntKind.i64.wrap ((BitVec.ofInt 64 a ||| BitVec.ofInt 64 b).toNat:Int)
theorem band {P:Program} {T:TypeId} {x y:Operand} {a b:Int}:j0l P .and T x y (iv a) (iv b)=some (iv (andI a b)):=by
 simp only [j0l,j5I,eqGuard,binOp,Op.intBits]
 rfl
theorem bor {P:Program} {T:TypeId} {x y:Operand} {a b:Int}:j0l P .or T x y (iv a) (iv b)=some (iv (orI a b)):=by
 simp only [j0l,j5I,eqGuard,binOp,Op.intBits]
 rfl
theorem jqu {P:Program} {T:TypeId} {x y:Operand} {a:Int}:j0l P .shr T x y (iv a) (.sc (.int .u64 7))=some (iv (a / 128)):=by
 have e:a.fdiv (2 ^ 7)=a / 128:=by rw [Int.fdiv_eq_ediv_of_nonneg _ (by decide)]; rfl
 have h:¬ ((7:Int) < 0):=by omega
 have hm:min (7:Int).toNat IntKind.i64.bits=7:=by decide
 simp only [j0l,j5I,eqGuard,binOp,Op.shift,if_neg h,hm,e]
 rfl
def jqF (op:BinOp) (a b:Int) (K:PV→Prop):Prop:=match op with
 | .and=>K (iv (andI a b))
 | .or=>K (iv (orI a b))
 |_=>False
theorem jgw {P:Program} {op:BinOp} {T:TypeId} {x y:Operand} {a b:Int} {K:PV→Prop} (h:jqF op a b K):VRes (j0l P op T x y (iv a) (iv b)) K:=by
 cases op with
 |and=>exact ⟨_,band,h⟩
 |or=>exact ⟨_,bor,h⟩
 |_=>exact h.elim
theorem je7 {P:Program} {T:TypeId} {x y:Operand} {a:Int} {K:PV→Prop} (h:K (iv (a / 128))):VRes (j0l P .shr T x y (iv a) (.sc (.int .u64 7))) K:=⟨_,jqu,h⟩
def toB (a:Int):PV:=.sc (.int .u8 (IntKind.u8.wrap a))
theorem toU8 {ρ:AEnv} {x:Operand} {a:Int} (hx:aval ρ x=some (iv a)):jem C1.P ρ 3 5 x=some (toB a):=by
 have h1:(strT C1.P 3 && jaJ C1.P 5)=false:=by kernel_rfl
 have hs:C1.P.underlying 3=some (.int .i64):=by kernel_rfl
 have hd:C1.P.underlying 5=some (.int .u8):=by kernel_rfl
 have e:qrun C1.P (convert 3 5 (.int .i64 a))=some (.int .u8 (IntKind.u8.wrap a)):=by
  unfold convert
  simp only [bind]
  rw [j2Y (j1e hs),j2Y (j1e hd)]
  rfl
 simp only [jem,h1,hx]
 rw [e]
 rfl
def bufP (xs:List PV):PV:=match xs with
 |[]=>.sl true 0 []
 |_ :: r=>.ms 0 (r.length + 1)
def bufS (xs:List PV):Sto:=match xs with
 |[]=>[]
 |a :: r=>[.row false 5 1 (a :: r)]
theorem p68 {cs:List PV} (h:cs.all (pur 6)=true):cs.all (pur 8)=true:=List.all_eq_true.2 fun c hc=>jaI (jaI (List.all_eq_true.1 h c hc))
theorem jbt {k0 z:Nat} {ρ:AEnv} {T:TypeId} {cs:List PV} (hk0:k0=0∨k0=1) (hp:cs.all (pur 6)=true) (hacc:j8h [[]] 64 (ρ.flatMap (fun p=>ids 8 p.2)) []=[0]) (h1:ρ.all (fun p=>j0g (fun i=>Nat.blt i 1) 8 p.2)=true):gc k0 ρ [.row false T z cs]=[.row false T z cs]:=by
 rcases hk0 with rfl|rfl
 ·refine j1b (acc:=[0]) (.cons (j0e (p68 hp)) .nil) (.cons (j0e (p68 hp)) .nil) rfl ?_ rfl h1 rfl
  rw [show (List.take 0 [([]:List Nat)]).flatten=[] from rfl,List.append_nil]
  exact hacc
 ·exact j0V rfl
theorem j6O {f:FuncId} {k0 n z:Nat} {T:TypeId} {cs:List PV} {Q:AEnd→Sto→Prop} (hk:C1.keep f=true) (hk0:k0=0∨k0=1) (hp:cs.all (pur 6)=true) (k:Q (.ret [.ms 0 n]) [.row false T z cs]):VRet C1 f k0 [.ms 0 n] [.row false T z cs] Q:=by
 refine j1t (.inl ⟨hk,rfl,rfl⟩) rfl (jbt hk0 hp rfl rfl) (j1P ?_) k
 rcases hk0 with rfl|rfl <;> rfl
theorem j8q (xs:List PV):(bufS xs).length=0∨(bufS xs).length=1:=by cases xs <;> simp [bufS]
def Put1 (xs:List PV) (n:Nat) (r:AEnd) (st:Sto):Prop:=∃ ys,r = .ret [bufP ys]∧st=bufS ys∧ys.all (pur 6)=true∧ys.length ≤ xs.length + n∧0 < ys.length
theorem j2k {xs:List PV} {n m:Nat} {y:PV} {r:List PV} (hp:(y :: r).all (pur 6)=true) (hl:(y :: r).length ≤ xs.length + n) (hm:m=r.length + 1) (T:TypeId) (z:Nat) (hT:T=5) (hz:z=1):Put1 xs n (.ret [.ms 0 m]) [.row false T z (y :: r)]:=by
 subst hm hT hz
 exact ⟨y :: r,rfl,rfl,hp,hl,by simp⟩
theorem jiC (n:Int):Pf C1 305 [iv n] [bv (decide (0 ≤ n) && decide (n ≤ 1099511627776))]:=by
 refine j00 Tryz.func305 rfl rfl rfl ?_
 repeat' ((conv=>whnf);first|refine gA ?_|refine gB ?_|apply gE<;>intro h|refine j04 rfl ?_)
 all_goals (try (conv=>whnf))
 all_goals
  refine j1R ?_
  rw [Bool.eq_iff_iff]
  simp
  omega
theorem jgQ (n:Int) (h0:0 ≤ n) (h1:n ≤ 1099511627776) (xs:List PV) (hp:xs.all (pur 6)=true) (hl:xs.length ≤ 100000000):Finds C1 306 [bufP xs,iv n] (bufS xs) (Put1 xs 6):=by
 refine j00 Tryz.func306 rfl rfl rfl ?_
 skip
 all_goals (try (conv=>whnf))
 refine j09 (G:=List PV × Int) (fun g=>[(0,bufP g.1),(1,iv g.2)]) (fun g=>bufS g.1) (fun g=>g.1.all (pur 6)=true∧0 ≤ g.2∧((g.1.length=xs.length∧g.2 < 4398046511104)∨(g.1.length=xs.length + 1∧g.2 < 34359738368)∨(g.1.length=xs.length + 2∧g.2 < 268435456)∨(g.1.length=xs.length + 3∧g.2 < 2097152)∨(g.1.length=xs.length + 4∧g.2 < 16384)∨(g.1.length=xs.length + 5∧g.2 < 128))) (fun g=>g.2.toNat) (xs,n) ⟨hp,h0,by dsimp only; omega⟩ rfl rfl ?_
 rintro ⟨ys,m⟩ ⟨hys,hm0,hor⟩
 dsimp only at hys hm0 hor ⊢
 cases ys with
 |nil =>
  simp only [bufP,bufS]
  repeat' ((conv=>whnf);first|apply gE<;>intro h|apply gO|refine jgw ?_|refine je7 ?_|refine VRes.mk _ (toU8 rfl) ?_)
  all_goals (try (conv=>whnf))
  ·have h8:[toB (orI (andI m 127) 128)].all (pur 6)=true:=rfl
   refine VAgain.mk _ rfl _ (jbt (j8q xs) h8 rfl rfl) ⟨([toB (orI (andI m 127) 128)],m / 128),⟨h8,by dsimp only; omega,?_⟩,by dsimp only; omega,rfl⟩
   simp only [List.length_nil,List.length_cons] at hor ⊢
   omega
  ·have h8:[toB m].all (pur 6)=true:=rfl
   refine j6O rfl (j8q xs) h8 (j2k h8 ?_ rfl _ _ rfl rfl)
   simp only [List.length_nil,List.length_cons] at hor ⊢
   omega
 |cons y r =>
  simp only [bufP,bufS]
  have hyl:r.length ≤ 100000010:=by simp only [List.length_cons] at hor; omega
  repeat' ((conv=>whnf);first|apply gE<;>intro h|apply gO|refine jgw ?_|refine je7 ?_|refine VRes.mk _ (toU8 rfl) ?_|refine VOk.mk (j1i (w:=1) (r:=140737488355328) (by simp:(y :: r).length=r.length + 1) rfl rfl rfl rfl (by simp only [List.length_cons,List.length_nil]; omega) (by simp only [List.length_cons,List.length_nil]; omega)) ?_)
  all_goals (try (conv=>whnf))
  ·have h8:(y :: r ++ [toB (orI (andI m 127) 128)]).all (pur 6)=true:=by rw [List.all_append,hys]; rfl
   refine VAgain.mk _ rfl _ (jbt (j8q xs) h8 rfl rfl) ⟨(y :: r ++ [toB (orI (andI m 127) 128)],m / 128),⟨h8,by dsimp only; omega,?_⟩,by dsimp only; omega,?_⟩
   ·simp only [List.length_append,List.length_nil,List.length_cons] at hor ⊢
    omega
   ·simp only [List.cons_append,bufP,List.length_append]
    rfl
  ·have h8:(y :: r ++ [toB m]).all (pur 6)=true:=by rw [List.all_append,hys]; rfl
   refine j6O rfl (j8q xs) h8 (j2k (r:=r ++ [toB m]) h8 ?_ (by simp) _ _ rfl rfl)
   simp only [List.length_append,List.cons_append,List.length_nil,List.length_cons] at hor ⊢
   omega
theorem jlA (n:Int) (h0:0 ≤ n) (h1:n ≤ 1099511627776) (b:Bool):∃ ys:List PV,ys.all (pur 6)=true∧ys.length ≤ 6∧0 < ys.length∧Pf C1 291 [.sl b 1 [iv n]] [.sl false 1 ys,bv true]:=by
 have hr:=jiC n
 rw [decide_eq_true h0,decide_eq_true h1] at hr
 simp only [Bool.and_self] at hr
 have hw:=jgQ n h0 h1 [] rfl (by simp)
 obtain ⟨r,st,⟨ys,rfl,rfl,hp,hl,hpos⟩,N,hN⟩:=hw
 have hf:Finds C1 306 [.sl true 0 [],iv n] [] fun r st=>r = .ret [bufP ys]∧st=bufS ys:=⟨_,_,⟨rfl,rfl⟩,N,hN⟩
 clear hN
 refine ⟨ys,hp,by simpa using hl,hpos,?_⟩
 obtain ⟨y,yr,rfl⟩:∃ y yr,ys=y :: yr:=by
  cases ys with
  |nil=>simp at hpos
  |cons y yr=>exact ⟨y,yr,rfl⟩
 have hp8:=p68 hp
 refine j00 Tryz.func291 rfl rfl rfl ?_
 skip
 all_goals (try (conv=>whnf))
 refine j09 (G:=Bool) (fun g=>[(9,iv (if g then 1 else 0)),(4,if g then .ms 0 (yr.length + 1) else .sl true 0 [])]) (fun g=>if g then [.row false 5 1 (y :: yr)] else []) (fun _=>True) (fun g=>if g then 0 else 1) false trivial rfl rfl ?_
 intro g _
 cases g with
 |false =>
  simp only [Bool.false_eq_true,if_false]
  repeat' ((conv=>whnf);first|apply gT|apply gF|apply gO|apply gQ|refine VIdx.mk _ rfl ?_|refine j01 hr rfl rfl ?_)
  all_goals (try (conv=>whnf))
  refine j1l rfl (Finds.mono hf ?_)
  rintro _ _ ⟨rfl,rfl⟩
  refine ⟨rfl,?_⟩
  refine j5k (.cons (j1T hp8) .nil) rfl ?_
  repeat' ((conv=>whnf);first|refine VArith.fits (by unfold i64; omega) ?_)
  all_goals (try (conv=>whnf))
  refine VAgain.mk _ rfl _ (jbt (.inl rfl) hp rfl rfl) ⟨true,trivial,by simp,rfl⟩
 |true =>
  simp only [if_true]
  repeat' ((conv=>whnf);first|refine VIf.ff rfl ?_)
  all_goals (try (conv=>whnf))
  refine j0s rfl (j08 (j0E rfl (by simp) hp) (j08 rfl j0n)) rfl rfl
theorem jhk {P:Program} {U n m t t' a b w:Nat} {xs:List PV} (hs:strT P U=true) (h:xs.length=n) (h0:0 < n) (ht:Nat.beq t t'=true) (hw:Nat.beq w 1=true) (ha:Nat.beq a 1=true) (hb:Nat.beq b 1=true) (h2:n + m ≤ 140737488355328) :
  (strT P U && (Nat.beq n xs.length && Nat.beq t t' && Nat.beq w 1 && Nat.beq a 1 && Nat.beq b 1 && Nat.blt 0 n && fits (n + m) 1))=true:=by
 subst h
 have hf:fits (xs.length + m) 1=true:=by
  rw [fits,Nat.mul_one,Bool.and_self]
  exact Nat.ble_eq_true_of_le h2
 have hlt:Nat.blt 0 xs.length=true:=by rw [Nat.blt_eq]; exact h0
 rw [hs,ht,hw,ha,hb,hf,hlt,Nat.beq_refl]
 rfl
def bsv (s:List UInt8):List PV:=s.map fun c=>.sc (.int .u8 c.toNat)
theorem jhr (s:List UInt8):(bsv s).all (pur 6)=true:=by
 rw [List.all_eq_true]
 intro x hx
 obtain ⟨c,_,rfl⟩:=List.mem_map.1 hx
 rfl
theorem ji5 (s:List UInt8) (hs:s.length ≤ 1000000) (b:Bool):Finds C1 292 [.sl true 0 [],.sl b 1 [sv s]] [] (Put1 [] (6 + s.length)):=by
 have hlen:(⟨s.toArray⟩:ByteArray).size=s.length:=j2H _
 obtain ⟨r,st,⟨ys,rfl,rfl,hp,hl,hpos⟩,N,hN⟩:=jgQ s.length (by omega) (by omega) [] rfl (by simp)
 have hf:Finds C1 306 [.sl true 0 [],iv s.length] [] fun r st=>r = .ret [bufP ys]∧st=bufS ys:=⟨_,_,⟨rfl,rfl⟩,N,hN⟩
 clear hN
 obtain ⟨y,yr,rfl⟩:∃ y yr,ys=y :: yr:=by
  cases ys with
  |nil=>simp at hpos
  |cons y yr=>exact ⟨y,yr,rfl⟩
 have hp8:=p68 hp
 refine j00 Tryz.func292 rfl rfl rfl ?_
 skip
 all_goals (try (conv=>whnf))
 refine j09 (G:=Bool) (fun g=>[(9,iv (if g then 1 else 0)),(0,if g then .ms 0 (yr.length + 1 + s.length) else .sl true 0 [])]) (fun g=>if g then [.row false 5 1 (y :: yr ++ bsv s)] else []) (fun _=>True) (fun g=>if g then 0 else 1) false trivial rfl rfl ?_
 intro g _
 cases g with
 |false =>
  simp only [Bool.false_eq_true,if_false]
  repeat' ((conv=>whnf);first|apply gT|apply gO|apply gQ|refine VIdx.mk _ rfl ?_)
  all_goals (try (conv=>whnf))
  refine j1l rfl (Finds.mono hf ?_)
  rintro _ _ ⟨rfl,rfl⟩
  refine ⟨rfl,?_⟩
  refine j5k (.cons (j1T hp8) .nil) rfl ?_
  have hall:(y :: yr ++ bsv s).all (pur 6)=true:=by rw [List.all_append,hp,jhr]; rfl
  cases s with
  |nil =>
   repeat' ((conv=>whnf);first|refine gV ?_|refine VOk.mk (jhk rfl (by simp) (by omega) rfl rfl rfl rfl (by show yr.length + 1 + 0 ≤ _; simp only [List.length_nil,List.length_cons] at hl; omega)) ?_)
   all_goals (try (conv=>whnf))
   refine VAgain.mk _ rfl _ (jbt (.inl rfl) hp rfl rfl) ⟨true,trivial,by simp,?_⟩
   simp only [bsv,List.map_nil,List.append_nil,if_true]
   rfl
  |cons c r =>
   repeat' ((conv=>whnf);first|refine gV ?_|refine VOk.mk (jhk rfl (by simp) (by omega) rfl rfl rfl rfl (by show yr.length + 1 + (c :: r).length ≤ _; simp only [List.length_nil,List.length_cons] at hl hs ⊢; omega)) ?_)
   all_goals (try (conv=>whnf))
   refine VAgain.mk _ rfl _ (jbt (.inl rfl) hall rfl rfl) ⟨true,trivial,by simp,?_⟩
   rfl
 |true =>
  simp only [if_true]
  repeat' ((conv=>whnf);first|refine VIf.ff rfl ?_)
  all_goals (try (conv=>whnf))
  have hall:(y :: yr ++ bsv s).all (pur 6)=true:=by rw [List.all_append,hp,jhr]; rfl
  refine j6O rfl (.inl rfl) hall (j2k (r:=yr ++ bsv s) hall ?_ (by simp [bsv]; omega) _ _ rfl rfl)
  simp only [List.length_append,List.cons_append,List.length_nil,List.length_cons,bsv,List.length_map] at hl ⊢
  omega
theorem jb8 (s:List UInt8) (hs:s.length ≤ 1000000) (b:Bool):∃ ys:List PV,ys.all (pur 6)=true∧ys.length ≤ 6 + s.length∧0 < ys.length∧Pf C1 276 [.sl b 1 [sv s]] [.sl false 1 ys]:=by
 obtain ⟨r,st,⟨ys,rfl,rfl,hp,hl,hpos⟩,N,hN⟩:=ji5 s hs b
 have hf:Finds C1 292 [.sl true 0 [],.sl b 1 [sv s]] [] fun r st=>r = .ret [bufP ys]∧st=bufS ys:=⟨_,_,⟨rfl,rfl⟩,N,hN⟩
 clear hN
 refine ⟨ys,hp,by simpa using hl,hpos,?_⟩
 obtain ⟨y,yr,rfl⟩:∃ y yr,ys=y :: yr:=by
  cases ys with
  |nil=>simp at hpos
  |cons y yr=>exact ⟨y,yr,rfl⟩
 have hp8:=p68 hp
 refine j00 Tryz.func276 rfl rfl rfl ?_
 skip
 all_goals (try (conv=>whnf))
 refine j1l rfl (Finds.mono hf ?_)
 rintro _ _ ⟨rfl,rfl⟩
 refine ⟨rfl,?_⟩
 refine j5k (.cons (j1T hp8) .nil) rfl ?_
 skip
 all_goals (try (conv=>whnf))
 refine j0s rfl (j08 (j0E rfl (by simp) hp) j0n) rfl rfl
theorem jcv {m by_ w r:Nat} {e:Bool} (hw:by_=w) (hr:room=r) (h1:m * w ≤ r) (h2:m ≤ r):(true && (e || ([]:List PV).isEmpty) && fits m by_)=true:=by
 subst hw hr
 rw [show (e || ([]:List PV).isEmpty)=true by cases e <;> rfl,fits,Nat.ble_eq_true_of_le h1,Nat.ble_eq_true_of_le h2]
 rfl
theorem j3n (n:Int) (h0:0 ≤ n) (h1:n ≤ 1099511627776) (b:Bool) (xs:List PV) (hp:xs.all (pur 6)=true) (hl:xs.length ≤ 100000000):Finds C1 275 [bufP xs,.sl b 1 [iv n]] (bufS xs) (Put1 xs 6):=by
 obtain ⟨ys,hyp,hyl,hpos,hN⟩:=jlA n h0 h1 b
 obtain ⟨y,yr,rfl⟩:∃ y yr,ys=y :: yr:=by
  cases ys with
  |nil=>simp at hpos
  |cons y yr=>exact ⟨y,yr,rfl⟩
 have hall:(xs ++ y :: yr).all (pur 6)=true:=by rw [List.all_append,hp,hyp]; rfl
 simp only [List.length_cons] at hyl
 cases xs with
 |nil =>
  refine j00 Tryz.func275 rfl rfl rfl ?_
  simp only [bufP,bufS]
  repeat' ((conv=>whnf);first|apply gO|refine j01 hN rfl rfl ?_|refine VOk.mk (jcv (w:=1) (r:=140737488355328) rfl rfl (by simp only [List.length_cons,List.length_nil]; omega) (by simp only [List.length_cons,List.length_nil]; omega)) ?_)
  all_goals (try (conv=>whnf))
  refine j6O rfl (.inl rfl) hall (j2k (r:=yr) hall ?_ (by simp) _ _ rfl rfl)
  simp only [List.length_nil,List.length_cons] at hl ⊢
  omega
 |cons x xr =>
  refine j00 Tryz.func275 rfl rfl rfl ?_
  simp only [bufP,bufS]
  repeat' ((conv=>whnf);first|apply gO|refine j01 hN rfl rfl ?_|refine VOk.mk (j1i (w:=1) (r:=140737488355328) (by simp:(x :: xr).length=xr.length + 1) rfl rfl rfl rfl (by simp only [List.length_cons] at hl ⊢; omega) (by simp only [List.length_cons] at hl ⊢; omega)) ?_)
  all_goals (try (conv=>whnf))
  refine j6O rfl (.inr rfl) hall (j2k (r:=xr ++ y :: yr) hall ?_ (by simp; omega) _ _ rfl rfl)
  simp only [List.length_append,List.cons_append,List.length_cons] at hl ⊢
  omega
theorem jn1 (k:Int):Pf C1 293 [iv k] [bv (decide (k=1) || decide (k=2))]:=by
 refine j00 Tryz.func293 rfl rfl rfl ?_
 repeat' ((conv=>whnf);first|refine gA ?_|refine gB ?_|apply gE<;>intro h|refine j04 rfl ?_)
 all_goals (try (conv=>whnf))
 all_goals simp_all
open Go Go.Am Go.Gw
theorem jnG {ns:List (List UInt8)} {i:Nat} {c:List UInt8} (h:ns[i]? = some c):(svs ns)[i]? = some (sv c):=by simp [svs,h]
theorem jkx {ns:List (List UInt8)} {z:Nat} (h:z=1∨ns=[]):z=1∨svs ns=[]:=by
 rcases h with rfl|rfl
 ·exact .inl rfl
 ·exact .inr rfl
def jcD (s:List UInt8):List (List UInt8)→Nat→Int
 |[],_=>-1
 |c :: r,i=>if s=c then i else jcD s r (i + 1)
theorem jdK (s:List UInt8):∀ (ns:List (List UInt8)) (i:Nat),decide (0 ≤ jcD s ns i)=decide (s ∈ ns)
 |[],i=>by simp [jcD]
 |c :: r,i=>by
  rw [jcD]
  by_cases h:s=c
  ·rw [if_pos h]
   simp [h]
  ·rw [if_neg h,jdK s r (i + 1)]
   simp [h]
theorem jn9 (s:List UInt8) (ns:List (List UInt8)) (b:Bool) (z:Nat) (hz:z=1∨ns=[]) (hbd:ns.length ≤ 8796093022208):Pf C1 316 [.sl b z (svs ns),sv s] [iv (jcD s ns 0)]:=by
 have hln:(svs ns).length=ns.length:=by simp
 refine j00 Tryz.func316 rfl rfl rfl ?_
 skip
 all_goals (try (conv=>whnf))
 refine j09 (G:=Nat) (fun i=>[(8,iv i)]) (fun _=>_) (fun i=>i ≤ ns.length∧jcD s (ns.drop i) i=jcD s ns 0) (fun i=>ns.length - i) 0 ⟨by omega,rfl⟩ rfl rfl ?_
 rintro i ⟨hi,hall⟩
 dsimp only at hi hall ⊢
 repeat' ((conv=>whnf);first|apply gE<;>intro h|apply gQ|refine j04 rfl ?_)
 all_goals (try (conv=>whnf))
 ·have hi':i < ns.length:=by omega
  obtain ⟨c,hc⟩:∃ c,ns[i]? = some c:=⟨_,List.getElem?_eq_getElem hi'⟩
  rw [drop_at hc,jcD] at hall
  repeat' ((conv=>whnf);first|apply gM<;>intro h|refine gV ?_|refine j04 rfl ?_|refine VIdx.mk _ (jnG hc) ?_|refine VOk.mk (j07 rfl (jkx hz)) ?_|refine j3v ?_)
  all_goals (try (conv=>whnf))
  ·rw [if_pos (by simpa using h)] at hall
   rw [← hall]
  ·rw [if_neg (by simpa using h)] at hall
   exact VAgain.mk _ rfl _ (j0h rfl rfl rfl) ⟨i + 1,⟨hi',hall⟩,by omega,rfl⟩
 ·rw [List.drop_of_length_le (by omega),jcD] at hall
  rw [← hall]
theorem jbD (s:List UInt8) (ns:List (List UInt8)) (b:Bool) (z:Nat) (hz:z=1∨ns=[]) (hbd:ns.length ≤ 8796093022208):Pf C1 314 [.sl b z (svs ns),sv s] [bv (decide (s ∈ ns))]:=by
 have hi:=jn9 s ns b z hz hbd
 have e:=jdK s ns 0
 refine j00 Tryz.func314 rfl rfl rfl ?_
 repeat' ((conv=>whnf);first|refine j04 rfl ?_|refine j01 hi rfl rfl ?_)
 all_goals (try (conv=>whnf))
 rw [← e]
open Go Go.Am Go.Gw
def spF:Tm→Tm × List Tm
 | .mk k n s ls ts=>match ts with
  |[f,a]=>if k=4 then ((spF f).1,a :: (spF f).2) else (.mk k n s ls [f,a],[])
  |ts=>(.mk k n s ls ts,[])
def Turned (ts us:List Tm) (i:Nat):Prop:=us.length=ts.length∧∀ j,j < ts.length→us[j]? = if j < i∨ts.length ≤ j + i then ts[ts.length - 1 - j]? else ts[j]?
theorem jmB (ts:List Tm):Turned ts ts 0:=⟨rfl,fun j hj=>by rw [if_neg (by omega)]⟩
theorem ji7 {ts us:List Tm} {i:Nat} (h:Turned ts us i) (hi:ts.length ≤ 2 * i + 1):us=ts.reverse:=by
 apply List.ext_getElem?
 intro j
 rcases Nat.lt_or_ge j ts.length with hj|hj
 ·rw [h.2 j hj,List.getElem?_reverse hj]
  split
  ·rfl
  ·rw [show ts.length - 1 - j=j by omega]
 ·rw [List.getElem?_eq_none (by rw [h.1]; exact hj),List.getElem?_eq_none (by simpa using hj)]
theorem jf4 {ts us:List Tm} {i:Nat} {a b:Tm} (h:Turned ts us i) (hi:2 * i + 1 < ts.length) (ha:us[i]? = some a) (hb:us[ts.length - 1 - i]? = some b):Turned ts ((us.set i b).set (ts.length - 1 - i) a) (i + 1):=by
 obtain ⟨hl,h⟩:=h
 refine ⟨by simp [hl],fun j hj=>?_⟩
 rw [h i (by omega),if_neg (by omega)] at ha
 rw [h _ (by omega),if_neg (by omega)] at hb
 rw [List.getElem?_set,List.getElem?_set]
 by_cases h1:ts.length - 1 - i=j
 ·rw [if_pos h1,if_pos (by simp [hl]; omega),if_pos (by omega),← ha]
  congr 1
  omega
 ·rw [if_neg h1]
  by_cases h2:i=j
  ·subst h2
   rw [if_pos rfl,if_pos (by simp [hl]; omega),if_pos (by omega),← hb]
  ·rw [if_neg h2,h j hj]
   by_cases h3:j < i∨ts.length ≤ j + i
   ·rw [if_pos h3,if_pos (by omega)]
   ·rw [if_neg h3,if_neg (by omega)]
theorem jfT (ts:List Tm) (hl:ts.length ≤ 1000000):Finds C1 173 [.ms 0 ts.length] [.row false 25 5 (ts.map encT)] fun r st=>r = .ret []∧st=[.row false 25 5 (ts.reverse.map encT)]:=by
 have hbl:Nat.beq ts.length (ts.map encT).length=true:=by simp
 refine j00 Tryz.func173 rfl rfl rfl ?_
 repeat' ((conv=>whnf);first|refine gV ?_|refine VOk.mk hbl ?_)
 all_goals (try (conv=>whnf))
 refine j09 (G:=Nat × List Tm) (fun g=>[(2,iv g.1),(3,iv ((ts.length:Int) - 1 - g.1))]) (fun g=>[.row false 25 5 (g.2.map encT)]) (fun g=>2 * g.1 ≤ ts.length∧Turned ts g.2 g.1) (fun g=>ts.length - g.1) (0,ts) ⟨by omega,jmB ts⟩ (by rw [show ((ts.length:Int) - 1 - ((0:Nat):Int))=ts.length - 1 by omega]; rfl) rfl ?_
 rintro ⟨i,us⟩ ⟨hi,ht⟩
 dsimp only at hi ht ⊢
 have hul:us.length=ts.length:=ht.1
 repeat' ((conv=>whnf);first|apply gE<;>intro h)
 all_goals (try (conv=>whnf))
 ·have hlt:2 * i + 1 < ts.length:=by omega
  obtain ⟨a,ha⟩:∃ a,us[i]? = some a:=⟨_,List.getElem?_eq_getElem (by omega)⟩
  obtain ⟨c,hc⟩:∃ c,us[ts.length - 1 - i]? = some c:=⟨_,List.getElem?_eq_getElem (by omega)⟩
  have hae:(us.map encT)[i]? = some (encT a):=by rw [List.getElem?_map,ha]; rfl
  have hce:(us.map encT)[ts.length - 1 - i]? = some (encT c):=by rw [List.getElem?_map,hc]; rfl
  have hn:=jf4 ht hlt ha hc
  obtain ⟨k1,n1,s1,b1,z1,x1,c1,y1,ys1,he1⟩:=j0a a
  obtain ⟨k2,n2,s2,b2,z2,x2,c2,y2,ys2,he2⟩:=j0a c
  rw [he1] at hae
  rw [he2] at hce
  have o1:(Nat.beq ts.length (us.map encT).length && Nat.blt (ts.length - 1 - i) ts.length && Nat.beq 5 5)=true:=by simp [hul,Nat.blt_eq]; omega
  have o2:(Nat.beq ts.length (us.map encT).length && Nat.blt i ts.length && Nat.beq 5 5)=true:=by simp [hul,Nat.blt_eq]; omega
  have hub:Nat.beq ts.length (us.map encT).length=true:=by simp [hul]
  have o3:∀ e:PV,(Nat.beq ts.length ((us.map encT).set i e).length && Nat.blt (ts.length - 1 - i) ts.length && Nat.beq 5 5)=true:=fun e=>by simp [hul,Nat.blt_eq]; omega
  have o4:∀ e:PV,Nat.beq ts.length ((us.map encT).set i e).length=true:=fun e=>by simp [hul]
  have hce2:∀ e:PV,((us.map encT).set i e)[ts.length - 1 - i]? = some (.ag [iv k2,iv n2,sv s2,.sl b2 z2 x2,.sl c2 y2 ys2]):=fun e=>by rw [List.getElem?_set_ne (by omega)]; exact hce
  repeat' ((conv=>whnf);first|apply gO|apply gQ|refine gV ?_|refine VOk.mk hub ?_|refine VOk.mk (o3 _) ?_|refine VOk.mk (o4 _) ?_|refine VIdx.mk _ (hce2 _) ?_|refine VNat.mk (ts.length - 1 - i) (show ((ts.length:Int) - 1 - i)=((ts.length - 1 - i:Nat):Int) by omega) ?_|refine VOk.mk o1 ?_|refine VOk.mk o2 ?_|refine VIdx.mk _ hae ?_|refine VIdx.mk _ hce ?_)
  all_goals (try (conv=>whnf))
  refine VAgain.mk _ rfl _ (j0V rfl) ⟨(i + 1,(us.set i c).set (ts.length - 1 - i) a),⟨by dsimp only; omega,hn⟩,by dsimp only; omega,?_⟩
  dsimp only
  rw [List.map_set,List.map_set,he1,he2,show ((ts.length:Int) - 1 - ((i + 1:Nat):Int))=ts.length - 1 - i - 1 by omega]
  rfl
 ·obtain rfl:=ji7 ht (by omega)
  exact jcG rfl rfl (.cons (j1T (j0I _ 6)) .nil) rfl ⟨rfl,rfl⟩
theorem jai:Pf C1 173 [.sl true 0 []] []:=jfn (st':=[]) 20 (by kernel_rfl)
theorem jbY {n:Int} {s:List UInt8} {ls:List Lv} {f a:Tm}:spF (.mk 4 n s ls [f,a])=((spF f).1,a :: (spF f).2):=by
 rw [spF,if_pos rfl]
theorem jcZ {k n:Int} {s:List UInt8} {ls:List Lv} {ts:List Tm} (h:¬ (k=4∧ts.length=2)):spF (.mk k n s ls ts)=(.mk k n s ls ts,[]):=by
 unfold spF
 split
 ·rw [if_neg (fun e=>h ⟨e,rfl⟩)]
 ·rfl
def j1c (t:Tm):List Tm:=(spF t).2.reverse
def spS (z:List PV) (g:List Tm × Tm × PV):Sto:=match g.1 with
 |[]=>[.box 25 g.2.2.cells,.box 25 z]
 |a :: r=>[.box 25 g.2.2.cells,.box 25 z,.row false 25 5 ((a :: r).map encT)]
theorem j8M (t:Tm) (v:PV) (hT:TmP t v) (hbd:(spF t).2.length ≤ 2000):Pf C1 122 [v] [encT (spF t).1,j6Q (j1c t)]:=by
 obtain ⟨k0,nn0,s0,ls0,ts0,b0,z0,xs0,c0,y0,ys0,rfl,rfl,-⟩:=hT.open
 refine j00 Tryz.func122 rfl rfl rfl ?_
 skip
 all_goals (try (conv=>whnf))
 refine j09 (G:=List Tm × Tm × PV) (fun g=>[(4,match g.1 with
    |[]=>.sl true 0 []
    |a :: r=>.ms 2 (r.length + 1))]) (spS zTm) (fun g=>TmP g.2.1 g.2.2∧(spF g.2.1).1=(spF (.mk k0 nn0 s0 ls0 ts0)).1∧g.1 ++ (spF g.2.1).2=(spF (.mk k0 nn0 s0 ls0 ts0)).2) (fun g=>sizT g.2.1) ([],.mk k0 nn0 s0 ls0 ts0,.ag [iv k0,iv nn0,sv s0,.sl b0 z0 xs0,.sl c0 y0 ys0]) ⟨hT,rfl,rfl⟩ rfl rfl ?_
 rintro ⟨don,u,w⟩ ⟨hu,hh,ha⟩
 dsimp only at hu hh ha
 have hfr:=j2B u w hu
 obtain ⟨k9,n9,s9,b9,z9,x9,c9,y9,ys9,he9⟩:=j0a u
 have hlen:don.length + (spF u).2.length ≤ 2000:=by rw [← List.length_append,ha]; exact hbd
 rw [he9] at hfr
 obtain ⟨k,nn,s,ls,ts,b,z,xs,c,y,ys,rfl,rfl,hz,hxs,hlen1,hbd1,hy,hys,hlen2,hbd2,hsl⟩:=hu.open
 have hround:k=4→ts.length=2→∃ f a,ts=[f,a]∧(spF f).1=(spF (.mk k0 nn0 s0 ls0 ts0)).1∧(don ++ [a]) ++ (spF f).2=(spF (.mk k0 nn0 s0 ls0 ts0)).2∧don.length + 1 ≤ 2000:=by
  rintro rfl h2
  match ts,h2 with
  |[f,a],_ =>
   rw [jbY] at hh ha hlen
   refine ⟨f,a,rfl,hh,?_,?_⟩
   ·rw [List.append_assoc]
    exact ha
   ·simp only [List.length_cons] at hlen
    omega
 have hend:¬ (k=4∧ts.length=2)→(spF (.mk k0 nn0 s0 ls0 ts0)).1 = .mk k nn s ls ts∧(spF (.mk k0 nn0 s0 ls0 ts0)).2=don:=fun h=>by
  rw [jcZ h] at hh ha
  exact ⟨hh.symm,by simpa using ha.symm⟩
 cases don with
 |nil =>
  simp only [PV.cells,spS]
  repeat' ((conv=>whnf);first|apply gF|refine gA ?_|refine gB ?_|apply gE<;>intro h|apply gO|apply gQ|refine j04 rfl ?_|refine j01 hfr rfl rfl ?_|refine j01 jai rfl rfl ?_)
  all_goals (try (conv=>whnf))
  ·obtain ⟨f1,a1,rfl,hh1,ha1,hl1⟩:=hround (by assumption) (by omega)
   obtain ⟨va,hva,hla⟩:=hys.at (by rfl:[f1,a1][1]? = some a1)
   obtain ⟨vb,hvb,hlb⟩:=hys.at (by rfl:[f1,a1][0]? = some f1)
   have hAa:=j2B a1 va hla
   obtain ⟨k3,n3,s3,b3,z3,x3,c3,y3,ys3,he3⟩:=j0a a1
   rw [he3] at hAa
   obtain ⟨k1,n1,s1,l1,t1,b4,z1,x1,c1,y1,ys1,rfl,rfl,-⟩:=hla.open
   obtain ⟨k2,n2,s2,l2,t2,b5,z2,x2,c2,y2,ys2,rfl,rfl,-⟩:=hlb.open
   repeat' ((conv=>whnf);first|apply gO|apply gQ|refine VIdx.mk _ hva ?_|refine VIdx.mk _ hvb ?_|refine VOk.mk (j07 rfl hy) ?_|refine j01 hAa rfl rfl ?_)
   all_goals (try (conv=>whnf))
   have e:[Tm.mk k1 n1 s1 l1 t1].map encT=[.ag [iv k3,iv n3,sv s3,.sl b3 z3 x3,.sl c3 y3 ys3]]:=by rw [List.map_cons,he3]; rfl
   exact VAgain.mk _ rfl _ (j1b (.cons (j06 rfl rfl) (.cons (j06 rfl rfl) (.cons (j0e rfl) .nil))) (.cons (j06 rfl rfl) (.cons (j06 rfl rfl) (.cons (j0e rfl) .nil))) rfl rfl rfl rfl rfl) ⟨([Tm.mk k1 n1 s1 l1 t1],Tm.mk k2 n2 s2 l2 t2,.ag [iv k2,iv n2,sv s2,.sl b5 z2 x2,.sl c2 y2 ys2]),⟨hlb,hh1,ha1⟩,by simp only [sizT,j0B]; omega,by dsimp only [spS]; rw [e]; rfl⟩
  all_goals
   obtain ⟨e1,e2⟩:=hend (by omega)
   have e3:j1c (.mk k0 nn0 s0 ls0 ts0)=[]:=by rw [j1c,e2]; rfl
   rw [e1,e3,he9]
   rfl
 |cons d dr =>
  simp only [PV.cells,spS]
  have hbl:Nat.beq (dr.length + 1) ((d :: dr).map encT).length=true:=by simp
  have hrv:=jfT (d :: dr) (by simp only [List.length_cons] at hlen ⊢; omega)
  repeat' ((conv=>whnf);first|apply gF|refine gA ?_|refine gB ?_|apply gE<;>intro h|apply gQ)
  all_goals (try (conv=>whnf))
  ·obtain ⟨f1,a1,rfl,hh1,ha1,hl1⟩:=hround (by assumption) (by omega)
   obtain ⟨va,hva,hla⟩:=hys.at (by rfl:[f1,a1][1]? = some a1)
   obtain ⟨vb,hvb,hlb⟩:=hys.at (by rfl:[f1,a1][0]? = some f1)
   have hAa:=j2B a1 va hla
   obtain ⟨k3,n3,s3,b3,z3,x3,c3,y3,ys3,he3⟩:=j0a a1
   rw [he3] at hAa
   obtain ⟨k1,n1,s1,l1,t1,b4,z1,x1,c1,y1,ys1,rfl,rfl,-⟩:=hla.open
   obtain ⟨k2,n2,s2,l2,t2,b5,z2,x2,c2,y2,ys2,rfl,rfl,-⟩:=hlb.open
   have hp8:((d :: dr).map encT ++ [PV.ag [iv k3,iv n3,sv s3,.sl b3 z3 x3,.sl c3 y3 ys3]]).all (pur 8)=true:=by
    rw [← he3,show (d :: dr).map encT ++ [encT (Tm.mk k1 n1 s1 l1 t1)]=(d :: dr ++ [Tm.mk k1 n1 s1 l1 t1]).map encT by simp]
    exact j0I _ 6
   repeat' ((conv=>whnf);first|apply gO|apply gQ|refine VIdx.mk _ hva ?_|refine VIdx.mk _ hvb ?_|refine VOk.mk (j07 rfl hy) ?_|refine j01 hAa rfl rfl ?_|refine VOk.mk (j1i (w:=80) (r:=140737488355328) (by simp:((d :: dr).map encT).length=dr.length + 1) rfl rfl rfl rfl (by simp only [List.length_cons,List.length_nil] at hl1 ⊢; omega) (by simp only [List.length_cons,List.length_nil] at hl1 ⊢; omega)) ?_)
   all_goals (try (conv=>whnf))
   have e:(d :: (dr ++ [Tm.mk k1 n1 s1 l1 t1])).map encT=(d :: dr).map encT ++ [.ag [iv k3,iv n3,sv s3,.sl b3 z3 x3,.sl c3 y3 ys3]]:=by rw [← he3]; simp
   have el:(dr ++ [Tm.mk k1 n1 s1 l1 t1]).length + 1=dr.length + 1 + 1:=by simp
   refine VAgain.mk _ rfl _ (j1b (.cons (j06 rfl rfl) (.cons (j06 rfl rfl) (.cons (j0e hp8) .nil))) (.cons (j06 rfl rfl) (.cons (j06 rfl rfl) (.cons (j0e hp8) .nil))) rfl rfl rfl rfl rfl) ⟨(d :: (dr ++ [Tm.mk k1 n1 s1 l1 t1]),Tm.mk k2 n2 s2 l2 t2,.ag [iv k2,iv n2,sv s2,.sl b5 z2 x2,.sl c2 y2 ys2]),⟨hlb,hh1,?_⟩,by simp only [sizT,j0B]; omega,?_⟩
   ·exact ha1
   ·dsimp only [spS]
    rw [e,el]
    rfl
  all_goals
   obtain ⟨e1,e2⟩:=hend (by omega)
   have e3:j1c (.mk k0 nn0 s0 ls0 ts0)=(d :: dr).reverse:=by rw [j1c,e2]
   refine jeC rfl rfl (.cons (j1n rfl rfl) (.cons (j1n rfl rfl) (.cons (j1T (j0I _ 6)) .nil))) rfl rfl rfl rfl (Finds.mono hrv ?_)
   rintro _ _ ⟨rfl,rfl⟩
   refine j5k (.cons (j1T (j0I _ 6)) .nil) rfl ?_
   repeat' ((conv=>whnf);first|apply gO|refine j01 hfr rfl rfl ?_)
   all_goals (try (conv=>whnf))
   refine j0s rfl (j08 rfl (j08 (j0E rfl (by simp) (j0I _ 4)) j0n)) rfl ?_
   rw [e1,e3,he9,j2f (by simp)]
   try rfl
open Go Go.Am Go.Gw
def jpy:PV:=.fn 152 [] []
def jqL:PV:=.fn 100 [] []
theorem j9B (ls ls':List Lv) (hrec:∀ l ∈ ls,∀ v,LvP l v→∀ m w,LvP m w→Pf C1 152 [v,w] [bv (eqLv l m)]) (b b':Bool) (z z':Nat) (xs xs':List PV) (hz:z=3∨xs=[]) (hz':z'=3∨xs'=[]) (hxs:LvsP ls xs) (hxs':LvsP ls' xs') (hbd:ls.length ≤ 3518437208780) (hbd':ls'.length ≤ 3518437208780) :
  Pf C1 151 [.sl b z xs,.sl b' z' xs',jpy] [bv (decide (ls.length=ls'.length) && jaw ls ls')]:=by
 have hlen:=hxs.len
 have hlen':=hxs'.len
 refine j00 Tryz.func151 rfl rfl rfl ?_
 repeat' ((conv=>whnf);first|apply gN|apply gE<;>intro h|refine j04 rfl ?_)
 all_goals (try (conv=>whnf))
 ·have hl2:ls.length=ls'.length:=by omega
  refine j09 (G:=Nat) (fun i=>[(17,iv i)]) (fun _=>_) (fun i=>i ≤ ls.length∧jaw (ls.drop i) (ls'.drop i)=jaw ls ls') (fun i=>ls.length - i) 0 ⟨by omega,rfl⟩ rfl rfl ?_
  rintro i ⟨hi,hall⟩
  repeat' ((conv=>whnf);first|apply gE<;>intro h|apply gQ|refine j04 rfl ?_)
  all_goals (try (conv=>whnf))
  ·have hi':i < ls.length:=by omega
   obtain ⟨lc,hlc⟩:∃ lc,ls[i]? = some lc:=⟨_,List.getElem?_eq_getElem hi'⟩
   obtain ⟨mc,hmc⟩:∃ mc,ls'[i]? = some mc:=⟨_,List.getElem?_eq_getElem (by omega)⟩
   obtain ⟨v,hv,hl⟩:=hxs.at hlc
   obtain ⟨w,hw,hl'⟩:=hxs'.at hmc
   have hr:=hrec _ (List.mem_of_getElem? hlc) _ hl _ _ hl'
   obtain ⟨k1,n1,l1,b1,z1,x1,rfl,rfl,hz1,hxs1,hlen1,hbd1⟩:=hl.open
   obtain ⟨k2,n2,l2,b2,z2,x2,rfl,rfl,hz2,hxs2,hlen2,hbd2⟩:=hl'.open
   rw [drop_at hlc,drop_at hmc] at hall
   simp only [jaw] at hall
   repeat' ((conv=>whnf);first|apply gN|apply gM<;>intro h|apply gO|apply gQ|refine gV ?_|refine j04 rfl ?_|refine VIdx.mk _ hv ?_|refine VOk.mk (j07 rfl hz) ?_|refine VIdx.mk _ hw ?_|refine VOk.mk (j07 rfl hz') ?_|refine j01 hr rfl rfl ?_)
   all_goals (try (conv=>whnf))
   ·refine VAgain.mk _ rfl _ (j0h rfl rfl rfl) ⟨i + 1,⟨hi',?_⟩,by omega,rfl⟩
    rw [← hall]
    simp_all
   ·rw [← hall]
    simp_all
  ·have:i=ls.length:=by omega
   subst this
   rw [List.drop_length] at hall
   rw [← hall,decide_eq_true hl2]
   rfl
 ·rw [decide_eq_false (by omega)]
  rfl
theorem jku (l:Lv):∀ v,LvP l v→∀ m w,LvP m w→Pf C1 152 [v,w] [bv (eqLv l m)]:=by
 induction l using Lv.ind with
 |_ k n ls ih =>
 intro v h m w hm
 obtain ⟨_,_,_,b,z,xs,⟨rfl,rfl,rfl⟩,rfl,hz,hxs,hlen,hbd⟩:=h.open
 obtain ⟨k',n',ls',b',z',xs',rfl,rfl,hz',hxs',hlen',hbd'⟩:=hm.open
 have he:=j9B ls ls' ih b b' z z' xs xs' hz hz' hxs hxs' (by omega) (by omega)
 refine j00 Tryz.func152 rfl rfl rfl ?_
 repeat' ((conv=>whnf);first|apply gF|refine gA ?_|refine gB ?_|apply gE<;>intro h|refine j04 rfl ?_|refine j01 he rfl rfl ?_)
 all_goals (try (conv=>whnf))
 all_goals simp_all [eqLv,retV]
theorem jff (ts ts':List Tm) (hrec:∀ l ∈ ts,∀ v,TmP l v→∀ m w,TmP m w→Pf C1 100 [v,w] [bv (eqTm l m)]) (b b':Bool) (z z':Nat) (xs xs':List PV) (hz:z=5∨xs=[]) (hz':z'=5∨xs'=[]) (hxs:TmsP ts xs) (hxs':TmsP ts' xs') (hbd:ts.length ≤ 1759218604441) (hbd':ts'.length ≤ 1759218604441) :
  Pf C1 153 [.sl b z xs,.sl b' z' xs',jqL] [bv (decide (ts.length=ts'.length) && jcs ts ts')]:=by
 have hlen:=hxs.len
 have hlen':=hxs'.len
 refine j00 Tryz.func153 rfl rfl rfl ?_
 repeat' ((conv=>whnf);first|apply gN|apply gE<;>intro h|refine j04 rfl ?_)
 all_goals (try (conv=>whnf))
 ·have hl2:ts.length=ts'.length:=by omega
  refine j09 (G:=Nat) (fun i=>[(17,iv i)]) (fun _=>_) (fun i=>i ≤ ts.length∧jcs (ts.drop i) (ts'.drop i)=jcs ts ts') (fun i=>ts.length - i) 0 ⟨by omega,rfl⟩ rfl rfl ?_
  rintro i ⟨hi,hall⟩
  repeat' ((conv=>whnf);first|apply gE<;>intro h|apply gQ|refine j04 rfl ?_)
  all_goals (try (conv=>whnf))
  ·have hi':i < ts.length:=by omega
   obtain ⟨lc,hlc⟩:∃ lc,ts[i]? = some lc:=⟨_,List.getElem?_eq_getElem hi'⟩
   obtain ⟨mc,hmc⟩:∃ mc,ts'[i]? = some mc:=⟨_,List.getElem?_eq_getElem (by omega)⟩
   obtain ⟨v,hv,hl⟩:=hxs.at hlc
   obtain ⟨w,hw,hl'⟩:=hxs'.at hmc
   have hr:=hrec _ (List.mem_of_getElem? hlc) _ hl _ _ hl'
   obtain ⟨k1,n1,s1,l1,t1,b1,z1,x1,c1,y1,ys1,rfl,rfl,-⟩:=hl.open
   obtain ⟨k2,n2,s2,l2,t2,b2,z2,x2,c2,y2,ys2,rfl,rfl,-⟩:=hl'.open
   rw [drop_at hlc,drop_at hmc] at hall
   simp only [jcs] at hall
   repeat' ((conv=>whnf);first|apply gN|apply gM<;>intro h|apply gO|apply gQ|refine gV ?_|refine j04 rfl ?_|refine VIdx.mk _ hv ?_|refine VOk.mk (j07 rfl hz) ?_|refine VIdx.mk _ hw ?_|refine VOk.mk (j07 rfl hz') ?_|refine j01 hr rfl rfl ?_)
   all_goals (try (conv=>whnf))
   ·refine VAgain.mk _ rfl _ (j0h rfl rfl rfl) ⟨i + 1,⟨hi',?_⟩,by omega,rfl⟩
    rw [← hall]
    simp_all
   ·rw [← hall]
    simp_all
  ·have:i=ts.length:=by omega
   subst this
   rw [List.drop_length] at hall
   rw [← hall,decide_eq_true hl2]
   rfl
 ·rw [decide_eq_false (by omega)]
  rfl
theorem j8r (t:Tm):∀ v,TmP t v→∀ m w,TmP m w→Pf C1 100 [v,w] [bv (eqTm t m)]:=by
 induction t using Tm.ind with
 |_ k n s ls ts ih =>
 intro v h m w hm
 obtain ⟨_,_,_,_,_,b,z,xs,c,y,ys,⟨rfl,rfl,rfl,rfl,rfl⟩,rfl,hz,hxs,hlen,hbd,hy,hys,hlen2,hbd2,hsl⟩:=h.open
 obtain ⟨k',n',s',ls',ts',b',z',xs',c',y',ys',rfl,rfl,hz',hxs',hlen',hbd',hy',hys',hlen2',hbd2',hsl'⟩:=hm.open
 have he:=j9B ls ls' (fun l _=>jku l) b b' z z' xs xs' hz hz' hxs hxs' (by omega) (by omega)
 have hf:=jff ts ts' ih c c' y y' ys ys' hy hy' hys hys' (by omega) (by omega)
 refine j00 Tryz.func100 rfl rfl rfl ?_
 repeat' ((conv=>whnf);first|apply gF|refine gA ?_|refine gB ?_|apply gE<;>intro h|refine gC ?_|refine gD ?_|apply gM<;>intro h|refine j04 rfl ?_|refine j3v ?_|refine j01 he rfl rfl ?_|refine j01 hf rfl rfl ?_)
 all_goals (try (conv=>whnf))
 all_goals simp_all [eqTm,retV]
end Go.Proofs.YtljnahbgfmflaaaGreatDoor
