/-
  Bytes that are made of numbers and texts (wire, pack): that they are made; which they are is not asked. No statement of the seat.
-/
import Derived.Test.YtljnahbgfmflaaaGreatDoorZTf
import Derived.Test.YtljnahbgfmflaaaGreatDoorZSh
set_option linter.unusedVariables false
set_option maxRecDepth 100000
set_option linter.unusedSimpArgs false
set_option linter.unnecessarySimpa false
namespace Go.Proofs.YtljnahbgfmflaaaGreatDoor
open Go Go.Am Go.Gw
def andI (a b:Int):Int:=IntKind.i64.wrap ((BitVec.ofInt 64 a &&& BitVec.ofInt 64 b).toNat:Int)
def orI (a b:Int):Int:=IntKind.i64.wrap ((BitVec.ofInt 64 a ||| BitVec.ofInt 64 b).toNat:Int)
theorem band {P:Program} {T:TypeId} {x y:Operand} {a b:Int}:j0m P .and T x y (iv a) (iv b)=some (iv (andI a b)):=by
 simp only [j0m,j5S,eqGuard,binOp,Op.intBits]
 rfl
theorem bor {P:Program} {T:TypeId} {x y:Operand} {a b:Int}:j0m P .or T x y (iv a) (iv b)=some (iv (orI a b)):=by
 simp only [j0m,j5S,eqGuard,binOp,Op.intBits]
 rfl
theorem jqZ {P:Program} {T:TypeId} {x y:Operand} {a:Int}:j0m P .shr T x y (iv a) (.sc (.int .u64 7))=some (iv (a / 128)):=by
 have e:a.fdiv (2 ^ 7)=a / 128:=by rw [Int.fdiv_eq_ediv_of_nonneg _ (by decide)]; rfl
 have h:¬ ((7:Int) < 0):=by omega
 have hm:min (7:Int).toNat IntKind.i64.bits=7:=by decide
 simp only [j0m,j5S,eqGuard,binOp,Op.shift,if_neg h,hm,e]
 rfl
def jqK (op:BinOp) (a b:Int) (K:PV→Prop):Prop:=match op with
 | .and=>K (iv (andI a b))
 | .or=>K (iv (orI a b))
 |_=>False
theorem jg9 {P:Program} {op:BinOp} {T:TypeId} {x y:Operand} {a b:Int} {K:PV→Prop} (h:jqK op a b K):VRes (j0m P op T x y (iv a) (iv b)) K:=by
 cases op with
 |and=>exact ⟨_,band,h⟩
 |or=>exact ⟨_,bor,h⟩
 |_=>exact h.elim
theorem jdV {P:Program} {T:TypeId} {x y:Operand} {a:Int} {K:PV→Prop} (h:K (iv (a / 128))):VRes (j0m P .shr T x y (iv a) (.sc (.int .u64 7))) K:=⟨_,jqZ,h⟩
def toB (a:Int):PV:=.sc (.int .u8 (IntKind.u8.wrap a))
theorem toU8 {ρ:AEnv} {x:Operand} {a:Int} (hx:aval ρ x=some (iv a)):jeL C1.P ρ 3 5 x=some (toB a):=by
 have h1:(strT C1.P 3 && jaG C1.P 5)=false:=by kernel_rfl
 have hs:C1.P.underlying 3=some (.int .i64):=by kernel_rfl
 have hd:C1.P.underlying 5=some (.int .u8):=by kernel_rfl
 have e:qrun C1.P (convert 3 5 (.int .i64 a))=some (.int .u8 (IntKind.u8.wrap a)):=by
  unfold convert
  simp only [bind]
  rw [j3f (j1g hs),j3f (j1g hd)]
  rfl
 simp only [jeL,h1,hx]
 rw [e]
 rfl
def bufP (xs:List PV):PV:=match xs with
 |[]=>.sl true 0 []
 |_ :: r=>.ms 0 (r.length + 1)
def bufS (xs:List PV):Sto:=match xs with
 |[]=>[]
 |a :: r=>[.row false 5 1 (a :: r)]
theorem p68 {cs:List PV} (h:cs.all (pur 6)=true):cs.all (pur 8)=true:=List.all_eq_true.2 fun c hc=>jbd (jbd (List.all_eq_true.1 h c hc))
theorem jbt {k0 z:Nat} {ρ:AEnv} {T:TypeId} {cs:List PV} (hk0:k0=0∨k0=1) (hp:cs.all (pur 6)=true) (hacc:j8g [[]] 64 (ρ.flatMap (fun p=>ids 8 p.2)) []=[0]) (h1:ρ.all (fun p=>j0f (fun i=>Nat.blt i 1) 8 p.2)=true):gc k0 ρ [.row false T z cs]=[.row false T z cs]:=by
 rcases hk0 with rfl|rfl
 ·refine j1a (acc:=[0]) (.cons (j0d (p68 hp)) .nil) (.cons (j0d (p68 hp)) .nil) rfl ?_ rfl h1 rfl
  rw [show (List.take 0 [([]:List Nat)]).flatten=[] from rfl,List.append_nil]
  exact hacc
 ·exact j0N rfl
theorem j6C {f:FuncId} {k0 n z:Nat} {T:TypeId} {cs:List PV} {Q:AEnd→Sto→Prop} (hk:C1.keep f=true) (hk0:k0=0∨k0=1) (hp:cs.all (pur 6)=true) (k:Q (.ret [.ms 0 n]) [.row false T z cs]):VRet C1 f k0 [.ms 0 n] [.row false T z cs] Q:=by
 refine j1Q (.inl ⟨hk,rfl,rfl⟩) rfl (jbt hk0 hp rfl rfl) (j1S ?_) k
 rcases hk0 with rfl|rfl <;> rfl
theorem j8B (xs:List PV):(bufS xs).length=0∨(bufS xs).length=1:=by cases xs <;> simp [bufS]
def Put1 (xs:List PV) (n:Nat) (r:AEnd) (st:Sto):Prop:=∃ ys,r = .ret [bufP ys]∧st=bufS ys∧ys.all (pur 6)=true∧ys.length ≤ xs.length + n∧0 < ys.length
theorem j2s {xs:List PV} {n m:Nat} {y:PV} {r:List PV} (hp:(y :: r).all (pur 6)=true) (hl:(y :: r).length ≤ xs.length + n) (hm:m=r.length + 1) (T:TypeId) (z:Nat) (hT:T=5) (hz:z=1):Put1 xs n (.ret [.ms 0 m]) [.row false T z (y :: r)]:=by
 subst hm hT hz
 exact ⟨y :: r,rfl,rfl,hp,hl,by simp⟩
theorem jiA (n:Int):Pf C1 305 [iv n] [bv (decide (0 ≤ n) && decide (n ≤ 1099511627776))]:=by
 refine j00 Tryz.func305 rfl rfl rfl ?_
 repeat' ((conv=>whnf);first|refine gA ?_|refine gB ?_|apply gE<;>intro h|refine j03 rfl ?_)
 all_goals (try (conv=>whnf))
 all_goals
  refine j1H ?_
  rw [Bool.eq_iff_iff]
  simp
  omega
theorem jgl (n:Int) (h0:0 ≤ n) (h1:n ≤ 1099511627776) (xs:List PV) (hp:xs.all (pur 6)=true) (hl:xs.length ≤ 100000000):Finds C1 306 [bufP xs,iv n] (bufS xs) (Put1 xs 6):=by
 refine j00 Tryz.func306 rfl rfl rfl ?_
 skip
 all_goals (try (conv=>whnf))
 refine j08 (G:=List PV × Int) (fun g=>[(0,bufP g.1),(1,iv g.2)]) (fun g=>bufS g.1) (fun g=>g.1.all (pur 6)=true∧0 ≤ g.2∧((g.1.length=xs.length∧g.2 < 4398046511104)∨(g.1.length=xs.length + 1∧g.2 < 34359738368)∨(g.1.length=xs.length + 2∧g.2 < 268435456)∨(g.1.length=xs.length + 3∧g.2 < 2097152)∨(g.1.length=xs.length + 4∧g.2 < 16384)∨(g.1.length=xs.length + 5∧g.2 < 128))) (fun g=>g.2.toNat) (xs,n) ⟨hp,h0,by dsimp only; omega⟩ rfl rfl ?_
 rintro ⟨ys,m⟩ ⟨hys,hm0,hor⟩
 dsimp only at hys hm0 hor ⊢
 cases ys with
 |nil =>
  simp only [bufP,bufS]
  repeat' ((conv=>whnf);first|apply gE<;>intro h|apply gO|refine jg9 ?_|refine jdV ?_|refine VRes.mk _ (toU8 rfl) ?_)
  all_goals (try (conv=>whnf))
  ·have h8:[toB (orI (andI m 127) 128)].all (pur 6)=true:=rfl
   refine VAgain.mk _ rfl _ (jbt (j8B xs) h8 rfl rfl) ⟨([toB (orI (andI m 127) 128)],m / 128),⟨h8,by dsimp only; omega,?_⟩,by dsimp only; omega,rfl⟩
   simp only [List.length_nil,List.length_cons] at hor ⊢
   omega
  ·have h8:[toB m].all (pur 6)=true:=rfl
   refine j6C rfl (j8B xs) h8 (j2s h8 ?_ rfl _ _ rfl rfl)
   simp only [List.length_nil,List.length_cons] at hor ⊢
   omega
 |cons y r =>
  simp only [bufP,bufS]
  have hyl:r.length ≤ 100000010:=by simp only [List.length_cons] at hor; omega
  repeat' ((conv=>whnf);first|apply gE<;>intro h|apply gO|refine jg9 ?_|refine jdV ?_|refine VRes.mk _ (toU8 rfl) ?_|refine VOk.mk (j1j (w:=1) (r:=140737488355328) (by simp:(y :: r).length=r.length + 1) rfl rfl rfl rfl (by simp only [List.length_cons,List.length_nil]; omega) (by simp only [List.length_cons,List.length_nil]; omega)) ?_)
  all_goals (try (conv=>whnf))
  ·have h8:(y :: r ++ [toB (orI (andI m 127) 128)]).all (pur 6)=true:=by rw [List.all_append,hys]; rfl
   refine VAgain.mk _ rfl _ (jbt (j8B xs) h8 rfl rfl) ⟨(y :: r ++ [toB (orI (andI m 127) 128)],m / 128),⟨h8,by dsimp only; omega,?_⟩,by dsimp only; omega,?_⟩
   ·simp only [List.length_append,List.length_nil,List.length_cons] at hor ⊢
    omega
   ·simp only [List.cons_append,bufP,List.length_append]
    rfl
  ·have h8:(y :: r ++ [toB m]).all (pur 6)=true:=by rw [List.all_append,hys]; rfl
   refine j6C rfl (j8B xs) h8 (j2s (r:=r ++ [toB m]) h8 ?_ (by simp) _ _ rfl rfl)
   simp only [List.length_append,List.cons_append,List.length_nil,List.length_cons] at hor ⊢
   omega
theorem jk1 (n:Int) (h0:0 ≤ n) (h1:n ≤ 1099511627776) (b:Bool):∃ ys:List PV,ys.all (pur 6)=true∧ys.length ≤ 6∧0 < ys.length∧Pf C1 291 [.sl b 1 [iv n]] [.sl false 1 ys,bv true]:=by
 have hr:=jiA n
 rw [decide_eq_true h0,decide_eq_true h1] at hr
 simp only [Bool.and_self] at hr
 have hw:=jgl n h0 h1 [] rfl (by simp)
 obtain ⟨r,st,⟨ys,rfl,rfl,hp,hl,hpos⟩,N,hN⟩:=hw
 have hf:Finds C1 306 [.sl true 0 [],iv n] [] fun r st=>r = .ret [bufP ys]∧st=bufS ys:=⟨_,_,⟨rfl,rfl⟩,N,hN⟩
 clear hN
 refine ⟨ys,hp,by simpa using hl,hpos,?_⟩
 obtain ⟨y,yr,rfl⟩:∃ y yr,ys=y :: yr:=by
  cases ys with
  |nil=>simp at hpos
  |cons y yr=>exact ⟨y,yr,rfl⟩
 have hp8:=p68 hp
 refine j00 Tryz.func291 rfl rfl rfl ?_
 skip
 all_goals (try (conv=>whnf))
 refine j08 (G:=Bool) (fun g=>[(9,iv (if g then 1 else 0)),(4,if g then .ms 0 (yr.length + 1) else .sl true 0 [])]) (fun g=>if g then [.row false 5 1 (y :: yr)] else []) (fun _=>True) (fun g=>if g then 0 else 1) false trivial rfl rfl ?_
 intro g _
 cases g with
 |false =>
  simp only [Bool.false_eq_true,if_false]
  repeat' ((conv=>whnf);first|apply gT|apply gF|apply gO|apply gQ|refine VIdx.mk _ rfl ?_|refine j01 hr rfl rfl ?_)
  all_goals (try (conv=>whnf))
  refine j1n rfl (Finds.mono hf ?_)
  rintro _ _ ⟨rfl,rfl⟩
  refine ⟨rfl,?_⟩
  refine j5d (.cons (j2k hp8) .nil) rfl ?_
  repeat' ((conv=>whnf);first|refine VArith.fits (by unfold i64; omega) ?_)
  all_goals (try (conv=>whnf))
  refine VAgain.mk _ rfl _ (jbt (.inl rfl) hp rfl rfl) ⟨true,trivial,by simp,rfl⟩
 |true =>
  simp only [if_true]
  repeat' ((conv=>whnf);first|refine VIf.ff rfl ?_)
  all_goals (try (conv=>whnf))
  refine j0x rfl (j09 (j0P rfl (by simp) hp) (j09 rfl j0s)) rfl rfl
theorem jhu {P:Program} {U n m t t' a b w:Nat} {xs:List PV} (hs:strT P U=true) (h:xs.length=n) (h0:0 < n) (ht:Nat.beq t t'=true) (hw:Nat.beq w 1=true) (ha:Nat.beq a 1=true) (hb:Nat.beq b 1=true) (h2:n + m ≤ 140737488355328) :
  (strT P U && (Nat.beq n xs.length && Nat.beq t t' && Nat.beq w 1 && Nat.beq a 1 && Nat.beq b 1 && Nat.blt 0 n && fits (n + m) 1))=true:=by
 subst h
 have hf:fits (xs.length + m) 1=true:=by
  rw [fits,Nat.mul_one,Bool.and_self]
  exact Nat.ble_eq_true_of_le h2
 have hlt:Nat.blt 0 xs.length=true:=by rw [Nat.blt_eq]; exact h0
 rw [hs,ht,hw,ha,hb,hf,hlt,Nat.beq_refl]
 rfl
def bsv (s:List UInt8):List PV:=s.map fun c=>.sc (.int .u8 c.toNat)
theorem jgk (s:List UInt8):(bsv s).all (pur 6)=true:=by
 rw [List.all_eq_true]
 intro x hx
 obtain ⟨c,_,rfl⟩:=List.mem_map.1 hx
 rfl
theorem jjj (s:List UInt8) (hs:s.length ≤ 1000000) (b:Bool):Finds C1 292 [.sl true 0 [],.sl b 1 [sv s]] [] (Put1 [] (6 + s.length)):=by
 have hlen:(⟨s.toArray⟩:ByteArray).size=s.length:=j2N _
 obtain ⟨r,st,⟨ys,rfl,rfl,hp,hl,hpos⟩,N,hN⟩:=jgl s.length (by omega) (by omega) [] rfl (by simp)
 have hf:Finds C1 306 [.sl true 0 [],iv s.length] [] fun r st=>r = .ret [bufP ys]∧st=bufS ys:=⟨_,_,⟨rfl,rfl⟩,N,hN⟩
 clear hN
 obtain ⟨y,yr,rfl⟩:∃ y yr,ys=y :: yr:=by
  cases ys with
  |nil=>simp at hpos
  |cons y yr=>exact ⟨y,yr,rfl⟩
 have hp8:=p68 hp
 refine j00 Tryz.func292 rfl rfl rfl ?_
 skip
 all_goals (try (conv=>whnf))
 refine j08 (G:=Bool) (fun g=>[(9,iv (if g then 1 else 0)),(0,if g then .ms 0 (yr.length + 1 + s.length) else .sl true 0 [])]) (fun g=>if g then [.row false 5 1 (y :: yr ++ bsv s)] else []) (fun _=>True) (fun g=>if g then 0 else 1) false trivial rfl rfl ?_
 intro g _
 cases g with
 |false =>
  simp only [Bool.false_eq_true,if_false]
  repeat' ((conv=>whnf);first|apply gT|apply gO|apply gQ|refine VIdx.mk _ rfl ?_)
  all_goals (try (conv=>whnf))
  refine j1n rfl (Finds.mono hf ?_)
  rintro _ _ ⟨rfl,rfl⟩
  refine ⟨rfl,?_⟩
  refine j5d (.cons (j2k hp8) .nil) rfl ?_
  have hall:(y :: yr ++ bsv s).all (pur 6)=true:=by rw [List.all_append,hp,jgk]; rfl
  cases s with
  |nil =>
   repeat' ((conv=>whnf);first|refine gV ?_|refine VOk.mk (jhu rfl (by simp) (by omega) rfl rfl rfl rfl (by show yr.length + 1 + 0 ≤ _; simp only [List.length_nil,List.length_cons] at hl; omega)) ?_)
   all_goals (try (conv=>whnf))
   refine VAgain.mk _ rfl _ (jbt (.inl rfl) hp rfl rfl) ⟨true,trivial,by simp,?_⟩
   simp only [bsv,List.map_nil,List.append_nil,if_true]
   rfl
  |cons c r =>
   repeat' ((conv=>whnf);first|refine gV ?_|refine VOk.mk (jhu rfl (by simp) (by omega) rfl rfl rfl rfl (by show yr.length + 1 + (c :: r).length ≤ _; simp only [List.length_nil,List.length_cons] at hl hs ⊢; omega)) ?_)
   all_goals (try (conv=>whnf))
   refine VAgain.mk _ rfl _ (jbt (.inl rfl) hall rfl rfl) ⟨true,trivial,by simp,?_⟩
   rfl
 |true =>
  simp only [if_true]
  repeat' ((conv=>whnf);first|refine VIf.ff rfl ?_)
  all_goals (try (conv=>whnf))
  have hall:(y :: yr ++ bsv s).all (pur 6)=true:=by rw [List.all_append,hp,jgk]; rfl
  refine j6C rfl (.inl rfl) hall (j2s (r:=yr ++ bsv s) hall ?_ (by simp [bsv]; omega) _ _ rfl rfl)
  simp only [List.length_append,List.cons_append,List.length_nil,List.length_cons,bsv,List.length_map] at hl ⊢
  omega
theorem jaL (s:List UInt8) (hs:s.length ≤ 1000000) (b:Bool):∃ ys:List PV,ys.all (pur 6)=true∧ys.length ≤ 6 + s.length∧0 < ys.length∧Pf C1 276 [.sl b 1 [sv s]] [.sl false 1 ys]:=by
 obtain ⟨r,st,⟨ys,rfl,rfl,hp,hl,hpos⟩,N,hN⟩:=jjj s hs b
 have hf:Finds C1 292 [.sl true 0 [],.sl b 1 [sv s]] [] fun r st=>r = .ret [bufP ys]∧st=bufS ys:=⟨_,_,⟨rfl,rfl⟩,N,hN⟩
 clear hN
 refine ⟨ys,hp,by simpa using hl,hpos,?_⟩
 obtain ⟨y,yr,rfl⟩:∃ y yr,ys=y :: yr:=by
  cases ys with
  |nil=>simp at hpos
  |cons y yr=>exact ⟨y,yr,rfl⟩
 have hp8:=p68 hp
 refine j00 Tryz.func276 rfl rfl rfl ?_
 skip
 all_goals (try (conv=>whnf))
 refine j1n rfl (Finds.mono hf ?_)
 rintro _ _ ⟨rfl,rfl⟩
 refine ⟨rfl,?_⟩
 refine j5d (.cons (j2k hp8) .nil) rfl ?_
 skip
 all_goals (try (conv=>whnf))
 refine j0x rfl (j09 (j0P rfl (by simp) hp) j0s) rfl rfl
theorem jhm {m by_ w r:Nat} {e:Bool} (hw:by_=w) (hr:room=r) (h1:m * w ≤ r) (h2:m ≤ r):(true && (e || ([]:List PV).isEmpty) && fits m by_)=true:=by
 subst hw hr
 rw [show (e || ([]:List PV).isEmpty)=true by cases e <;> rfl,fits,Nat.ble_eq_true_of_le h1,Nat.ble_eq_true_of_le h2]
 rfl
theorem j3x (n:Int) (h0:0 ≤ n) (h1:n ≤ 1099511627776) (b:Bool) (xs:List PV) (hp:xs.all (pur 6)=true) (hl:xs.length ≤ 100000000):Finds C1 275 [bufP xs,.sl b 1 [iv n]] (bufS xs) (Put1 xs 6):=by
 obtain ⟨ys,hyp,hyl,hpos,hN⟩:=jk1 n h0 h1 b
 obtain ⟨y,yr,rfl⟩:∃ y yr,ys=y :: yr:=by
  cases ys with
  |nil=>simp at hpos
  |cons y yr=>exact ⟨y,yr,rfl⟩
 have hall:(xs ++ y :: yr).all (pur 6)=true:=by rw [List.all_append,hp,hyp]; rfl
 simp only [List.length_cons] at hyl
 cases xs with
 |nil =>
  refine j00 Tryz.func275 rfl rfl rfl ?_
  simp only [bufP,bufS]
  repeat' ((conv=>whnf);first|apply gO|refine j01 hN rfl rfl ?_|refine VOk.mk (jhm (w:=1) (r:=140737488355328) rfl rfl (by simp only [List.length_cons,List.length_nil]; omega) (by simp only [List.length_cons,List.length_nil]; omega)) ?_)
  all_goals (try (conv=>whnf))
  refine j6C rfl (.inl rfl) hall (j2s (r:=yr) hall ?_ (by simp) _ _ rfl rfl)
  simp only [List.length_nil,List.length_cons] at hl ⊢
  omega
 |cons x xr =>
  refine j00 Tryz.func275 rfl rfl rfl ?_
  simp only [bufP,bufS]
  repeat' ((conv=>whnf);first|apply gO|refine j01 hN rfl rfl ?_|refine VOk.mk (j1j (w:=1) (r:=140737488355328) (by simp:(x :: xr).length=xr.length + 1) rfl rfl rfl rfl (by simp only [List.length_cons] at hl ⊢; omega) (by simp only [List.length_cons] at hl ⊢; omega)) ?_)
  all_goals (try (conv=>whnf))
  refine j6C rfl (.inr rfl) hall (j2s (r:=xr ++ y :: yr) hall ?_ (by simp; omega) _ _ rfl rfl)
  simp only [List.length_append,List.cons_append,List.length_cons] at hl ⊢
  omega
theorem jm6 (k:Int):Pf C1 293 [iv k] [bv (decide (k=1) || decide (k=2))]:=by
 refine j00 Tryz.func293 rfl rfl rfl ?_
 repeat' ((conv=>whnf);first|refine gA ?_|refine gB ?_|apply gE<;>intro h|refine j03 rfl ?_)
 all_goals (try (conv=>whnf))
 all_goals simp_all
end Go.Proofs.YtljnahbgfmflaaaGreatDoor
