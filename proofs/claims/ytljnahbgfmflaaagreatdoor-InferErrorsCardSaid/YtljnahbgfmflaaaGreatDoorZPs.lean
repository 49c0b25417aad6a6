/-
  What package name finds: a part of a name. No statement of the seat.
-/
import Derived.Test.YtljnahbgfmflaaaGreatDoorZPl
import Derived.Test.YtljnahbgfmflaaaGreatDoorZSh
import Derived.Test.YtljnahbgfmflaaaGreatDoorZPm
set_option linter.unusedVariables false
set_option maxHeartbeats 1000000
set_option maxRecDepth 100000
set_option linter.unusedSimpArgs false
set_option linter.unnecessarySimpa false
namespace Go.Proofs.YtljnahbgfmflaaaGreatDoor
open Go Go.Am Go.Gw
theorem jin (s:ByteArray) (i:Nat) (h:(s.get! i).toNat < 128):Utf8.decode s i=((s.get! i).toNat,1):=by
 unfold Utf8.decode
 simp only [Nat.add_zero]
 rw [if_pos h]
theorem decode_high (s:ByteArray) (i:Nat) (h:¬ (s.get! i).toNat < 128):128 ≤ (Utf8.decode s i).1:=by
 unfold Utf8.decode
 simp only [Nat.add_zero]
 rw [if_neg h]
 repeat' split
 all_goals simp_all [Utf8.runeError]
 all_goals omega
theorem get_at (s:List UInt8) (i:Nat) (h:i < s.length):(⟨s.toArray⟩:ByteArray).get! i=s[i]:=by
 simp [ByteArray.get!,h]
theorem jeI (c:UInt8):j3R c.toNat=j9Y c:=by
 rw [Bool.eq_iff_iff]
 simp [j3R,j9Y,UInt8.le_iff_toNat_le,← UInt8.toNat_inj]
 omega
theorem jg7 (s:List UInt8):∀ (f pos:Nat),s.length ≤ pos + f→(Lib.idxFuncFrom (fun c=>!j3R c) true ⟨s.toArray⟩ f pos < 0↔(s.drop pos).all j9Y=true)
 |0,pos,h=>by
  rw [List.drop_of_length_le (by omega)]
  simp [Lib.idxFuncFrom]
 |f + 1,pos,h=>by
  by_cases hp:pos < s.length
  ·have hsz:pos < (⟨s.toArray⟩:ByteArray).size:=by rw [j2H]; exact hp
   have hg:=get_at s pos hp
   rw [Lib.idxFuncFrom,if_pos hsz,List.drop_eq_getElem_cons hp,List.all_cons]
   by_cases hl:((⟨s.toArray⟩:ByteArray).get! pos).toNat < 128
   ·rw [jin _ _ hl,hg]
    simp only [jeI]
    have ih:=jg7 s f (pos + 1) (by omega)
    cases hc:j9Y s[pos]
    ·simp
    ·simp [ih]
   ·have hh:=decode_high _ _ hl
    have h1:j3R (Utf8.decode ⟨s.toArray⟩ pos).1=false:=by
     simp only [j3R,decide_eq_false_iff_not]
     omega
    have h2:j9Y s[pos]=false:=by
     rw [← jeI]
     rw [hg] at hl
     simp only [j3R,decide_eq_false_iff_not]
     omega
    rw [h1,h2]
    simp
  ·rw [List.drop_of_length_le (by omega),Lib.idxFuncFrom_end _ _ _ _ _ (by rw [j2H]; exact hp)]
   simp
theorem jly (s:List UInt8):decide (Lib.idxFunc (fun c=>!j3R c) true ⟨s.toArray⟩ < 0)=s.all j9Y:=by
 have:=jg7 s (⟨s.toArray⟩:ByteArray).size 0 (by rw [j2H]; omega)
 rw [Bool.eq_iff_iff,decide_eq_true_eq]
 simpa [Lib.idxFunc] using this
theorem jcp (s:List UInt8):Pf C1 242 [sv s,.fn 240 [] []] [iv (Lib.idxFunc (fun c=>!j3R c) true ⟨s.toArray⟩)]:=jo5 rfl rfl
theorem idx0 {ρ:AEnv} {x y:Operand} {c:UInt8} {r:List UInt8} (hx:aval ρ x=some (sv (c :: r))) (hy:aval ρ y=some (iv 0)):jaQ C1.P ρ 9 x y=some (.sc (.int .u8 c.toNat)):=by
 simp only [jaQ,hx,hy]
 rfl
theorem jq7 {P:Program} {T:TypeId} {x y:Operand} {a b:Int}:j0l P .lss T x y (.sc (.int .u8 a)) (.sc (.int .u8 b))=some (bv (decide (a < b))):=by
 simp only [j0l,j5I,eqGuard,binOp,Op.intCmp]
 rfl
theorem jpE {P:Program} {T:TypeId} {x y:Operand} {a b:Int}:j0l P .gtr T x y (.sc (.int .u8 a)) (.sc (.int .u8 b))=some (bv (decide (b < a))):=by
 simp only [j0l,j5I,eqGuard,binOp,Op.intCmp]
 rfl
def u8Op (op:BinOp) (a b:Int) (K:PV→Prop):Prop:=match op with
 | .lss=>K (bv (decide (a < b)))
 | .gtr=>K (bv (decide (b < a)))
 |_=>False
theorem jp7 {P:Program} {op:BinOp} {T:TypeId} {x y:Operand} {a b:Int} {K:PV→Prop} (h:u8Op op a b K):VRes (j0l P op T x y (.sc (.int .u8 a)) (.sc (.int .u8 b))) K:=by
 cases op with
 |lss=>exact ⟨_,jq7,h⟩
 |gtr=>exact ⟨_,jpE,h⟩
 |_=>exact h.elim
theorem jml (s:List UInt8):Pf C1 207 [sv s] [bv (j5G s)]:=by
 have hi:=jcp s
 have hp:=jly s
 cases s with
 |nil =>
  refine j00 Tryz.func207 rfl rfl rfl ?_
  repeat' ((conv=>whnf);first|apply gF|refine j04 rfl ?_|refine j3v ?_)
  all_goals (try (conv=>whnf))
  all_goals first|rfl|(rename_i h; simp at h)|simp_all
 |cons c r =>
  refine j00 Tryz.func207 rfl rfl rfl ?_
  repeat' ((conv=>whnf);first|apply gT|refine gA ?_|refine gB ?_|apply gE<;>intro h|refine j04 rfl ?_|refine j3v ?_|refine VRes.mk _ (idx0 rfl rfl) ?_|refine jp7 ?_|refine j01 hi rfl rfl ?_)
  all_goals (try (conv=>whnf))
  all_goals
   have hd:(48 ≤ c && c ≤ 57)=decide (48 ≤ c.toNat∧c.toNat ≤ 57):=by
    rw [Bool.eq_iff_iff]
    simp [UInt8.le_iff_toNat_le]
  ·rw [hp,j5G,hd,decide_eq_false (by omega)]
   rfl
  ·rw [hp,j5G,hd,decide_eq_false (by omega)]
   rfl
  ·rw [j5G,hd,decide_eq_true (by omega)]
   rfl
open Go Go.Am Go.Gw
theorem jdQ (s:List UInt8):Finds C1 239 [sv s,sv [46],iv 0] [] fun r st=>r = .ret [.fn 270 [] [.bp 1 0,.bp 0 0,.bp 2 0]]∧st=[.box 9 [sv s],.box 9 [sv [46]],.box 3 [iv 0]]:=by
 refine j00 Tryz.func239 rfl rfl rfl ?_
 skip
 all_goals (try (conv=>whnf))
 exact VRet.mk [.fn 270 [] [.bp 1 0,.bp 0 0,.bp 2 0]] [.box 9 [sv s],.box 9 [sv [46]],.box 3 [iv 0]] (by kernel_rfl) ⟨rfl,rfl⟩
theorem jdb (s:List UInt8):Finds C1 206 [sv s,sv [46]] [] fun r st=>r = .ret [.fn 270 [] [.bp 1 0,.bp 0 0,.bp 2 0]]∧st=[.box 9 [sv s],.box 9 [sv [46]],.box 3 [iv 0]]:=by
 refine j00 Tryz.func206 rfl rfl rfl ?_
 skip
 all_goals (try (conv=>whnf))
 refine j1l rfl (Finds.mono (jdQ s) ?_)
 rintro _ _ ⟨rfl,rfl⟩
 refine ⟨rfl,j1K rfl ?_⟩
 skip
 all_goals (try (conv=>whnf))
 exact VRet.mk [.fn 270 [] [.bp 1 0,.bp 0 0,.bp 2 0]] [.box 9 [sv s],.box 9 [sv [46]],.box 3 [iv 0]] (by kernel_rfl) ⟨rfl,rfl⟩
theorem jkE (g:List UInt8):Pf C1 272 [sv g,sv [46]] [iv (Lib.indexByte g 46)]:=jo5 rfl rfl
open Go Go.Am Go.Gw
theorem j2Y {P:Program} {α β:Type} {f:α→Sem β}:∀ {s:Sem α} {a:α},qrun P s=some a→qrun P (s.bind f)=qrun P (f a):=by
 intro s
 induction s with
 |pure x=>intro a h; simp only [qrun,Option.some.injEq] at h; subst h; rfl
 |program k ih=>intro a h; exact ih P h
 |mark m k ih=>intro a h; exact ih h
 |_=>intro a h; simp [qrun] at h
theorem j1e {P:Program} {T:TypeId} {d:TypeDesc} (h:P.underlying T=some d):qrun P (underlying T)=some d:=by
 unfold underlying
 simp [bind,Sem.bind,qrun,program,h]
 rfl
theorem jmq (g:List UInt8) (i:Nat) (h:i ≤ g.length):j6v C1.P 9 (str g) none (some (iv i)) none=some (sv (g.take i)):=by
 have h0:(0:Int) ≤ (i:Int)∧(i:Int) ≤ (g.length:Int):=by omega
 have hT:C1.P.underlying 9=some .string:=by kernel_rfl
 have e:qrun C1.P (Instr.sliceAt 9 (str g) none (some (.int .i64 i)) none)=some (str (g.take i)):=by
  unfold Instr.sliceAt
  simp only [bind]
  rw [j2Y (j1e hT)]
  simp [Instr.slice,Instr.sliceBounds,Instr.sliceBound,asIntOf,j2H,h0,j5t,qrun,bind,Sem.bind]
  rw [j2Y (j1e hT)]
  simp [pure,Sem.bind,j2H,h0,j5t,qrun,h]
 show (qrun C1.P (Instr.sliceAt 9 (str g) none (some (.int .i64 i)) none)).bind j4M=_
 rw [e]
 rfl
theorem jm4 (g:List UInt8) (i:Nat) (h:i ≤ g.length):j6v C1.P 9 (str g) (some (iv i)) none none=some (sv (g.drop i)):=by
 have h0:(0:Int) ≤ (i:Int)∧(i:Int) ≤ (g.length:Int):=by omega
 have hT:C1.P.underlying 9=some .string:=by kernel_rfl
 have e:qrun C1.P (Instr.sliceAt 9 (str g) (some (.int .i64 i)) none none)=some (str (g.drop i)):=by
  unfold Instr.sliceAt
  simp only [bind]
  rw [j2Y (j1e hT)]
  simp [Instr.slice,Instr.sliceBounds,Instr.sliceBound,asIntOf,j2H,h0,j5t,qrun,bind,Sem.bind]
  rw [j2Y (j1e hT)]
  simp [pure,Sem.bind,j2H,h0,j5t,qrun,h]
  try exact List.take_of_length_le (by simp)
 show (qrun C1.P (Instr.sliceAt 9 (str g) (some (.int .i64 i)) none none)).bind j4M=_
 rw [e]
 rfl
open Go Go.Am Go.Gw
mutual
def encL:Lv→PV
 | .mk k n ls=>.ag [iv k,iv n,match ls with
  |[]=>.sl true 0 []
  |l :: r=>.sl false 3 (jdw (l :: r))]
def jdw:List Lv→List PV
 |[]=>[]
 |l :: r=>encL l :: jdw r
end
def j7j (ls:List Lv):PV:=match ls with
 |[]=>.sl true 0 []
 |l :: r=>.sl false 3 (jdw (l :: r))
theorem jgW:∀ ls:List Lv,jdw ls=ls.map encL
 |[]=>rfl
 |l :: r=>by rw [jdw,jgW r]; rfl
mutual
theorem jc0:∀ (l:Lv) (v:PV),LvP l v→LvP l (encL l)
 | .mk k n ls,v,h=>by
  simp only [LvP] at h
  obtain ⟨b,z,xs,rfl,hz,hxs,hb⟩:=h
  have:=jco ls xs hxs
  cases ls with
  |nil=>simp only [encL,LvP,LvsP]; exact ⟨_,_,_,rfl,.inr rfl,rfl,hb⟩
  |cons l r=>simp only [encL,LvP]; exact ⟨_,_,_,rfl,.inl rfl,this,hb⟩
theorem jco:∀ (ls:List Lv) (xs:List PV),LvsP ls xs→LvsP ls (jdw ls)
 |[],_,_=>by simp only [jdw,LvsP]
 |l :: r,xs,h=>by
  simp only [LvsP] at h
  obtain ⟨v,xs',rfl,h1,h2⟩:=h
  simp only [jdw,LvsP]
  exact ⟨_,_,rfl,jc0 l v h1,jco r xs' h2⟩
end
theorem jd7 (l:Lv):∀ n,pur (n + 2) (encL l)=true:=fun n=>by
 obtain ⟨k,nn,ls⟩:=l
 cases ls <;> rfl
theorem j2r (ls:List Lv) (n:Nat):(ls.map encL).all (pur (n + 2))=true:=by
 rw [List.all_eq_true]
 intro x hx
 obtain ⟨l,_,rfl⟩:=List.mem_map.1 hx
 exact jd7 l n
abbrev zLv:List PV:=[iv 0,iv 0,.sl true 0 []]
abbrev zTm:List PV:=[iv 0,iv 0,sv [],.sl true 0 [],.sl true 0 []]
theorem j9b (k n:Int) (ls:List Lv):encL (.mk k n ls) = .ag [iv k,iv n,j7j ls]:=by cases ls <;> simp [encL,j7j]
theorem j0y (l:Lv):∃ k n b z xs,encL l = .ag [iv k,iv n,.sl b z xs]:=by
 obtain ⟨k,n,ls⟩:=l
 rw [j9b]
 cases ls with
 |nil=>exact ⟨_,_,_,_,_,rfl⟩
 |cons l r=>exact ⟨_,_,_,_,_,rfl⟩
theorem j6T {ls:List Lv} (h:0 < ls.length):j7j ls = .sl false 3 (ls.map encL):=by
 cases ls with
 |nil=>simp at h
 |cons l r=>simp only [j7j,jgW]
theorem jjH (k:Int) (ls:List Lv) (ih:∀ l ∈ ls,∀ v,LvP l v→Pf C1 84 [v] [encL l]) (b:Bool) (z:Nat) (xs:List PV) (hz:z=3∨xs=[]) (hxs:LvsP ls xs) (hbd:ls.length ≤ 3518437208780) :
  Pf C1 50 [iv k,.sl b z xs] [encL (.mk k 0 ls)]:=by
 have hlen:=hxs.len
 refine j00 Tryz.func50 rfl rfl rfl ?_
 repeat' ((conv=>whnf);first|refine VOk.mk rfl ?_)
 all_goals (try (conv=>whnf))
 refine j09 (G:=Nat) (fun i=>[(12,iv i)]) (fun i=>match i with
   |0=>[.box 38 zLv,.box 38 [iv k,iv 0,.sl true 0 []]]
   |n + 1=>[.box 38 zLv,.box 38 [iv k,iv 0,.ms 3 (n + 1)],.dead,.row false 38 3 ((ls.take (n + 1)).map encL)]) (fun i=>i ≤ ls.length) (fun i=>ls.length - i) 0 (by omega) rfl rfl ?_
 intro i hi
 have hround:∀ (hi':i < ls.length),∃ lc,ls[i]? = some lc∧∃ v,xs[i]? = some v∧LvP lc v∧Pf C1 84 [v] [encL lc]:=fun hi'=>by
  obtain ⟨lc,hlc⟩:∃ lc,ls[i]? = some lc:=⟨_,List.getElem?_eq_getElem hi'⟩
  obtain ⟨v,hv,hl⟩:=hxs.at hlc
  exact ⟨lc,hlc,v,hv,hl,ih _ (List.mem_of_getElem? hlc) _ hl⟩
 cases i with
 |zero =>
  repeat' ((conv=>whnf);first|apply gE<;>intro h|apply gO|apply gQ|refine j04 rfl ?_)
  all_goals (try (conv=>whnf))
  ·obtain ⟨lc,hlc,v,hv,hl,hpl⟩:=hround (by omega)
   have e:(ls.take (0 + 1)).map encL=[encL lc]:=by rw [take_snoc' hlc]; rfl
   obtain ⟨k2,n2,b2,z2,x2,he⟩:=j0y lc
   rw [he] at hpl e
   obtain ⟨k1,n1,l1,b1,z1,x1,rfl,rfl,hz1,hxs1,hlen1,hbd1⟩:=hl.open
   refine VIdx.mk _ hv (VOk.mk (j07 rfl hz) ?_)
   repeat' ((conv=>whnf);first|apply gO|apply gP|refine gV ?_|refine j05 hpl (fun _=>?_)|apply gK)
   all_goals (try (conv=>whnf))
   exact VAgain.mk _ rfl _ (j1b (.cons (j06 rfl rfl) (.cons (j06 rfl rfl) (.cons (j06 rfl rfl) (.cons (j0e rfl) .nil)))) (.cons (j06 rfl rfl) (.cons (j06 rfl rfl) (.cons j0o (.cons (j0e rfl) .nil)))) rfl rfl rfl rfl rfl) ⟨1,by omega,by omega,congrArg (fun t=>(⟨_,[.box _ zLv,.box _ [iv k,iv 0,.ms 3 1],.dead,.row false _ 3 t]⟩:AS)) e.symm⟩
  ·obtain rfl:ls=[]:=List.eq_nil_of_length_eq_zero (by omega)
   rfl
 |succ i =>
  have hln:((ls.take (i + 1)).map encL).length=i + 1:=by simp; omega
  repeat' ((conv=>whnf);first|apply gE<;>intro h|apply gO|apply gQ)
  all_goals (try (conv=>whnf))
  ·obtain ⟨lc,hlc,v,hv,hl,hpl⟩:=hround (by omega)
   have e:(ls.take (i + 1 + 1)).map encL=(ls.take (i + 1)).map encL ++ [encL lc]:=by rw [take_snoc' hlc]; simp
   have hp8:((ls.take (i + 1)).map encL ++ [encL lc]).all (pur 8)=true:=e ▸ j2r _ 6
   obtain ⟨k2,n2,b2,z2,x2,he⟩:=j0y lc
   rw [he] at hpl e hp8
   obtain ⟨k1,n1,l1,b1,z1,x1,rfl,rfl,hz1,hxs1,hlen1,hbd1⟩:=hl.open
   refine VIdx.mk _ hv (VOk.mk (j07 rfl hz) ?_)
   repeat' ((conv=>whnf);first|apply gO|apply gP|refine gV ?_|refine j05 hpl (fun _=>?_)|refine VOk.mk (j1i (w:=40) (r:=140737488355328) hln rfl rfl rfl rfl (by simp only [List.length_cons,List.length_nil]; omega) (by simp only [List.length_cons,List.length_nil]; omega)) ?_|apply gK)
   all_goals (try (conv=>whnf))
   exact VAgain.mk _ rfl _ (j1b (.cons (j06 rfl rfl) (.cons (j06 rfl rfl) (.cons j0o (.cons (j0e hp8) (.cons (j06 rfl rfl) .nil))))) (.cons (j06 rfl rfl) (.cons (j06 rfl rfl) (.cons j0o (.cons (j0e hp8) .nil)))) rfl rfl rfl rfl rfl) ⟨i + 1 + 1,by omega,by omega,congrArg (fun t=>(⟨_,[.box _ zLv,.box _ [iv k,iv 0,.ms 3 (i + 1 + 1)],.dead,.row false _ 3 t]⟩:AS)) e.symm⟩
  ·have hi':i + 1=ls.length:=by omega
   have e:(ls.take (i + 1)).map encL=ls.map encL:=by rw [hi',List.take_length]
   refine j0s rfl (j08 (j4v (j08 rfl (j08 rfl (j08 (j0E rfl hln.symm (j2r _ 4)) j0n)))) j0n) rfl ?_
   rw [j9b,j6T (by omega),← e]
theorem j7R (l:Lv):∀ v,LvP l v→Pf C1 84 [v] [encL l]:=by
 induction l using Lv.ind with
 |_ k nn ls ih =>
 intro v h
 obtain ⟨_,_,_,b,z,xs,⟨rfl,rfl,rfl⟩,rfl,hz,hxs,hlen,hbd⟩:=h.open
 have hm:=jjH k ls ih b z xs hz hxs hbd
 rw [j9b] at hm ⊢
 obtain ⟨b2,z2,x2,he⟩:∃ b z xs,j7j ls = .sl b z xs:=by cases ls <;> exact ⟨_,_,_,rfl⟩
 rw [he] at hm ⊢
 refine j00 Tryz.func84 rfl rfl rfl ?_
 repeat' ((conv=>whnf);first|apply gO|refine j04 rfl ?_|refine j01 hm rfl rfl ?_)
 all_goals (try (conv=>whnf))
 rfl
theorem jgD (k:Int) (ls:List Lv) (b:Bool) (z:Nat) (xs:List PV) (hz:z=3∨xs=[]) (hxs:LvsP ls xs) (hbd:ls.length ≤ 3518437208780):Pf C1 50 [iv k,.sl b z xs] [encL (.mk k 0 ls)] :=
 jjH k ls (fun l _ v hv=>j7R l v hv) b z xs hz hxs hbd
theorem j6E (l:Lv) (v:PV) (h:LvP l v) (b:Bool) (z:Nat) (hz:z=3):Pf C1 49 [.sl b z [v]] [encL l]:=by
 have hc:=j7R l v h
 obtain ⟨k2,n2,b2,z2,x2,he⟩:=j0y l
 rw [he] at hc ⊢
 subst hz
 obtain ⟨k1,n1,l1,b1,z1,x1,rfl,rfl,hz1,hxs1,hlen1,hbd1⟩:=h.open
 refine j00 Tryz.func49 rfl rfl rfl ?_
 repeat' ((conv=>whnf);first|apply gT|apply gF|apply gO|apply gQ|refine j04 rfl ?_|refine j01 hc rfl rfl ?_|refine VIdx.mk _ rfl ?_)
 all_goals (try (conv=>whnf))
 rfl
mutual
def encT:Tm→PV
 | .mk k n s ls ts=>.ag [iv k,iv n,sv s,j7j ls,match ts with
  |[]=>.sl true 0 []
  |t :: r=>.sl false 5 (jdW (t :: r))]
def jdW:List Tm→List PV
 |[]=>[]
 |t :: r=>encT t :: jdW r
end
def j6Q (ts:List Tm):PV:=match ts with
 |[]=>.sl true 0 []
 |t :: r=>.sl false 5 (jdW (t :: r))
theorem jh8:∀ ts:List Tm,jdW ts=ts.map encT
 |[]=>rfl
 |t :: r=>by rw [jdW,jh8 r]; rfl
theorem j2q (k n:Int) (s:List UInt8) (ls:List Lv) (ts:List Tm):encT (.mk k n s ls ts) = .ag [iv k,iv n,sv s,j7j ls,j6Q ts]:=by cases ts <;> simp [encT,j6Q]
theorem j2f {ts:List Tm} (h:0 < ts.length):j6Q ts = .sl false 5 (ts.map encT):=by
 cases ts with
 |nil=>simp at h
 |cons l r=>simp only [j6Q,jh8]
theorem j7M (ls:List Lv):∃ b z xs,j7j ls = .sl b z xs:=by cases ls <;> exact ⟨_,_,_,rfl⟩
theorem j7V (ls:List Tm):∃ b z xs,j6Q ls = .sl b z xs:=by cases ls <;> exact ⟨_,_,_,rfl⟩
theorem j0a (t:Tm):∃ k n s b z xs c y ys,encT t = .ag [iv k,iv n,sv s,.sl b z xs,.sl c y ys]:=by
 obtain ⟨k,n,s,ls,ts⟩:=t
 obtain ⟨b,z,xs,h1⟩:=j7M ls
 obtain ⟨c,y,ys,h2⟩:=j7V ts
 rw [j2q,h1,h2]
 exact ⟨_,_,_,_,_,_,_,_,_,rfl⟩
theorem jkk (t:Tm) (n:Nat):pur (n + 2) (encT t)=true:=by
 obtain ⟨k,nn,s,b,z,xs,c,y,ys,h⟩:=j0a t
 rw [h]
 rfl
theorem j0I (ts:List Tm) (n:Nat):(ts.map encT).all (pur (n + 2))=true:=by
 rw [List.all_eq_true]
 intro x hx
 obtain ⟨l,_,rfl⟩:=List.mem_map.1 hx
 exact jkk l n
theorem jg6 {ls:List Lv} {xs:List PV} (h:LvsP ls xs):∃ b z xs',j7j ls = .sl b z xs'∧(z=3∨xs'=[])∧LvsP ls xs':=by
 cases ls with
 |nil=>exact ⟨_,_,_,rfl,.inr rfl,by simp only [LvsP]⟩
 |cons l r=>exact ⟨_,_,_,rfl,.inl rfl,jco _ _ h⟩
mutual
theorem jcz:∀ (t:Tm) (v:PV),TmP t v→TmP t (encT t)
 | .mk k n s ls ts,v,h=>by
  simp only [TmP] at h
  obtain ⟨b,z,xs,c,y,ys,rfl,hz,hxs,hb,hy,hys,hc,hs,hn⟩:=h
  obtain ⟨b1,z1,xs1,e1,e2,e3⟩:=jg6 hxs
  have:=jh6 ts ys hys
  rw [j2q,e1]
  cases ts with
  |nil=>simp only [j6Q,TmP,TmsP]; exact ⟨_,_,_,_,_,_,rfl,e2,e3,hb,.inr rfl,rfl,hc,hs,hn⟩
  |cons t r=>simp only [j6Q,TmP]; exact ⟨_,_,_,_,_,_,rfl,e2,e3,hb,.inl rfl,this,hc,hs,hn⟩
theorem jh6:∀ (ts:List Tm) (xs:List PV),TmsP ts xs→TmsP ts (jdW ts)
 |[],_,_=>by simp only [jdW,TmsP]
 |t :: r,xs,h=>by
  simp only [TmsP] at h
  obtain ⟨v,xs',rfl,h1,h2⟩:=h
  simp only [jdW,TmsP]
  exact ⟨_,_,rfl,jcz t v h1,jh6 r xs' h2⟩
end
-- the second loop of term.fresh: $1: the store's things ahead, but for what is made; $2: a slice of levels that is made; $3: numbers: the row's; $4, $5, $6: what they refer to
theorem j2B (t:Tm):∀ v,TmP t v→Pf C1 94 [v] [encT t]:=by
 induction t using Tm.ind with
 |_ k nn s ls ts ih =>
 intro v h
 obtain ⟨_,_,_,_,_,b,z,xs,c,y,ys,⟨rfl,rfl,rfl,rfl,rfl⟩,rfl,hz,hxs,hlen,hbd,hy,hys,hlen2,hbd2,hsl⟩:=h.open
 rw [j2q]
 refine j00 Tryz.func94 rfl rfl rfl ?_
 repeat' ((conv=>whnf);first|refine VOk.mk rfl ?_)
 all_goals (try (conv=>whnf))
 refine j09 (G:=Nat) (fun i=>[(18,iv i)]) (fun i=>match i with
   |0=>[.box 25 [iv k,iv nn,sv s,.sl b z xs,.sl c y ys],.box 25 zTm,.box 25 [iv k,iv nn,sv s,.sl true 0 [],.sl true 0 []]]
   |n + 1=>[.box 25 [iv k,iv nn,sv s,.sl b z xs,.sl c y ys],.box 25 zTm,.box 25 [iv k,iv nn,sv s,.ms 4 (n + 1),.sl true 0 []],.dead,.row false 38 3 ((ls.take (n + 1)).map encL)]) (fun i=>i ≤ ls.length) (fun i=>ls.length - i) 0 (by omega) rfl rfl ?_
 intro i hi
 have hround:∀ (hi':i < ls.length),∃ lc,ls[i]? = some lc∧∃ v,xs[i]? = some v∧LvP lc v∧Pf C1 49 [.sl true 3 [v]] [encL lc]:=fun hi'=>by
  obtain ⟨lc,hlc⟩:∃ lc,ls[i]? = some lc:=⟨_,List.getElem?_eq_getElem hi'⟩
  obtain ⟨v,hv,hl⟩:=hxs.at hlc
  exact ⟨lc,hlc,v,hv,hl,j6E lc v hl true 3 rfl⟩
 cases i with
 |zero =>
  repeat' ((conv=>whnf);first|apply gE<;>intro h|apply gQ)
  all_goals (try (conv=>whnf))
  ·obtain ⟨lc,hlc,v,hv,hl,hpl⟩:=hround (by omega)
   have e:(ls.take (0 + 1)).map encL=[encL lc]:=by rw [take_snoc' hlc]; rfl
   obtain ⟨k2,n2,b2,z2,x2,he⟩:=j0y lc
   rw [he] at hpl e
   obtain ⟨k1,n1,l1,b1,z1,x1,rfl,rfl,hz1,hxs1,hlen1,hbd1⟩:=hl.open
   refine VIdx.mk _ hv (VOk.mk (j07 rfl hz) ?_)
   repeat' ((conv=>whnf);first|apply gO|apply gP|refine gV ?_|refine j05 hpl (fun _=>?_)|apply gK)
   all_goals (try (conv=>whnf))
   exact VAgain.mk _ rfl _ (j1b (.cons (j06 rfl rfl) (.cons (j06 rfl rfl) (.cons (j06 rfl rfl) (.cons (j06 rfl rfl) (.cons (j0e rfl) .nil))))) (.cons (j06 rfl rfl) (.cons (j06 rfl rfl) (.cons (j06 rfl rfl) (.cons j0o (.cons (j0e rfl) .nil))))) rfl rfl rfl rfl rfl) ⟨1,by omega,by omega,congrArg (fun t=>(⟨_,[.box _ [iv k,iv nn,sv s,.sl b z xs,.sl c y ys],.box _ zTm,.box _ [iv k,iv nn,sv s,.ms 4 1,.sl true 0 []],.dead,.row false _ 3 t]⟩:AS)) e.symm⟩
  ·obtain rfl:ls=[]:=List.eq_nil_of_length_eq_zero (by omega)
   refine j09 (G:=Nat) (fun j=>[(34,iv j)]) (fun j=>match j with
     |0=>[.box 25 [iv k,iv nn,sv s,.sl b z xs,.sl c y ys],.box 25 zTm,.box 25 [iv k,iv nn,sv s,.sl true 0 [],.sl true 0 []]]
     |n + 1=>[.box 25 [iv k,iv nn,sv s,.sl b z xs,.sl c y ys],.box 25 zTm,.box 25 [iv k,iv nn,sv s,.sl true 0 [],.ms 4 (n + 1)],.dead,.row false 25 5 ((ts.take (n + 1)).map encT)]) (fun j=>j ≤ ts.length) (fun j=>ts.length - j) 0 (by omega) rfl rfl ?_
   intro j hj
   have hround2:∀ (hj':j < ts.length),∃ lc,ts[j]? = some lc∧∃ v,ys[j]? = some v∧TmP lc v∧Pf C1 94 [v] [encT lc]:=fun hj'=>by
    obtain ⟨lc,hlc⟩:∃ lc,ts[j]? = some lc:=⟨_,List.getElem?_eq_getElem hj'⟩
    obtain ⟨v,hv,hl⟩:=hys.at hlc
    exact ⟨lc,hlc,v,hv,hl,ih _ (List.mem_of_getElem? hlc) _ hl⟩
   cases j with
   |zero =>
    repeat' ((conv=>whnf);first|apply gE<;>intro h|apply gO|apply gQ|refine j04 rfl ?_)
    all_goals (try (conv=>whnf))
    ·obtain ⟨lc,hlc,v,hv,hl,hpl⟩:=hround2 (by omega)
     have e2:(ts.take (0 + 1)).map encT=[encT lc]:=by rw [take_snoc' hlc]; rfl
     obtain ⟨k2,n2,s2,b2,z2,x2,c2,y2,w2,he⟩:=j0a lc
     rw [he] at hpl e2
     obtain ⟨k1,n1,s1,l1,t1,b1,z1,x1,c1,y1,ys1,rfl,rfl,hz1,hxs1,hlen1,hbd1,hy1,hys1,hlen21,hbd21,hsl1⟩:=hl.open
     refine VIdx.mk _ hv (VOk.mk (j07 rfl hy) ?_)
     repeat' ((conv=>whnf);first|apply gO|apply gP|refine gV ?_|refine j05 hpl (fun _=>?_)|apply gK)
     all_goals (try (conv=>whnf))
     exact VAgain.mk _ rfl _ (j1b (.cons (j06 rfl rfl) (.cons (j06 rfl rfl) (.cons (j06 rfl rfl) ( (.cons (j06 rfl rfl) (.cons (j0e rfl) .nil)))))) (.cons (j06 rfl rfl) (.cons (j06 rfl rfl) (.cons (j06 rfl rfl) ( (.cons j0o (.cons (j0e rfl) .nil)))))) rfl rfl rfl rfl rfl) ⟨1,by omega,by omega,congrArg (fun t=>(⟨_,[.box _ [iv k,iv nn,sv s,.sl b z xs,.sl c y ys],.box _ zTm,.box _ [iv k,iv nn,sv s,.sl true 0 [],.ms 4 1],.dead,.row false _ 5 t]⟩:AS)) e2.symm⟩
    ·obtain rfl:ts=[]:=List.eq_nil_of_length_eq_zero (by omega)
     rfl
   |succ j =>
    have hlm:((ts.take (j + 1)).map encT).length=j + 1:=by simp; omega
    repeat' ((conv=>whnf);first|apply gE<;>intro h|apply gO|apply gQ)
    all_goals (try (conv=>whnf))
    ·obtain ⟨lc,hlc,v,hv,hl,hpl⟩:=hround2 (by omega)
     have e2:(ts.take (j + 1 + 1)).map encT=(ts.take (j + 1)).map encT ++ [encT lc]:=by rw [take_snoc' hlc]; simp
     have hq8:((ts.take (j + 1)).map encT ++ [encT lc]).all (pur 8)=true:=e2 ▸ j0I _ 6
     obtain ⟨k2,n2,s2,b2,z2,x2,c2,y2,w2,he⟩:=j0a lc
     rw [he] at hpl e2 hq8
     obtain ⟨k1,n1,s1,l1,t1,b1,z1,x1,c1,y1,ys1,rfl,rfl,hz1,hxs1,hlen1,hbd1,hy1,hys1,hlen21,hbd21,hsl1⟩:=hl.open
     refine VIdx.mk _ hv (VOk.mk (j07 rfl hy) ?_)
     repeat' ((conv=>whnf);first|apply gO|apply gP|refine gV ?_|refine j05 hpl (fun _=>?_)|refine VOk.mk (j1i (w:=80) (r:=140737488355328) hlm rfl rfl rfl rfl (by simp only [List.length_cons,List.length_nil]; omega) (by simp only [List.length_cons,List.length_nil]; omega)) ?_|apply gK)
     all_goals (try (conv=>whnf))
     exact VAgain.mk _ rfl _ (j1b (.cons (j06 rfl rfl) (.cons (j06 rfl rfl) (.cons (j06 rfl rfl) ( (.cons j0o (.cons (j0e hq8) (.cons (j06 rfl rfl) .nil))))))) (.cons (j06 rfl rfl) (.cons (j06 rfl rfl) (.cons (j06 rfl rfl) ( (.cons j0o (.cons (j0e hq8) .nil)))))) rfl rfl rfl rfl rfl) ⟨j + 1 + 1,by omega,by omega,congrArg (fun t=>(⟨_,[.box _ [iv k,iv nn,sv s,.sl b z xs,.sl c y ys],.box _ zTm,.box _ [iv k,iv nn,sv s,.sl true 0 [],.ms 4 (j + 1 + 1)],.dead,.row false _ 5 t]⟩:AS)) e2.symm⟩
    ·have hj':j + 1=ts.length:=by omega
     have e2:(ts.take (j + 1)).map encT=ts.map encT:=by rw [hj',List.take_length]
     (refine j0s rfl (j08 (j4v (j08 rfl (j08 rfl (j08 rfl (j08 rfl (j08 (j0E rfl hlm.symm (j0I _ 4)) j0n)))))) j0n) rfl ?_; rw [j2f (by omega),← e2]; rfl)
 |succ i =>
  have hln:((ls.take (i + 1)).map encL).length=i + 1:=by simp; omega
  repeat' ((conv=>whnf);first|apply gE<;>intro h|apply gQ)
  all_goals (try (conv=>whnf))
  ·obtain ⟨lc,hlc,v,hv,hl,hpl⟩:=hround (by omega)
   have e:(ls.take (i + 1 + 1)).map encL=(ls.take (i + 1)).map encL ++ [encL lc]:=by rw [take_snoc' hlc]; simp
   have hp8:((ls.take (i + 1)).map encL ++ [encL lc]).all (pur 8)=true:=e ▸ j2r _ 6
   obtain ⟨k2,n2,b2,z2,x2,he⟩:=j0y lc
   rw [he] at hpl e hp8
   obtain ⟨k1,n1,l1,b1,z1,x1,rfl,rfl,hz1,hxs1,hlen1,hbd1⟩:=hl.open
   refine VIdx.mk _ hv (VOk.mk (j07 rfl hz) ?_)
   repeat' ((conv=>whnf);first|apply gO|apply gP|refine gV ?_|refine j05 hpl (fun _=>?_)|refine VOk.mk (j1i (w:=40) (r:=140737488355328) hln rfl rfl rfl rfl (by simp only [List.length_cons,List.length_nil]; omega) (by simp only [List.length_cons,List.length_nil]; omega)) ?_|apply gK)
   all_goals (try (conv=>whnf))
   exact VAgain.mk _ rfl _ (j1b (.cons (j06 rfl rfl) (.cons (j06 rfl rfl) (.cons (j06 rfl rfl) (.cons j0o (.cons (j0e hp8) (.cons (j06 rfl rfl) .nil)))))) (.cons (j06 rfl rfl) (.cons (j06 rfl rfl) (.cons (j06 rfl rfl) (.cons j0o (.cons (j0e hp8) .nil))))) rfl rfl rfl rfl rfl) ⟨i + 1 + 1,by omega,by omega,congrArg (fun t=>(⟨_,[.box _ [iv k,iv nn,sv s,.sl b z xs,.sl c y ys],.box _ zTm,.box _ [iv k,iv nn,sv s,.ms 4 (i + 1 + 1),.sl true 0 []],.dead,.row false _ 3 t]⟩:AS)) e.symm⟩
  ·have hi':i + 1=ls.length:=by omega
   have e:(ls.take (i + 1)).map encL=ls.map encL:=by rw [hi',List.take_length]
   have hlv:j7j ls = .sl false 3 ((ls.take (i + 1)).map encL):=by rw [j6T (by omega),e]
   have hpu:((ls.take (i + 1)).map encL).all (pur 8)=true:=j2r _ 6
   have hpu6:((ls.take (i + 1)).map encL).all (pur 6)=true:=j2r _ 4
   rw [hlv]
   refine j09 (G:=Nat) (fun j=>[(34,iv j)]) (fun j=>match j with
     |0=>[.box 25 [iv k,iv nn,sv s,.sl b z xs,.sl c y ys],.box 25 zTm,.box 25 [iv k,iv nn,sv s,.ms 4 (i + 1),.sl true 0 []],.dead,.row false 38 3 ((ls.take (i + 1)).map encL)]
     |n + 1=>[.box 25 [iv k,iv nn,sv s,.sl b z xs,.sl c y ys],.box 25 zTm,.box 25 [iv k,iv nn,sv s,.ms 4 (i + 1),.ms 6 (n + 1)],.dead,.row false 38 3 ((ls.take (i + 1)).map encL),.dead,.row false 25 5 ((ts.take (n + 1)).map encT)]) (fun j=>j ≤ ts.length) (fun j=>ts.length - j) 0 (by omega) rfl rfl ?_
   intro j hj
   have hround2:∀ (hj':j < ts.length),∃ lc,ts[j]? = some lc∧∃ v,ys[j]? = some v∧TmP lc v∧Pf C1 94 [v] [encT lc]:=fun hj'=>by
    obtain ⟨lc,hlc⟩:∃ lc,ts[j]? = some lc:=⟨_,List.getElem?_eq_getElem hj'⟩
    obtain ⟨v,hv,hl⟩:=hys.at hlc
    exact ⟨lc,hlc,v,hv,hl,ih _ (List.mem_of_getElem? hlc) _ hl⟩
   cases j with
   |zero =>
    repeat' ((conv=>whnf);first|apply gE<;>intro h|apply gO|apply gQ)
    all_goals (try (conv=>whnf))
    ·obtain ⟨lc,hlc,v,hv,hl,hpl⟩:=hround2 (by omega)
     have e2:(ts.take (0 + 1)).map encT=[encT lc]:=by rw [take_snoc' hlc]; rfl
     obtain ⟨k2,n2,s2,b2,z2,x2,c2,y2,w2,he⟩:=j0a lc
     rw [he] at hpl e2
     obtain ⟨k1,n1,s1,l1,t1,b1,z1,x1,c1,y1,ys1,rfl,rfl,hz1,hxs1,hlen1,hbd1,hy1,hys1,hlen21,hbd21,hsl1⟩:=hl.open
     refine VIdx.mk _ hv (VOk.mk (j07 rfl hy) ?_)
     repeat' ((conv=>whnf);first|apply gO|apply gP|refine gV ?_|refine j05 hpl (fun _=>?_)|apply gK)
     all_goals (try (conv=>whnf))
     exact VAgain.mk _ rfl _ (j1b (.cons (j06 rfl rfl) (.cons (j06 rfl rfl) (.cons (j06 rfl rfl) (.cons j0o (.cons (j0e hpu) (.cons (j06 rfl rfl) (.cons (j0e rfl) .nil))))))) (.cons (j06 rfl rfl) (.cons (j06 rfl rfl) (.cons (j06 rfl rfl) (.cons j0o (.cons (j0e hpu) (.cons j0o (.cons (j0e rfl) .nil))))))) rfl rfl rfl rfl rfl) ⟨1,by omega,by omega,congrArg (fun t=>(⟨_,[.box _ [iv k,iv nn,sv s,.sl b z xs,.sl c y ys],.box _ zTm,.box _ [iv k,iv nn,sv s,.ms 4 (i + 1),.ms 6 1],.dead,.row false 38 3 ((ls.take (i + 1)).map encL),.dead,.row false _ 5 t]⟩:AS)) e2.symm⟩
    ·obtain rfl:ts=[]:=List.eq_nil_of_length_eq_zero (by omega)
     (refine j0s rfl (j08 (j4v (j08 rfl (j08 rfl (j08 rfl (j08 (j0E rfl hln.symm hpu6) (j08 rfl j0n)))))) j0n) rfl ?_; rfl)
   |succ j =>
    have hlm:((ts.take (j + 1)).map encT).length=j + 1:=by simp; omega
    repeat' ((conv=>whnf);first|apply gE<;>intro h|apply gO|apply gQ)
    all_goals (try (conv=>whnf))
    ·obtain ⟨lc,hlc,v,hv,hl,hpl⟩:=hround2 (by omega)
     have e2:(ts.take (j + 1 + 1)).map encT=(ts.take (j + 1)).map encT ++ [encT lc]:=by rw [take_snoc' hlc]; simp
     have hq8:((ts.take (j + 1)).map encT ++ [encT lc]).all (pur 8)=true:=e2 ▸ j0I _ 6
     obtain ⟨k2,n2,s2,b2,z2,x2,c2,y2,w2,he⟩:=j0a lc
     rw [he] at hpl e2 hq8
     obtain ⟨k1,n1,s1,l1,t1,b1,z1,x1,c1,y1,ys1,rfl,rfl,hz1,hxs1,hlen1,hbd1,hy1,hys1,hlen21,hbd21,hsl1⟩:=hl.open
     refine VIdx.mk _ hv (VOk.mk (j07 rfl hy) ?_)
     repeat' ((conv=>whnf);first|apply gO|apply gP|refine gV ?_|refine j05 hpl (fun _=>?_)|refine VOk.mk (j1i (w:=80) (r:=140737488355328) hlm rfl rfl rfl rfl (by simp only [List.length_cons,List.length_nil]; omega) (by simp only [List.length_cons,List.length_nil]; omega)) ?_|apply gK)
     all_goals (try (conv=>whnf))
     exact VAgain.mk _ rfl _ (j1b (.cons (j06 rfl rfl) (.cons (j06 rfl rfl) (.cons (j06 rfl rfl) (.cons j0o (.cons (j0e hpu) (.cons j0o (.cons (j0e hq8) (.cons (j06 rfl rfl) .nil)))))))) (.cons (j06 rfl rfl) (.cons (j06 rfl rfl) (.cons (j06 rfl rfl) (.cons j0o (.cons (j0e hpu) (.cons j0o (.cons (j0e hq8) .nil))))))) rfl rfl rfl rfl rfl) ⟨j + 1 + 1,by omega,by omega,congrArg (fun t=>(⟨_,[.box _ [iv k,iv nn,sv s,.sl b z xs,.sl c y ys],.box _ zTm,.box _ [iv k,iv nn,sv s,.ms 4 (i + 1),.ms 6 (j + 1 + 1)],.dead,.row false 38 3 ((ls.take (i + 1)).map encL),.dead,.row false _ 5 t]⟩:AS)) e2.symm⟩
    ·have hj':j + 1=ts.length:=by omega
     have e2:(ts.take (j + 1)).map encT=ts.map encT:=by rw [hj',List.take_length]
     (refine j0s rfl (j08 (j4v (j08 rfl (j08 rfl (j08 rfl (j08 (j0E rfl hln.symm hpu6) (j08 (j0E rfl hlm.symm (j0I _ 4)) j0n)))))) j0n) rfl ?_; rw [j2f (by omega),← e2]; try rfl)
open Go Go.Am Go.Gw
end Go.Proofs.YtljnahbgfmflaaaGreatDoor
