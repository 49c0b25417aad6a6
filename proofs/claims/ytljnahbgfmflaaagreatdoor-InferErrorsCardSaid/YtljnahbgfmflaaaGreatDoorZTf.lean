/-
  The iterator of strings.SplitSeq in the plain machine, its store written out. No statement of the seat.
-/
import Derived.Test.YtljnahbgfmflaaaGreatDoorZPs
import Derived.Test.YtljnahbgfmflaaaGreatDoorZPm
set_option linter.unusedVariables false
set_option maxHeartbeats 2000000
set_option maxRecDepth 100000
set_option linter.unusedSimpArgs false
set_option linter.unnecessarySimpa false
namespace Go.Proofs.YtljnahbgfmflaaaGreatDoor
open Go Go.Am Go.Gw
theorem jcn:∀ (g acc:List UInt8),(Lib.indexByte g 46 = -1∧j2s acc g=[acc.reverse ++ g])∨(∃ i:Nat,Lib.indexByte g 46=i∧i < g.length∧j2s acc g=(acc.reverse ++ g.take i) :: j2s [] (g.drop (i + 1)))
 |[],acc=>.inl ⟨rfl,by simp [j2s]⟩
 |c :: r,acc=>by
  by_cases hc:(c == 46)=true
  ·refine .inr ⟨0,?_,by simp,?_⟩
   ·rw [Lib.indexByte,if_pos hc]; try rfl
   ·rw [j2s,if_pos hc]; simp
  ·rcases jcn r (c :: acc) with ⟨h1,h2⟩|⟨i,h1,h2,h3⟩
   ·refine .inl ⟨?_,?_⟩
    ·rw [Lib.indexByte,if_neg hc,h1]; try rfl
    ·rw [j2s,if_neg hc,h2]; simp
   ·refine .inr ⟨i + 1,?_,by simp; omega,?_⟩
    ·rw [Lib.indexByte,if_neg hc,h1,if_neg (by first|omega|simp)]; try rfl
    ·rw [j2s,if_neg hc,h3]; simp
theorem jgo (g:List UInt8):(Lib.indexByte g 46 = -1∧j3U g=[g])∨(∃ i:Nat,Lib.indexByte g 46=i∧i < g.length∧j3U g=g.take i :: j3U (g.drop (i + 1))):=by
 simpa [j3U] using jcn g []
def lpS (s:List UInt8) (v5 v6:Value) (a b:Code) (x:LpS):SO:=.lp [(8,.fn 270 [] [.bp 1 0,.bp 2 0,.bp 3 0]),(7,sv s),(6,.sc v6),(5,.sc v5),(4,sv s),(2,.bp 4 0),(0,sv s)] [9] a b x
def jnM (s:List UInt8) (v5 v6:Value) (a b:Code):Prop:=∀ (g p:List UInt8),FindsY C1 [.yl 0,sv p] [lpS s v5 v6 a b .ready,.box 9 [sv [46]],.box 9 [sv g],.box 3 [iv 0],.box 4 [bv false]] fun r st =>
 r = .ret [bv (j5G p)]∧st=[lpS s v5 v6 a b (if j5G p=true then .ready else .done none),.box 9 [sv [46]],.box 9 [sv g],.box 3 [iv 0],.box 4 [bv false]]
theorem jbh {s:List UInt8} {v5 v6:Value} {a b:Code} (hY:jnM s v5 v6 a b) (g p:List UInt8) {K:AR→Prop}
  (k:K (.val (bv (j5G p)) [lpS s v5 v6 a b (if j5G p=true then .ready else .done none),.box 9 [sv [46]],.box 9 [sv g],.box 3 [iv 0],.box 4 [bv false]])) :
  VYield C1 0 [sv p] [lpS s v5 v6 a b .ready,.box 9 [sv [46]],.box 9 [sv g],.box 3 [iv 0],.box 4 [bv false]] K:=by
 refine jo2 rfl rfl rfl rfl rfl (j9a (hY g p) ?_)
 rintro _ _ ⟨rfl,rfl⟩
 exact j1K rfl k
theorem jmZ (s:List UInt8) (hs:s.length ≤ 140737488355328) (v5 v6:Value) (a b:Code) (hY:jnM s v5 v6 a b):Finds C1 270 [.yl 0,.bp 1 0,.bp 2 0,.bp 3 0] [lpS s v5 v6 a b .ready,.box 9 [sv [46]],.box 9 [sv s],.box 3 [iv 0],.box 4 [bv false]] fun r st =>
  r = .ret []∧∃ g,st=[lpS s v5 v6 a b (if (j3U s).all j5G=true then .ready else .done none),.box 9 [sv [46]],.box 9 [sv g],.box 3 [iv 0],.box 4 [bv false]]:=by
 refine j00 Tryz.func270 rfl rfl rfl ?_
 repeat' ((conv=>whnf);first|refine VIf.ff rfl ?_)
 all_goals (try (conv=>whnf))
 refine j09 (G:=List UInt8) (fun _=>[]) (fun g=>[_,.box 9 [sv [46]],.box 9 [sv g],.box 3 [iv 0],.box 4 [bv false]]) (fun g=>g.length ≤ s.length∧(j3U g).all j5G=(j3U s).all j5G) (fun g=>g.length) s ⟨by omega,rfl⟩ rfl rfl ?_
 rintro g ⟨hg,hall⟩
 have hix:=jkE g
 repeat' ((conv=>whnf);first|apply gE<;>intro h|refine j01 hix rfl rfl ?_)
 all_goals (try (conv=>whnf))
 ·refine jbh hY g g ?_
  repeat' ((conv=>whnf);first|refine j03 rfl rfl ?_)
  all_goals (try (conv=>whnf))
  have e:j5G g=(j3U s).all j5G:=by
   rcases jgo g with ⟨h1,h2⟩|⟨i,h1,_⟩
   ·rw [← hall,h2]
    simp
   ·omega
  refine ⟨rfl,g,?_⟩
  rw [← e]
  rfl
 ·obtain ⟨i,h1,h2,h3⟩:∃ i:Nat,Lib.indexByte g 46=i∧i < g.length∧j3U g=g.take i :: j3U (g.drop (i + 1)):=(jgo g).resolve_left (fun e=>by omega)
  rw [h1] at hix
  rw [h1]
  have hs1:=jmq g i (by omega)
  have hs2:=jm4 g (i + 1) (by omega)
  refine VArith.fits (by unfold i64; omega) ?_
  rw [Int.add_zero]
  repeat' ((conv=>whnf);first|refine VRes.mk _ hs1 ?_)
  all_goals (try (conv=>whnf))
  refine jbh hY g (g.take i) ?_
  repeat' ((conv=>whnf);first|apply gN|apply gM<;>intro h|refine j03 rfl rfl ?_)
  all_goals (try (conv=>whnf))
  ·refine VArith.fits (by
    show i64 ((i:Int) + ((1:Nat):Int))
    unfold i64
    omega) ?_
   repeat' ((conv=>whnf);first|apply gO|refine VRes.mk _ hs2 ?_)
   all_goals (try (conv=>whnf))
   refine VAgain.mk _ rfl _ (j0V rfl) ⟨g.drop (i + 1),⟨by simp; omega,?_⟩,by simp; omega,by rw [if_pos h]; rfl⟩
   rw [← hall,h3,List.all_cons,h]
   rfl
  ·have e:(j3U s).all j5G=false:=by
    rw [← hall,h3,List.all_cons,h]
    rfl
   refine ⟨rfl,g,?_⟩
   rw [e,if_neg (by rw [h]; exact Bool.false_ne_true)]
   rfl
open Go Go.Am Go.Gw
theorem j2M (s:List UInt8) (hs:s.length ≤ 140737488355328):Pf C1 175 [sv s] [bv (j2G s)]:=by
 refine j00 Tryz.func175 rfl rfl rfl ?_
 repeat' ((conv=>whnf);first|apply gE<;>intro h|apply gO|refine j04 rfl ?_)
 all_goals (try (conv=>whnf))
 ·have:¬ s.length ≤ 40:=by simp [j2H] at *; omega
  rw [j2G,decide_eq_false this]
  rfl
 ·have h40:s.length ≤ 40:=by simp [j2H] at *; omega
  refine j1l rfl (Finds.mono (jdb s) ?_)
  rintro _ _ ⟨rfl,rfl⟩
  refine ⟨rfl,j1K rfl ?_⟩
  skip
  all_goals (try (conv=>whnf))
  refine j0A rfl rfl rfl rfl rfl rfl (Finds.mono (jmZ s hs _ _ _ _ ?_) ?_)
  ·intro g p
   have hpt:=jml p
   refine j9u rfl rfl ?_
   repeat' ((conv=>whnf);first|apply gN|apply gM<;>intro h|apply gO|refine j01 hpt rfl rfl ?_)
   all_goals (try (conv=>whnf))
   ·exact ⟨by rw [h],by rw [if_pos h]; rfl⟩
   ·exact ⟨by rw [h],by rw [if_neg (by rw [h]; exact Bool.false_ne_true)]; rfl⟩
  ·rintro _ _ ⟨rfl,g,rfl⟩
   refine j1K rfl ?_
   by_cases hpp:(j3U s).all j5G=true
   ·have hnm:j2G s=true:=by rw [j2G,decide_eq_true h40,hpp]; rfl
    rw [if_pos hpp]
    repeat' ((conv=>whnf);first|apply gO|refine j04 rfl ?_)
    all_goals (try (conv=>whnf))
    rw [hnm]
   ·have hnm:j2G s=false:=by rw [j2G,Bool.eq_false_iff.2 hpp,Bool.and_false]
    rw [if_neg hpp]
    repeat' ((conv=>whnf);first|refine j04 rfl ?_)
    all_goals (try (conv=>whnf))
    rw [hnm]
    rfl
def jeY (s:List UInt8):Prop:=s.length ≤ 140737488355328
theorem jnp:NmOk jeY:=fun s hs=>j2M s hs
open Go Go.Am Go.Gw
theorem jf9 (n:Int):Pf C1 141 [iv n] [encT (.mk 1 n [] [] [])]:=by
 refine j00 Tryz.func141 rfl rfl rfl ?_
 repeat' ((conv=>whnf);first|apply gO|refine j04 rfl ?_)
 all_goals (try (conv=>whnf))
 rfl
theorem j4L (t:Tm) (v:PV) (h:TmP t v) (b:Bool) (z:Nat):Pf C1 65 [v,.sl b z []] [encT t]:=by
 have hf:=j2B t v h
 obtain ⟨k2,n2,s2,b2,z2,x2,c2,y2,ys2,he⟩:=j0a t
 obtain ⟨k0,n0,s0,ls0,ts0,b0,z0,xs,c,y,ys,rfl,rfl,hz,hxs,hlen,hbd,hy,hys,hlen2,hbd2,hsl⟩:=h.open
 rw [he] at hf ⊢
 refine j00 Tryz.func65 rfl rfl rfl ?_
 repeat' ((conv=>whnf);first|apply gO|refine j01 hf rfl rfl ?_)
 all_goals (try (conv=>whnf))
 refine j09 (G:=Unit) (fun _=>[]) (fun _=>_) (fun _=>True) (fun _=>0) () trivial rfl rfl ?_
 rintro _ _
 repeat' ((conv=>whnf);first|apply gF|apply gO|refine j04 rfl ?_)
 all_goals (try (conv=>whnf))
 rfl
theorem j6Y (k i d:Int) (hd:d ≤ 4611686018427387904) (hd0:0 ≤ d) (hk:1 ≤ k) (hi:0 ≤ i):Pf C1 228 [iv k,iv i,iv d] [iv (j0m (j0j k) i d)]:=by
 refine j00 Tryz.func228 rfl rfl rfl ?_
 repeat' ((conv=>whnf);first|apply gT|apply gF|refine gA ?_|refine gB ?_|apply gE<;>intro h|refine gV ?_|refine j04 rfl ?_)
 all_goals (try (conv=>whnf))
 all_goals simp_all [j0m,j0j]
 all_goals omega
theorem jpV (l:Lv) (q:Int) (h:0 ≤ q):1 ≤ lnF l q∧lnF l q ≤ q + 1:=by
 have:=jjn l q h
 have:=j8Q l
 omega
theorem j9m (q:Int) (h:0 ≤ q):∀ (ls:List Lv) (acc:Int),acc ≤ lnFs ls acc q
 |[],acc=>by simp [lnFs]
 |l :: r,acc=>by
  rw [lnFs]
  split
  ·have:=j9m q h r (acc + lnF l q)
   have:=jpV l q h
   omega
  ·omega
mutual
theorem joF:∀ (t:Tm) (q:Int),0 ≤ q→1 ≤ useN t q∧useN t q ≤ q + 1
 | .mk _ _ s ls ts,q,h=>by
  rw [useN]
  have:=jgZ ts (lnFs ls (1 + ((s.length / 16:Nat):Int)) q) q h
  have:=j9m q h ls (1 + ((s.length / 16:Nat):Int))
  omega
theorem jgZ:∀ (ts:List Tm) (acc q:Int),0 ≤ q→acc ≤ jkZ ts acc q
 |[],acc,q,h=>by simp [jkZ]
 |t :: r,acc,q,h=>by
  rw [jkZ]
  split
  ·have:=jgZ r (acc + useN t q) q h
   have:=joF t q h
   omega
  ·omega
end
mutual
theorem jkS:∀ (t:Tm) (q:Int),0 ≤ q→1 ≤ refN t q∧refN t q ≤ q + 1
 | .mk _ _ s ls ts,q,h=>by
  rw [refN]
  have:=j8s ts (lnFs ls 1 q) q h
  have:=j9m q h ls 1
  omega
theorem j8s:∀ (ts:List Tm) (acc q:Int),0 ≤ q→acc ≤ jc4 ts acc q
 |[],acc,q,h=>by simp [jc4]
 |t :: r,acc,q,h=>by
  rw [jc4]
  split
  ·have:=j8s r (acc + refN t q) q h
   have:=jkS t q h
   omega
  ·omega
end
open Go Go.Am Go.Gw
def jr2 (op:BinOp) (a b:Int) (K:PV→Prop):Prop:=match op with
 | .lss=>K (bv (decide (a < b)))
 | .gtr=>K (bv (decide (b < a)))
 | .leq=>K (bv (decide (a ≤ b)))
 | .geq=>K (bv (decide (b ≤ a)))
 | .eql=>K (bv (a == b))
 |_=>False
theorem j1R {a b:Bool} (h:a=b):AEnd.ret [bv a]=AEnd.ret [bv b]:=by rw [h]
def letC (c:UInt8):Bool:=decide (97 ≤ c.toNat∧c.toNat ≤ 122∨c.toNat=95)
def digC (c:UInt8):Bool:=decide (48 ≤ c.toNat∧c.toNat ≤ 57)
def rnF:List UInt8→Bool→Bool
 |[],first=>!first
 |c :: r,first=>if c.toNat=46 then (if first then false else rnF r true) else if (letC c || (digC c && !first))=true then rnF r false else false
mutual
def sizT:Tm→Nat
 | .mk _ _ _ ls ts=>1 + j0c ls + j0B ts
def j0B:List Tm→Nat
 |[]=>0
 |t :: r=>sizT t + j0B r
end
theorem j8R (q:Int) (h:0 ≤ q):∀ (ls:List Lv) (acc:Int),0 ≤ acc→(acc + j0c ls ≤ q→lnFs ls acc q=acc + j0c ls)∧(q < acc + j0c ls→q < lnFs ls acc q)
 |[],acc,h0=>by simp [lnFs,j0c]
 |l :: r,acc,h0=>by
  have h1:=jjn l q h
  have h2:=j8Q l
  rw [lnFs,j0c]
  by_cases hq:acc ≤ q
  ·rw [if_pos hq]
   have ih:=j8R q h r (acc + lnF l q) (by omega)
   constructor
   ·intro h3
    rw [ih.1 (by omega)]
    omega
   ·intro h3
    by_cases h4:(j0C l:Int) ≤ q + 1
    ·exact ih.2 (by omega)
    ·have:=j9m q h r (acc + lnF l q)
     omega
  ·rw [if_neg hq]
   omega
mutual
theorem jpe:∀ (t:Tm) (q:Int),0 ≤ q→refN t q=min (sizT t:Int) (q + 1)
 | .mk _ _ s ls ts,q,h=>by
  rw [refN,sizT]
  have h1:=j8R q h ls 1 (by omega)
  have h2:=j9m q h ls 1
  by_cases h3:1 + (j0c ls:Int) ≤ q
  ·have h4:=jgk ts (lnFs ls 1 q) q h (by omega)
   rw [h1.1 h3] at h4 ⊢
   by_cases h5:1 + (j0c ls:Int) + j0B ts ≤ q
   ·rw [h4.1 h5]; omega
   ·have:=h4.2 (by omega); omega
  ·have h4:=h1.2 (by omega)
   have:=j8s ts (lnFs ls 1 q) q h
   omega
theorem jgk:∀ (ts:List Tm) (acc q:Int),0 ≤ q→0 ≤ acc→(acc + j0B ts ≤ q→jc4 ts acc q=acc + j0B ts)∧(q < acc + j0B ts→q < jc4 ts acc q)
 |[],acc,q,h,h0=>by simp [jc4,j0B]
 |t :: r,acc,q,h,h0=>by
  have h1:=jpe t q h
  have h2:1 ≤ refN t q:=(jkS t q h).1
  rw [jc4,j0B]
  by_cases hq:acc ≤ q
  ·rw [if_pos hq]
   have ih:=jgk r (acc + refN t q) q h (by omega)
   constructor
   ·intro h3
    rw [ih.1 (by omega)]
    omega
   ·intro h3
    by_cases h4:(sizT t:Int) ≤ q + 1
    ·exact ih.2 (by omega)
    ·have:=j8s r (acc + refN t q) q h
     omega
  ·rw [if_neg hq]
   omega
end
mutual
theorem jjK:∀ (t:Tm) (left:Int),0 ≤ left→((sizT t:Int) ≤ left→cntT t left=left - sizT t)∧(left < (sizT t:Int)→cntT t left = -1)
 | .mk _ _ s ls ts,left,h=>by
  rw [cntT,sizT]
  have h1:=j7r ls (left - 1) (by omega)
  have hg:=j3G ls (left - 1) (by omega)
  by_cases h3:(j0c ls:Int) ≤ left - 1
  ·rw [h1.1 h3]
   have h4:=jhe ts (left - 1 - j0c ls) (by omega)
   constructor
   ·intro h5
    rw [h4.1 (by omega)]
    omega
   ·intro h5
    by_cases hts:ts=[]
    ·subst hts
     simp only [j0B] at h5
     omega
    ·exact h4.2 (by omega) hts
  ·by_cases h6:left=0
   ·subst h6
    rw [j2V _ _ (by omega),j3P _ _ (by omega)]
    constructor
    ·intro; omega
    ·intro; rfl
   ·have h2:ls ≠ []:=by
     rintro rfl
     simp only [j0c] at h3
     omega
    rw [h1.2 (by omega) h2,j3P _ _ (by omega)]
    constructor
    ·intro; omega
    ·intro; rfl
theorem jhe:∀ (ts:List Tm) (left:Int),-1 ≤ left→((j0B ts:Int) ≤ left→j4j ts left=left - j0B ts)∧(left < (j0B ts:Int)→ts ≠ []→j4j ts left = -1)
 |[],left,h=>by simp [j4j,j0B]
 |t :: r,left,h=>by
  rw [j4j,j0B]
  by_cases h0:left < 0
  ·rw [if_pos h0]
   have:1 ≤ sizT t:=by cases t; simp [sizT]; omega
   constructor
   ·intro; omega
   ·intro; omega
  ·rw [if_neg h0]
   have h1:=jjK t left (by omega)
   by_cases h2:(sizT t:Int) ≤ left
   ·rw [h1.1 h2]
    have ih:=jhe r (left - sizT t) (by omega)
    constructor
    ·intro h3
     rw [ih.1 (by omega)]
     omega
    ·intro h3 _
     by_cases hr:r=[]
     ·subst hr
      simp only [j0B] at h3
      omega
     ·exact ih.2 (by omega) hr
   ·rw [h1.2 (by omega),j3P _ _ (by omega)]
    constructor
    ·intro; omega
    ·intro; simp
end
theorem j1X (t:Tm):j0x t=min (sizT t:Int) 2001:=by
 have:=jjK t 2000 (by omega)
 unfold j0x
 by_cases h:(sizT t:Int) ≤ 2000
 ·rw [this.1 h]; omega
 ·rw [this.2 (by omega)]; omega
def anyT (t:Tm):Bool:=j0L t 4 1125899906842624
open Go Go.Am Go.Gw
mutual
theorem TmP.names:∀ {t:Tm} {v:PV},TmP t v→NmT jeY t
 | .mk k n s ls ts,v,h=>by
  simp only [TmP] at h
  obtain ⟨b,z,xs,c,y,ys,rfl,hz,hxs,hbd,hy,hys,hbd2,hsl,hi⟩:=h
  simp only [NmT]
  exact ⟨hsl,TmsP.names hys⟩
theorem TmsP.names:∀ {ts:List Tm} {xs:List PV},TmsP ts xs→NmTs jeY ts
 |[],xs,h=>by simp only [NmTs]
 |t :: r,xs,h=>by
  simp only [TmsP] at h
  obtain ⟨v,xs',rfl,h1,h2⟩:=h
  simp only [NmTs]
  exact ⟨TmP.names h1,TmsP.names h2⟩
end
theorem j0P (t:Tm) (v:PV) (h:TmP t v) (n kk:Int):Pf C1 76 [v,iv n,iv kk] [bv (j0L t n kk)]:=jiG jnp t v h h.names n kk
theorem j4u (t:Tm) (v:PV) (h:TmP t v):Pf C1 157 [v] [bv (anyT t)]:=by
 have hr:=j0P t v h 4 1125899906842624
 obtain ⟨k,nn,s,ls,ts,b,z,xs,c,y,ys,rfl,rfl,hz,hxs,hlen,hbd,hy,hys,hlen2,hbd2,hsl⟩:=h.open
 refine j00 Tryz.func157 rfl rfl rfl ?_
 repeat' ((conv=>whnf);first|refine j04 rfl ?_|refine j01 hr rfl rfl ?_)
 all_goals (try (conv=>whnf))
 all_goals rfl
theorem jbR (t:Tm) (v:PV) (h:TmP t v):Pf C1 163 [v] [bv (!anyT t)]:=by
 have hr:=j4u t v h
 obtain ⟨k,nn,s,ls,ts,b,z,xs,c,y,ys,rfl,rfl,hz,hxs,hlen,hbd,hy,hys,hlen2,hbd2,hsl⟩:=h.open
 refine j00 Tryz.func163 rfl rfl rfl ?_
 repeat' ((conv=>whnf);first|refine j04 rfl ?_|refine j01 hr rfl rfl ?_)
 all_goals (try (conv=>whnf))
 all_goals rfl
def jlS (k:Int):Bool:=decide (k=6∨k=5)
mutual
def j5M:Tm→Int→Int
 | .mk k n _ _ ts,d=>if k=1 then max (n - d + 1) 0 else j3y ts k 0 d 0
def j3y:List Tm→Int→Int→Int→Int→Int
 |[],_,_,_,acc=>acc
 |t :: r,k,i,d,acc=>j3y r k (i + 1) d (max acc (j5M t (j0m (j0j k) i d)))
end
theorem j2t:∀ {ts:List Tm} {k p kk:Int} {i:Int} {j:Nat} {tc:Tm},j0J ts k i p kk=true→ts[j]? = some tc→allT tc p (j0m (j0j k) (i + j) kk)=true
 |[],k,p,kk,i,j,tc,h,hj=>by simp at hj
 |t :: r,k,p,kk,i,j,tc,h,hj=>by
  simp only [j0J,Bool.and_eq_true] at h
  cases j with
  |zero =>
   simp at hj
   subst hj
   simpa using h.1
  |succ j =>
   have:=j2t h.2 (by simpa using hj:r[j]? = some tc)
   rwa [show i + 1 + (j:Int)=i + ((j + 1:Nat):Int) by omega] at this
theorem j0r {k n:Int} {s:List UInt8} {ls:List Lv} {ts:List Tm} {p kk:Int} (h:allT (.mk k n s ls ts) p kk=true):(1 ≤ k∧k ≤ 7)∧(ts.length:Int)=j0T k∧j2Z (.mk k n s ls ts) kk=true∧j1m ls p=true∧j0J ts k 0 p kk=true:=by
 simpa [allT,and_assoc] using h
theorem j1F (b i d:Int):d ≤ j0m b i d∧j0m b i d ≤ d + 1:=by
 unfold j0m
 split <;> omega
def jqV (t:Tm):Int:=if anyT t=true then j5M t 0 else 0
theorem j2A {t:Tm} (h:anyT t=true):j0x t ≤ 2000∧allT t 4 1125899906842624=true:=by
 simpa [anyT,j0L] using h
theorem j4g {t:Tm} (h:anyT t=true):depT t ≤ 2000:=jdT (j2A h).1
def jpv (kind:Int):Tm→Nat
 | .mk k n s ls ts=>match ts with
  |[a,b]=>if (jlS kind && (anyT (.mk k n s ls [a,b]) && decide (k=kind)))=true then jpv kind b + 1 else 0
  |_=>0
open Go Go.Am Go.Gw
def jnL (kind:Int):Nat→Tm→Option (List Tm × Tm)
 |0,t=>some ([],t)
 |n + 1,.mk k _ _ _ ts=>match ts with
  |[a,b]=>if k=kind then (jnL kind n b).map fun r=>(a :: r.1,r.2) else none
  |_=>none
def jqY (t:Tm) (kind n:Int):Option (List Tm × Tm):=if (anyT t && (jlS kind && decide (0 ≤ n)))=true then jnL kind n.toNat t else none
def tz:Tm:=.mk 0 0 [] [] []
def splitV (o:Option (List Tm × Tm)):List PV:=match o with
 |some (l,b)=>[j6Q l,encT b,bv true]
 |none=>[.sl true 0 [],encT tz,bv false]
open Go Go.Am Go.Gw
def j8f (by_ from_:Int):PV:=.fn 196 [] [.cp [iv from_],.cp [iv by_]]
theorem jdv (by_ from_:Int):Pf C1 160 [iv by_,iv from_] [j8f by_ from_]:=by
 refine j00 Tryz.func160 rfl rfl rfl ?_
 skip
 all_goals (try (conv=>whnf))
 refine j0s rfl rfl rfl ?_
 rfl
def movF (by_ from_:Int) (t:Tm) (d:Int):Option Tm:=if t.kind=1∧¬ t.num < from_ + d then some (.mk 1 (t.num + by_) [] [] []) else none
def putV (o:Option Tm):List PV:=match o with
 |some x=>[encT x,bv true]
 |none=>[encT tz,bv false]
theorem jhH (by_ from_:Int) (t:Tm) (v:PV) (h:TmP t v) (d:Int) (h1:i64 (from_ + d)) (h2:t.kind=1→i64 (t.num + by_)):Pf C1 196 [v,iv d,.cp [iv from_],.cp [iv by_]] (putV (movF by_ from_ t d)):=by
 obtain ⟨k,n,s,ls,ts,b,z,xs,c,y,ys,rfl,rfl,-⟩:=h.open
 simp only [Tm.kind,Tm.num] at h2
 have hv:=jf9 (n + by_)
 refine j00 Tryz.func196 rfl rfl rfl ?_
 repeat' ((conv=>whnf);first|apply gT|apply gN|refine gA ?_|refine gB ?_|apply gE<;>intro h|apply gO|refine j04 rfl ?_|refine VArith.fits h1 ?_|refine VArith.fits (h2 (by omega)) ?_|refine j01 hv rfl rfl ?_)
 all_goals (try (conv=>whnf))
 ·have e:movF by_ from_ (.mk k n s ls ts) d=none:=by
   simp only [movF,Tm.kind,Tm.num]
   exact if_neg (by omega)
  rw [e]
  rfl
 ·have e:movF by_ from_ (.mk k n s ls ts) d=some (.mk 1 (n + by_) [] [] []):=by
   simp only [movF,Tm.kind,Tm.num]
   exact if_pos (by omega)
  rw [e]
  rfl
 ·have e:movF by_ from_ (.mk k n s ls ts) d=none:=by
   simp only [movF,Tm.kind,Tm.num]
   exact if_neg (by omega)
  rw [e]
  rfl
theorem j8p (f:FuncId) (caps:List PV) (hp:caps.all (pur 7)=true) (left:Int) (h0 : -100000 ≤ left) (h1:left ≤ 100000) (t:Tm) (v:PV) (h:TmP t v):Finds C1 227 [.bp 0 0,v] [.box 213 [.fn f [] caps,iv left]] fun r st=>r = .ret [v]∧st=[.box 213 [.fn f [] caps,iv (left - j0x t)]]:=by
 have hn:=j1A t v h
 have hnb:0 ≤ j0x t∧j0x t ≤ 2001:=by rw [j1X]; omega
 obtain ⟨k,n,s,ls,ts,b,z,xs,c,y,ys,rfl,rfl,-⟩:=h.open
 refine j00 Tryz.func227 rfl rfl rfl ?_
 repeat' ((conv=>whnf);first|apply gO|apply gP|refine gV ?_|refine j05 hn (fun _=>?_)|apply gK)
 all_goals (try (conv=>whnf))
 have hpl:∀ x:Int,jcf (.box 213 [.fn f [] caps,iv x]):=fun x=>jjL (by
  show ((true && caps.all (pur 7)) && (true && true))=true
  rw [hp]
  rfl)
 refine j03 rfl ?_ ⟨rfl,rfl⟩
 show (soIn _ (SO.box 213 [.fn f [] caps,iv _]) && true)=true
 rw [(hpl _).2]
 rfl
end Go.Proofs.YtljnahbgfmflaaaGreatDoor
