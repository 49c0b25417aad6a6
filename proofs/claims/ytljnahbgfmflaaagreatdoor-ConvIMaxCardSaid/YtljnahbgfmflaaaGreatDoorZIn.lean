/-
  Terms that are one: same (package conv). No statement of the seat.
-/
import Derived.Test.YtljnahbgfmflaaaGreatDoorZIk
set_option linter.unusedVariables false
set_option maxHeartbeats 8000000
set_option maxRecDepth 100000
set_option linter.unusedSimpArgs false
set_option linter.unnecessarySimpa false
namespace Go.Proofs.YtljnahbgfmflaaaGreatDoor
open Go Go.Am Go.Gw
theorem and3 {q e1 e2:Bool} (a:q=true) (b:e1=true) (c:e2=true):(q && (e1 && e2))=true:=by rw [a,b,c]; rfl
theorem jlB {cs:List PV} {tot:Int} (ht:tot ≤ 1048576) {W:Tm→M Tm} {T:List Tm→Tm→M Tm} (hW:WOk cs tot W) (hT:jat cs tot T) (fW:∀ t,Fine (W t)) (fT:∀ c t,Fine (T c t)) {S:List Tm→Tm→Tm→M Bool} (hS:j4Q cs tot S) (fS:∀ c a b,Fine (S c a b)):j4Q cs tot (jnt W T S):=by
 intro ctx cv hc a av ha sa za b wv hb sb zb l r l' h0 h1 hx
 have hc':=hc
 obtain ⟨b0,z0,xs0,rfl,-⟩:=hc'
 have ha':=ha
 have hb':=hb
 obtain ⟨k1,n1,s1,l1,t1,b1,z1,x1,c1,y1,ys1,-,rfl,-⟩:=ha'.open
 obtain ⟨k2,n2,s2,l2,t2,b2,z2,x2,c2,y2,ys2,-,rfl,-⟩:=hb'.open
 have hst:false=false:=rfl
 unfold jnt at hx
 rcases j0k hx with ⟨e,q1,rfl⟩|⟨u0,la,q1,q2⟩
 ·rcases j1k q1 with ⟨a1,a2,a3⟩|⟨a1,a2,a3⟩
  ·cases a3
  ·cases a3
   subst a2
   have hk:=j8D cs tot l' a1
   show Fr _ _ _ _ _ (.pan (j0c 22)) l'
   refine j00 Tryz.func69 rfl rfl rfl ?_
   repeat' ((conv=>whnf);first|refine j02 hk rfl rfl rfl rfl rfl rfl rfl ?_)
   all_goals (try (conv=>whnf))
   all_goals first|exact ⟨rfl,rfl⟩|(exfalso; omega)|exact absurd ((and3 (by assumption) (by assumption) (by assumption)).symm.trans hst) (by simp)
 rcases j1k q1 with ⟨a1,a2,a3⟩|⟨a1,a2,a3⟩
 rotate_left
 ·cases a3
 subst a2
 have hk:=j6U cs tot l a1 h1 ht
 have hsm:=j8G a _ ha b _ hb
 cases heq:eqTm a b with
 |true =>
  rw [heq] at q2 hsm
  cases q2
  show Fr _ _ _ _ _ (.ret [bv true]) _
  refine j00 Tryz.func69 rfl rfl rfl ?_
  repeat' ((conv=>whnf);first|apply gT|refine j04 rfl rfl ?_|refine j02 hk rfl rfl rfl rfl rfl rfl rfl ?_|refine j01 hsm rfl rfl ?_)
  all_goals (try (conv=>whnf))
  all_goals first|exact ⟨rfl,rfl⟩|(exfalso; omega)|exact absurd ((and3 (by assumption) (by assumption) (by assumption)).symm.trans hst) (by simp)
 |false =>
 rw [heq] at q2 hsm
 have q2:(bnd (jfm S ctx a b) fun ok=>match ok with
  |true=>mok true
  |false=>bnd (W a) fun x=>bnd (W b) fun y=>bnd (j8b S ctx a b x y) fun q=>match q with
   |true=>mok true
   |false=>j4Y W T S ctx x y) (l - 1)=some (r,l'):=q2
 have flz:Fine (jfm S ctx a b):=by
  unfold jfm
  split
  ·exact j6h fS _ _ _
  ·exact j0w _
 rcases j0k q2 with ⟨e,q3,rfl⟩|⟨ok,lb,q3,q4⟩
 ·have hz:Fr _ _ _ _ _ (.pan (j0c e)) l':=jh7 hS fS ctx _ hc a _ ha sa za b _ hb sb zb (l - 1) _ l' (by omega) (by omega) q3
  show Fr _ _ _ _ _ (.pan (j0c e)) l'
  refine j00 Tryz.func69 rfl rfl rfl ?_
  repeat' ((conv=>whnf);first|apply gF|refine j02 hk rfl rfl rfl rfl rfl rfl rfl ?_|refine j01 hsm rfl rfl ?_|refine j02 hz rfl rfl rfl rfl rfl rfl rfl ?_)
  all_goals (try (conv=>whnf))
  all_goals first|exact ⟨rfl,rfl⟩|(exfalso; omega)|exact absurd ((and3 (by assumption) (by assumption) (by assumption)).symm.trans hst) (by simp)
 have hz:Fr _ _ _ _ _ (.ret [bv (j9x a b),bv ok]) lb:=jh7 hS fS ctx _ hc a _ ha sa za b _ hb sb zb (l - 1) _ lb (by omega) (by omega) q3
 have hlb:=flz.dn (l - 1) _ lb (by omega) q3
 cases ok with
 |true =>
  cases q4
  show Fr _ _ _ _ _ (.ret [bv true]) _
  refine j00 Tryz.func69 rfl rfl rfl ?_
  repeat' ((conv=>whnf);first|apply gT|apply gF|refine j04 rfl rfl ?_|refine j02 hk rfl rfl rfl rfl rfl rfl rfl ?_|refine j01 hsm rfl rfl ?_|refine j02 hz rfl rfl rfl rfl rfl rfl rfl ?_)
  all_goals (try (conv=>whnf))
  all_goals first|exact ⟨rfl,rfl⟩|(exfalso; omega)|exact absurd ((and3 (by assumption) (by assumption) (by assumption)).symm.trans hst) (by simp)
 |false =>
 have q4:(bnd (W a) fun x=>bnd (W b) fun y=>bnd (j8b S ctx a b x y) fun q=>match q with
   |true=>mok true
   |false=>j4Y W T S ctx x y) lb=some (r,l'):=q4
 rcases j0k q4 with ⟨e,q5,rfl⟩|⟨x,lc,q5,q6⟩
 ·have hwa:Fr _ _ _ _ _ (.pan (j0c e)) l':=(hW a _ ha lb _ l' (by omega) (by omega) q5).2
  show Fr _ _ _ _ _ (.pan (j0c e)) l'
  refine j00 Tryz.func69 rfl rfl rfl ?_
  repeat' ((conv=>whnf);first|apply gF|apply gO|refine j02 hk rfl rfl rfl rfl rfl rfl rfl ?_|refine j01 hsm rfl rfl ?_|refine j02 hz rfl rfl rfl rfl rfl rfl rfl ?_|refine j02 hwa rfl rfl rfl rfl rfl rfl rfl ?_|apply gK)
  all_goals (try (conv=>whnf))
  all_goals first|exact ⟨rfl,rfl⟩|(exfalso; omega)|exact absurd ((and3 (by assumption) (by assumption) (by assumption)).symm.trans hst) (by simp)
 obtain ⟨hx2,wx,hwx,hwa⟩:=hW a _ ha lb _ lc (by omega) (by omega) q5
 obtain ⟨sx,zx⟩:=hx2 x rfl
 have hlc:=(fW a).dn lb _ lc (by omega) q5
 have hwx':=hwx
 obtain ⟨k3,n3,s3,l3,t3,b3,z3,x3,c3,y3,ys3,-,rfl,-⟩:=hwx'.open
 rcases j0k q6 with ⟨e,q7,rfl⟩|⟨y,ld,q7,q8⟩
 ·have hwb:Fr _ _ _ _ _ (.pan (j0c e)) l':=(hW b _ hb lc _ l' (by omega) (by omega) q7).2
  show Fr _ _ _ _ _ (.pan (j0c e)) l'
  refine j00 Tryz.func69 rfl rfl rfl ?_
  repeat' ((conv=>whnf);first|apply gF|apply gO|refine j02 hk rfl rfl rfl rfl rfl rfl rfl ?_|refine j01 hsm rfl rfl ?_|refine j02 hz rfl rfl rfl rfl rfl rfl rfl ?_|refine j02 hwa rfl rfl rfl rfl rfl rfl rfl ?_|refine j02 hwb rfl rfl rfl rfl rfl rfl rfl ?_|apply gK)
  all_goals (try (conv=>whnf))
  all_goals first|exact ⟨rfl,rfl⟩|(exfalso; omega)|exact absurd ((and3 (by assumption) (by assumption) (by assumption)).symm.trans hst) (by simp)
 obtain ⟨hy2,wy,hwy,hwb⟩:=hW b _ hb lc _ ld (by omega) (by omega) q7
 obtain ⟨sy,zy⟩:=hy2 y rfl
 have hld:=(fW b).dn lc _ ld (by omega) q7
 have hwy':=hwy
 obtain ⟨k4,n4,s4,l4,t4,b4,z4,x4,c4,y4,ys4,-,rfl,-⟩:=hwy'.open
 have hs1:=j8G a _ ha x _ hwx
 have hs2:=j8G b _ hb y _ hwy
 cases hst:j9x a b && (eqTm a x && eqTm b y) with
 |true =>
  have e0:j8b S ctx a b x y=mok false:=by
   unfold j8b
   rw [hst]
  rw [e0] at q8
  have q8:j4Y W T S ctx x y ld=some (r,l'):=q8
  rw [Bool.and_eq_true,Bool.and_eq_true] at hst
  obtain ⟨i1,i2,i3⟩:=hst
  have hst:false=false:=rfl
  refine CrB.via (jaM ht hW hT fW fT hS fS ctx _ hc x _ hwx sx zx y _ hwy sy zy ld r l' (by omega) (by omega) q8) (fun e hp=>?_) (fun q hp=>?_)
  ·refine j00 Tryz.func69 rfl rfl rfl ?_
   repeat' ((conv=>whnf);first|apply gF|apply gN|refine gC ?_|apply gO|refine j02 hk rfl rfl rfl rfl rfl rfl rfl ?_|refine j01 hsm rfl rfl ?_|refine j02 hz rfl rfl rfl rfl rfl rfl rfl ?_|refine j02 hwa rfl rfl rfl rfl rfl rfl rfl ?_|refine j02 hwb rfl rfl rfl rfl rfl rfl rfl ?_|refine j01 hs1 rfl rfl ?_|refine j01 hs2 rfl rfl ?_|refine j02 hp rfl rfl rfl rfl rfl rfl rfl ?_|apply gK)
   all_goals (try (conv=>whnf))
   all_goals first|exact ⟨rfl,rfl⟩|(exfalso; omega)|exact absurd ((and3 (by assumption) (by assumption) (by assumption)).symm.trans hst) (by simp)
  ·refine j00 Tryz.func69 rfl rfl rfl ?_
   repeat' ((conv=>whnf);first|apply gF|apply gN|refine gC ?_|apply gO|refine j04 rfl rfl ?_|refine j02 hk rfl rfl rfl rfl rfl rfl rfl ?_|refine j01 hsm rfl rfl ?_|refine j02 hz rfl rfl rfl rfl rfl rfl rfl ?_|refine j02 hwa rfl rfl rfl rfl rfl rfl rfl ?_|refine j02 hwb rfl rfl rfl rfl rfl rfl rfl ?_|refine j01 hs1 rfl rfl ?_|refine j01 hs2 rfl rfl ?_|refine j02 hp rfl rfl rfl rfl rfl rfl rfl ?_|apply gK)
   all_goals (try (conv=>whnf))
   all_goals first|exact ⟨rfl,rfl⟩|(exfalso; omega)|exact absurd ((and3 (by assumption) (by assumption) (by assumption)).symm.trans hst) (by simp)
 |false =>
  have e0:j8b S ctx a b x y=j5Z S ctx x y:=by
   unfold j8b
   rw [hst]
  rw [e0] at q8
  rcases j0k q8 with ⟨e,q9,rfl⟩|⟨fo,le,q9,q10⟩
  ·have hfo:Fr _ _ _ _ _ (.pan (j0c e)) l':=je0 hS fS ctx _ hc x _ hwx sx zx y _ hwy sy zy ld _ l' (by omega) (by omega) q9
   show Fr _ _ _ _ _ (.pan (j0c e)) l'
   refine j00 Tryz.func69 rfl rfl rfl ?_
   repeat' ((conv=>whnf);first|apply gT|apply gF|apply gN|refine gC ?_|refine gD ?_|apply gM<;>intro h|apply gO|refine j02 hk rfl rfl rfl rfl rfl rfl rfl ?_|refine j01 hsm rfl rfl ?_|refine j02 hz rfl rfl rfl rfl rfl rfl rfl ?_|refine j02 hwa rfl rfl rfl rfl rfl rfl rfl ?_|refine j02 hwb rfl rfl rfl rfl rfl rfl rfl ?_|refine j01 hs1 rfl rfl ?_|refine j01 hs2 rfl rfl ?_|refine j02 hfo rfl rfl rfl rfl rfl rfl rfl ?_|apply gK)
   all_goals (try (conv=>whnf))
   all_goals first|exact ⟨rfl,rfl⟩|(exfalso; omega)|exact absurd ((and3 (by assumption) (by assumption) (by assumption)).symm.trans hst) (by simp)
  have hfo:Fr _ _ _ _ _ (.ret [bv fo]) le:=je0 hS fS ctx _ hc x _ hwx sx zx y _ hwy sy zy ld _ le (by omega) (by omega) q9
  have hle:=(jbi fS ctx x y).dn ld _ le (by omega) q9
  cases fo with
  |true =>
   cases q10
   show Fr _ _ _ _ _ (.ret [bv true]) _
   refine j00 Tryz.func69 rfl rfl rfl ?_
   repeat' ((conv=>whnf);first|apply gT|apply gF|apply gN|refine gC ?_|refine gD ?_|apply gM<;>intro h|apply gO|refine j04 rfl rfl ?_|refine j02 hk rfl rfl rfl rfl rfl rfl rfl ?_|refine j01 hsm rfl rfl ?_|refine j02 hz rfl rfl rfl rfl rfl rfl rfl ?_|refine j02 hwa rfl rfl rfl rfl rfl rfl rfl ?_|refine j02 hwb rfl rfl rfl rfl rfl rfl rfl ?_|refine j01 hs1 rfl rfl ?_|refine j01 hs2 rfl rfl ?_|refine j02 hfo rfl rfl rfl rfl rfl rfl rfl ?_|apply gK)
   all_goals (try (conv=>whnf))
   all_goals first|exact ⟨rfl,rfl⟩|(exfalso; omega)|exact absurd ((and3 (by assumption) (by assumption) (by assumption)).symm.trans hst) (by simp)
  |false =>
   have q10:j4Y W T S ctx x y le=some (r,l'):=q10
   refine CrB.via (jaM ht hW hT fW fT hS fS ctx _ hc x _ hwx sx zx y _ hwy sy zy le r l' (by omega) (by omega) q10) (fun e hp=>?_) (fun q hp=>?_)
   ·refine j00 Tryz.func69 rfl rfl rfl ?_
    repeat' ((conv=>whnf);first|apply gT|apply gF|apply gN|refine gC ?_|refine gD ?_|apply gM<;>intro h|apply gO|refine j02 hk rfl rfl rfl rfl rfl rfl rfl ?_|refine j01 hsm rfl rfl ?_|refine j02 hz rfl rfl rfl rfl rfl rfl rfl ?_|refine j02 hwa rfl rfl rfl rfl rfl rfl rfl ?_|refine j02 hwb rfl rfl rfl rfl rfl rfl rfl ?_|refine j01 hs1 rfl rfl ?_|refine j01 hs2 rfl rfl ?_|refine j02 hfo rfl rfl rfl rfl rfl rfl rfl ?_|refine j02 hp rfl rfl rfl rfl rfl rfl rfl ?_|apply gK)
    all_goals (try (conv=>whnf))
    all_goals first|exact ⟨rfl,rfl⟩|(exfalso; omega)|exact absurd ((and3 (by assumption) (by assumption) (by assumption)).symm.trans hst) (by simp)
   ·refine j00 Tryz.func69 rfl rfl rfl ?_
    repeat' ((conv=>whnf);first|apply gT|apply gF|apply gN|refine gC ?_|refine gD ?_|apply gM<;>intro h|apply gO|refine j04 rfl rfl ?_|refine j02 hk rfl rfl rfl rfl rfl rfl rfl ?_|refine j01 hsm rfl rfl ?_|refine j02 hz rfl rfl rfl rfl rfl rfl rfl ?_|refine j02 hwa rfl rfl rfl rfl rfl rfl rfl ?_|refine j02 hwb rfl rfl rfl rfl rfl rfl rfl ?_|refine j01 hs1 rfl rfl ?_|refine j01 hs2 rfl rfl ?_|refine j02 hfo rfl rfl rfl rfl rfl rfl rfl ?_|refine j02 hp rfl rfl rfl rfl rfl rfl rfl ?_|apply gK)
    all_goals (try (conv=>whnf))
    all_goals first|exact ⟨rfl,rfl⟩|(exfalso; omega)|exact absurd ((and3 (by assumption) (by assumption) (by assumption)).symm.trans hst) (by simp)
theorem W_ok (E:Nv) (cs:List PV) (hE:NvP E (.cp cs)) (tot:Int) (ht:tot ≤ 1048576) (n:Nat):WOk cs tot (jav E n):=by
 intro t v h l r l' h0 h1 hx
 obtain ⟨hs,hf⟩:=jmk E cs hE tot ht n t v h l r l' h0 h1 hx
 have hnz:=(j1Z (E:=E) n t).nz
 refine ⟨fun x hx=>⟨(hs x hx).1,(hs x hx).2.1⟩,?_⟩
 obtain ⟨k1,n1,s1,l1,t1,b1,z1,x1,c1,y1,ys1,-,rfl,-⟩:=h.open
 cases r with
 |error e =>
  have he:¬ e=0:=fun e0=>by
   subst e0
   exact hnz _ _ hx
  have hm:=jku tz (.ag zTm) j6c e he
  simp only [errV] at hf
  show Fr _ _ _ _ _ (.pan (j0c e)) l'
  refine j00 Tryz.func102 rfl rfl rfl ?_
  repeat' ((conv=>whnf);first|apply gO|refine j02 hf rfl rfl rfl rfl rfl rfl rfl ?_|refine j0Y hm (fun _=>?_)|apply gK)
  all_goals (try (conv=>whnf))
  all_goals exact ⟨rfl,rfl⟩
 |ok x =>
  have hxw:=(hs x rfl).2.2
  have hm:=jlO x _ hxw
  unfold TmW at hxw
  simp only [errV] at hf
  obtain ⟨k9,n9,s9,b9,z9,x9,c9,y9,ys9,he9⟩:=j0a x
  rw [he9] at hf hm hxw
  refine ⟨_,hxw,?_⟩
  refine j00 Tryz.func102 rfl rfl rfl ?_
  repeat' ((conv=>whnf);first|apply gO|apply gP|refine j04 rfl rfl ?_|refine j02 hf rfl rfl rfl rfl rfl rfl rfl ?_|refine j05 hm (fun _=>?_)|apply gK)
  all_goals (try (conv=>whnf))
  all_goals exact ⟨rfl,rfl⟩
theorem T_ok (E:Nv) (cs:List PV) (hE:NvP E (.cp cs)) (tot:Int) (ht:tot ≤ 1048576):∀ n,jat cs tot (typF E n)
 |0=>fun _ _ _ _ _ _ _ _ _ _ _ _ h=>by cases h
 |n + 1=>jnn ht E hE (jav E n) (typF E n) (W_ok E cs hE tot ht n) (T_ok E cs hE tot ht n) (j1Z n) (j2Z n)
theorem S_ok (E:Nv) (cs:List PV) (hE:NvP E (.cp cs)) (tot:Int) (ht:tot ≤ 1048576):∀ n,j4Q cs tot (jps E n)
 |0=>fun _ _ _ _ _ _ _ _ _ _ _ _ _ _ _ _ _ _ h=>by cases h
 |n + 1=>jlB ht (W_ok E cs hE tot ht n) (T_ok E cs hE tot ht n) (j1Z n) (j2Z n) (S_ok E cs hE tot ht n) (ja8 n)
open Go Go.Am Go.Gw
theorem jeW (t:Tm) (v:PV) (h:TmP t v) (b:Bool) (z:Nat) (xs:List PV) (n:Nat) (hn:xs.length=n):Pf C1 150 [v,.cp [.sl b z xs]] [bv (!j0U t 4 n)]:=by
 have hr:=j0W t v h 4 n
 subst hn
 obtain ⟨k1,n1,s1,l1,t1,b1,z1,x1,c1,y1,ys1,-,rfl,-⟩:=h.open
 refine j00 Tryz.func150 rfl rfl rfl ?_
 repeat' ((conv=>whnf);first|refine j03 rfl ?_|refine j01 hr rfl rfl ?_)
 all_goals (try (conv=>whnf))
 all_goals rfl
theorem jlc {ctx:List Tm} {i:Nat} {t:Tm} (h:ctx[i]? = some t):ctxF (ctx.drop i) i=(j0U t 4 i && ctxF (ctx.drop (i + 1)) (i + 1:Nat)):=by
 rw [drop_at h,ctxF]
 rfl
theorem j4D (ctx ts:List Tm) (b:Bool) (z:Nat) (xs:List PV) (hz:z=5∨xs=[]) (hxs:TmsP ctx xs) (b2:Bool) (z2:Nat) (ys:List PV) (hz2:z2=5∨ys=[]) (hys:TmsP ts ys) (hbd:ctx.length ≤ 1759218604441) (hbd2:ts.length ≤ 1759218604441):Pf C1 98 [.sl b z xs,.sl b2 z2 ys] [bv (j4M ctx ts)]:=by
 have hlen:=hxs.len
 have ha:=jdd 150 [.cp [.sl b z xs]] rfl rfl rfl (fun t=>!j0U t 4 ctx.length) ts (fun t _ v hv=>jeW t v hv b z xs ctx.length hlen) b2 z2 ys hz2 hys hbd2
 have he:j4M ctx ts=(decide (ctx.length ≤ 64) && (ctxF ctx 0 && !(ts.any fun t=>!j0U t 4 ctx.length))):=by
  unfold j4M
  congr 2
  rw [List.not_any_eq_all_not]
  simp
 rw [he]
 refine j00 Tryz.func98 rfl rfl rfl ?_
 repeat' ((conv=>whnf);first|apply gE<;>intro h|refine j03 rfl ?_)
 all_goals (try (conv=>whnf))
 ·refine j1H ?_
  rw [decide_eq_false (by omega)]
  rfl
 rw [decide_eq_true (by omega:ctx.length ≤ 64)]
 refine j08 (G:=Nat) (fun i=>[(12,iv i)]) (fun _=>_) (fun i=>i ≤ ctx.length∧ctxF (ctx.drop i) i=ctxF ctx 0) (fun i=>ctx.length - i) 0 ⟨by omega,rfl⟩ rfl rfl ?_
 rintro i ⟨hi,hall⟩
 dsimp only at hi hall ⊢
 repeat' ((conv=>whnf);first|apply gE<;>intro h|apply gQ)
 all_goals (try (conv=>whnf))
 ·have hi':i < ctx.length:=by omega
  obtain ⟨tc,htc⟩:∃ tc,ctx[i]? = some tc:=⟨_,List.getElem?_eq_getElem hi'⟩
  obtain ⟨v,hv,hl⟩:=hxs.at htc
  have hw:=j0W tc v hl 4 i
  obtain ⟨k1,n1,s1,l1,t1,b1,z1,x1,c1,y1,ys1,-,rfl,-⟩:=hl.open
  rw [jlc htc] at hall
  repeat' ((conv=>whnf);first|apply gN|apply gM<;>intro h|apply gO|refine gV ?_|refine j03 rfl ?_|refine VIdx.mk _ hv ?_|refine VOk.mk (j07 rfl hz) ?_|refine j01 hw rfl rfl ?_)
  all_goals (try (conv=>whnf))
  ·have hr:j0U tc 4 i=true:=by assumption
   rw [hr,Bool.true_and] at hall
   exact VAgain.mk _ rfl _ (j0h rfl rfl rfl) ⟨i + 1,⟨hi',hall⟩,by omega,rfl⟩
  ·have hr:j0U tc 4 i=false:=by assumption
   rw [hr,Bool.false_and] at hall
   rw [← hall]
   rfl
 ·have hl:i=ctx.length:=by omega
  subst hl
  rw [List.drop_length] at hall
  refine j7M rfl rfl ha rfl ?_
  repeat' ((conv=>whnf);first|refine j03 rfl ?_)
  all_goals (try (conv=>whnf))
  refine j1H ?_
  rw [← hall]
  simp [ctxF]
theorem j2K {i:Nat} {f:FuncId} {args args0:List PV} {cs:List PV} {tot l l':Int} {r:AEnd} {st:Sto} {K:AEnd→Sto→Prop} (h:Fr f args0 cs tot l r l') (hw:handed C1 f args st=some (args,st)) (hp:args.all (pur 8)=false) (hπ:(close st 64 (args.flatMap (ids 8)) []).reverse=[i]) (hi:args.all (j0f (fun q=>[i].elem q) 8)=true)
  (hf:fetch (fun q=>place q 0 [i]) (fun q=>[i].elem q) st [i]=some [runB cs tot l]) (ha:args.map (j0Z (fun q=>place q 0 [i]) 8)=args0) (hb:jcd (fun j=>Nat.blt j 1) r=true) (k:K (j5a (back [i] st.length) r) (st.set i (runB cs tot l'))):VCall C1 f args st K:=by
 refine j0D hw hp hπ hi hf ha (Finds.mono h ?_)
 rintro _ _ ⟨rfl,rfl⟩
 refine j1X ?_ ?_
 ·simp only [List.length_cons,List.length_nil,Nat.zero_add,hb,Bool.true_and]
  rfl
 ·have e:(st.set i (runB cs tot l')) ++ []=st.set i (runB cs tot l'):=List.append_nil _
  rw [← e] at k
  exact k
theorem j1G {f:FuncId} {args args0:List PV} {st st0 st2:Sto} {r:AEnd} {π:List Nat} {K:AEnd→Sto→Prop} (h:Finds C1 f args0 st0 fun r' s'=>r'=r∧s'=st2) (hw:handed C1 f args st=some (args,st)) (hp:args.all (pur 8)=false) (hπ:(close st 64 (args.flatMap (ids 8)) []).reverse=π) (hi:args.all (j0f (fun q=>π.elem q) 8)=true)
  (hf:fetch (fun q=>place q 0 π) (fun q=>π.elem q) st π=some st0) (ha:args.map (j0Z (fun q=>place q 0 π) 8)=args0) (hb:(jcd (fun j=>Nat.blt j st2.length) r && st2.all (soIn fun j=>Nat.blt j st2.length))=true) (k:K (j5a (back π st.length) r) (j1J (back π st.length) π st2 st ++ (st2.drop π.length).map (j3L (back π st.length)))):VCall C1 f args st K:=by
 refine j0D hw hp hπ hi hf ha (Finds.mono h ?_)
 rintro _ _ ⟨rfl,rfl⟩
 exact j1X hb k
def stC (cs:List PV) (tot l:Int) (cv v:PV) (o:SO):Sto:=[.box 28 [.ci [.bp 4 0]],.box 22 [cv],.box 25 v.cells,o,runB cs tot l]
theorem jmo (cs:List PV) (tot l l':Int) (b:Bool) (z:Nat) (xs:List PV) (t:Tm) (v:PV) (h:TmP t v) (x:Tm) (w:PV) (hw:TmP x w) (hf:Fr 71 [.ci [.bp 0 0],.sl b z xs,v] cs tot l (.ret [w]) l'):Finds C1 70 [.bp 0 0,.bp 1 0,.bp 2 0,.bp 3 0] (stC cs tot l (.sl b z xs) v (.box 25 zTm)) fun r st=>r = .ret []∧st=stC cs tot l' (.sl b z xs) v (.box 25 (encT x).cells):=by
 have ha:=j7N x w hw true 0
 obtain ⟨k9,n9,s9,b9,z9,x9,c9,y9,ys9,he9⟩:=j0a x
 rw [he9] at ha ⊢
 obtain ⟨k1,n1,s1,l1,t1,b1,z1,x1,c1,y1,ys1,-,rfl,-⟩:=h.open
 obtain ⟨k2,n2,s2,l2,t2,b2,z2,x2,c2,y2,ys2,-,rfl,-⟩:=hw.open
 refine j00 Tryz.func70 rfl rfl rfl ?_
 repeat' ((conv=>whnf);first|apply gO|refine j04 rfl rfl ?_|refine j2K (i:=4) hf rfl rfl rfl rfl rfl rfl rfl ?_|refine j01 ha rfl rfl ?_)
 all_goals (try (conv=>whnf))
 all_goals exact ⟨rfl,rfl⟩
theorem jmU (cs:List PV) (tot l l' e:Int) (b:Bool) (z:Nat) (xs:List PV) (t:Tm) (v:PV) (h:TmP t v) (hf:Fr 71 [.ci [.bp 0 0],.sl b z xs,v] cs tot l (.pan (j0c e)) l'):Finds C1 70 [.bp 0 0,.bp 1 0,.bp 2 0,.bp 3 0] (stC cs tot l (.sl b z xs) v (.box 25 zTm)) fun r st=>r = .pan (j0c e)∧st=stC cs tot l' (.sl b z xs) v (.box 25 zTm):=by
 obtain ⟨k1,n1,s1,l1,t1,b1,z1,x1,c1,y1,ys1,-,rfl,-⟩:=h.open
 refine j00 Tryz.func70 rfl rfl rfl ?_
 repeat' ((conv=>whnf);first|refine j2K (i:=4) hf rfl rfl rfl rfl rfl rfl rfl ?_)
 all_goals (try (conv=>whnf))
 all_goals exact ⟨rfl,rfl⟩
open Go Go.Am Go.Gw
def stB (cs:List PV) (tot l:Int) (cv v:PV) (o:SO):Sto:=[runB cs tot l,.box 28 [.ci [.bp 0 0]],.box 22 [cv],.box 25 v.cells,o]
def byA (cv:PV) (ts:List PV) (F:FuncId):List PV:=[.ci [.bp 0 0],cv,.sl true 5 ts,.fn F [] [.bp 1 0,.bp 2 0,.bp 3 0,.bp 4 0]]
theorem jft (cs:List PV) (tot l:Int) (b:Bool) (z:Nat) (xs:List PV) (k1 n1:Int) (s1:List UInt8) (b1:Bool) (z1:Nat) (x1:List PV) (c1:Bool) (y1:Nat) (ys1:List PV) (hfo:Pf C1 98 [.sl b z xs,.sl true 5 [.ag [iv k1,iv n1,sv s1,.sl b1 z1 x1,.sl c1 y1 ys1]]] [bv false]):Finds C1 67 (byA (.sl b z xs) [.ag [iv k1,iv n1,sv s1,.sl b1 z1 x1,.sl c1 y1 ys1]] 70) (stB cs tot l (.sl b z xs) (.ag [iv k1,iv n1,sv s1,.sl b1 z1 x1,.sl c1 y1 ys1]) (.box 25 zTm)) fun r st=>r = .ret [iv 10]∧st=stB cs tot l (.sl b z xs) (.ag [iv k1,iv n1,sv s1,.sl b1 z1 x1,.sl c1 y1 ys1]) (.box 25 zTm):=by
 refine j0r Tryz.func67 rfl rfl rfl ?_
 repeat' ((conv=>whnf);first|refine j01 hfo rfl rfl ?_|refine j0v (j1D 10) rfl rfl ?_)
 all_goals (try (conv=>whnf))
 refine ⟨_,_,_,_,_,_,rfl,rfl,rfl,rfl,?_⟩
 repeat' ((conv=>whnf);first|apply gT|apply gO|refine j04 rfl rfl ?_|refine j01 (j0I _) rfl rfl ?_)
 all_goals (try (conv=>whnf))
 all_goals exact ⟨rfl,rfl⟩
theorem jm2 (cs:List PV) (tot l l' e:Int) (he:¬ e=0) (b:Bool) (z:Nat) (xs:List PV) (k1 n1:Int) (s1:List UInt8) (b1:Bool) (z1:Nat) (x1:List PV) (c1:Bool) (y1:Nat) (ys1:List PV) (hfo:Pf C1 98 [.sl b z xs,.sl true 5 [.ag [iv k1,iv n1,sv s1,.sl b1 z1 x1,.sl c1 y1 ys1]]] [bv true])
  (hc:Finds C1 70 [.bp 0 0,.bp 1 0,.bp 2 0,.bp 3 0] (stC cs tot l (.sl b z xs) (.ag [iv k1,iv n1,sv s1,.sl b1 z1 x1,.sl c1 y1 ys1]) (.box 25 zTm)) fun r st=>r = .pan (j0c e)∧st=stC cs tot l' (.sl b z xs) (.ag [iv k1,iv n1,sv s1,.sl b1 z1 x1,.sl c1 y1 ys1]) (.box 25 zTm)):Finds C1 67 (byA (.sl b z xs) [.ag [iv k1,iv n1,sv s1,.sl b1 z1 x1,.sl c1 y1 ys1]] 70) (stB cs tot l (.sl b z xs) (.ag [iv k1,iv n1,sv s1,.sl b1 z1 x1,.sl c1 y1 ys1]) (.box 25 zTm)) fun r st=>r = .ret [iv e]∧st=stB cs tot l' (.sl b z xs) (.ag [iv k1,iv n1,sv s1,.sl b1 z1 x1,.sl c1 y1 ys1]) (.box 25 zTm):=by
 refine j0r Tryz.func67 rfl rfl rfl ?_
 repeat' ((conv=>whnf);first|refine j01 hfo rfl rfl ?_|refine j01 (j1d 10) rfl rfl ?_|refine j1G hc rfl rfl rfl rfl rfl rfl rfl ?_)
 all_goals (try (conv=>whnf))
 refine ⟨_,_,_,_,_,_,rfl,rfl,rfl,rfl,?_⟩
 repeat' ((conv=>whnf);first|apply gN|refine gB ?_|apply gO|refine j04 rfl rfl ?_|refine j01 (j0I _) rfl rfl ?_)
 all_goals (try (conv=>whnf))
 all_goals first|exact ⟨rfl,rfl⟩|(exfalso; omega)
theorem jk7 (cs:List PV) (tot l l':Int) (k9 n9:Int) (s9:List UInt8) (b9:Bool) (z9:Nat) (x9:List PV) (c9:Bool) (y9:Nat) (ys9:List PV) (b:Bool) (z:Nat) (xs:List PV) (k1 n1:Int) (s1:List UInt8) (b1:Bool) (z1:Nat) (x1:List PV) (c1:Bool) (y1:Nat) (ys1:List PV) (hfo:Pf C1 98 [.sl b z xs,.sl true 5 [.ag [iv k1,iv n1,sv s1,.sl b1 z1 x1,.sl c1 y1 ys1]]] [bv true])
  (hc:Finds C1 70 [.bp 0 0,.bp 1 0,.bp 2 0,.bp 3 0] (stC cs tot l (.sl b z xs) (.ag [iv k1,iv n1,sv s1,.sl b1 z1 x1,.sl c1 y1 ys1]) (.box 25 zTm)) fun r st=>r = .ret []∧st=stC cs tot l' (.sl b z xs) (.ag [iv k1,iv n1,sv s1,.sl b1 z1 x1,.sl c1 y1 ys1]) (.box 25 [iv k9,iv n9,sv s9,.sl b9 z9 x9,.sl c9 y9 ys9])):Finds C1 67 (byA (.sl b z xs) [.ag [iv k1,iv n1,sv s1,.sl b1 z1 x1,.sl c1 y1 ys1]] 70) (stB cs tot l (.sl b z xs) (.ag [iv k1,iv n1,sv s1,.sl b1 z1 x1,.sl c1 y1 ys1]) (.box 25 zTm)) fun r st=>r = .ret [iv 0]∧st=stB cs tot l' (.sl b z xs) (.ag [iv k1,iv n1,sv s1,.sl b1 z1 x1,.sl c1 y1 ys1]) (.box 25 [iv k9,iv n9,sv s9,.sl b9 z9 x9,.sl c9 y9 ys9]):=by
 refine j0r Tryz.func67 rfl rfl rfl ?_
 repeat' ((conv=>whnf);first|apply gO|refine j01 hfo rfl rfl ?_|refine j01 (j1d 10) rfl rfl ?_|refine j1G hc rfl rfl rfl rfl rfl rfl rfl ?_)
 all_goals (try (conv=>whnf))
 refine ⟨_,_,_,_,_,_,rfl,rfl,rfl,rfl,?_⟩
 repeat' ((conv=>whnf);first|apply gF|refine j04 rfl rfl ?_|refine j01 j2v rfl rfl ?_)
 all_goals (try (conv=>whnf))
 all_goals exact ⟨rfl,rfl⟩
theorem j7w (cs:List PV) (tot l l':Int) (b:Bool) (z:Nat) (xs:List PV) (k1 n1:Int) (s1:List UInt8) (b1:Bool) (z1:Nat) (x1:List PV) (c1:Bool) (y1:Nat) (ys1:List PV) (e:Int) (k9 n9:Int) (s9:List UInt8) (b9:Bool) (z9:Nat) (x9:List PV) (c9:Bool) (y9:Nat) (ys9:List PV)
  (hb:Finds C1 67 (byA (.sl b z xs) [.ag [iv k1,iv n1,sv s1,.sl b1 z1 x1,.sl c1 y1 ys1]] 70) (stB cs tot l (.sl b z xs) (.ag [iv k1,iv n1,sv s1,.sl b1 z1 x1,.sl c1 y1 ys1]) (.box 25 zTm)) fun r st=>r = .ret [iv e]∧st=stB cs tot l' (.sl b z xs) (.ag [iv k1,iv n1,sv s1,.sl b1 z1 x1,.sl c1 y1 ys1]) (.box 25 [iv k9,iv n9,sv s9,.sl b9 z9 x9,.sl c9 y9 ys9])) :
  Fr 32 [.ci [.bp 0 0],.sl b z xs,.ag [iv k1,iv n1,sv s1,.sl b1 z1 x1,.sl c1 y1 ys1]] cs tot l (.ret [.ag [iv k9,iv n9,sv s9,.sl b9 z9 x9,.sl c9 y9 ys9],iv e]) l':=by
 refine j00 Tryz.func32 rfl rfl rfl ?_
 repeat' ((conv=>whnf);first|apply gO|refine j04 rfl rfl ?_|refine j1G hb rfl rfl rfl rfl rfl rfl rfl ?_)
 all_goals (try (conv=>whnf))
 all_goals exact ⟨rfl,rfl⟩
theorem jkm:∀ (ctx:List Tm) (i:Int),ctxF ctx i=true→∀ t ∈ ctx,shT t=true
 |[],_,_,_,h=>by cases h
 |a :: r,i,h,t,ht=>by
  rw [ctxF,Bool.and_eq_true] at h
  rcases List.mem_cons.1 ht with rfl|ht
  ·exact j5b h.1
  ·exact jkm r _ h.2 t ht
theorem j2U {ctx ts:List Tm} (h:j4M ctx ts=true) {b:Bool} {z:Nat} {xs:List PV} (hz:z=5∨(xs=[]∧b=true∧z=0)) (hxs:TmsP ctx xs):CtxP ctx (.sl b z xs)∧∀ t ∈ ts,shT t=true∧sizT t ≤ 2000:=by
 unfold j4M at h
 rw [Bool.and_eq_true,Bool.and_eq_true,decide_eq_true_iff] at h
 refine ⟨⟨b,z,xs,rfl,hz,hxs,h.1,jkm ctx _ h.2.1⟩,fun t ht=>?_⟩
 have hr:=List.all_eq_true.1 h.2.2 t ht
 exact ⟨j5b hr,j5C (j3A hr).2.2.1⟩
theorem jk6 (E:Nv) (cs:List PV) (hE:NvP E (.cp cs)) (tot:Int) (ht:tot ≤ 1048576) (n:Nat) (ctx:List Tm) (b:Bool) (z:Nat) (xs:List PV) (hz:z=5∨(xs=[]∧b=true∧z=0)) (hxs:TmsP ctx xs) (hbd:ctx.length ≤ 1759218604441) (t:Tm) (v:PV) (h:TmP t v) (l:Int) (r:Except Int Tm) (l':Int) (h0:0 ≤ l) (h1:l ≤ tot) (hx:jld E n ctx t l=some (r,l')):(∀ x,r = .ok x→shT x=true∧sizT x ≤ 2000∧TmW x)∧Fr 32 [.ci [.bp 0 0],.sl b z xs,v] cs tot l (.ret (errV r)) l':=by
 have hz':z=5∨xs=[]:=hz.imp_right fun q=>q.1
 have hfo:=j4D ctx [t] b z xs hz' hxs true 5 [v] (.inl rfl) ⟨v,[],rfl,h,rfl⟩ hbd (by simp)
 have hv:=h
 obtain ⟨k1,n1,s1,l1,t1,b1,z1,x1,c1,y1,ys1,-,rfl,-⟩:=h.open
 unfold jld at hx
 rcases j0k hx with ⟨e,q1,rfl⟩|⟨u0,la,q1,q2⟩
 ·obtain ⟨rfl,d2⟩:=j1M q1
  rcases d2 with ⟨-,d2⟩|⟨d1,d2⟩
  ·cases d2
  ·cases d2
   rw [d1] at hfo
   exact ⟨fun x hx=>(by cases hx),j7w cs tot l' l' b z xs _ _ _ _ _ _ _ _ _ 10 _ _ _ _ _ _ _ _ _ (jft cs tot l' b z xs _ _ _ _ _ _ _ _ _ hfo)⟩
 obtain ⟨rfl,d2⟩:=j1M q1
 rcases d2 with ⟨d1,-⟩|⟨-,d2⟩
 rotate_left
 ·cases d2
 rw [d1] at hfo
 obtain ⟨hc,hsh⟩:=j2U d1 hz hxs
 obtain ⟨hs,hf⟩:=T_ok E cs hE tot ht n ctx _ hc t _ hv (hsh t (List.mem_singleton.2 rfl)).1 la r l' h0 h1 q2
 cases r with
 |error e =>
  have he:¬ e=0:=fun e0=>by
   subst e0
   exact (j2Z n ctx t).nz _ _ q2
  exact ⟨fun x hx=>(by cases hx),j7w cs tot la l' b z xs _ _ _ _ _ _ _ _ _ e _ _ _ _ _ _ _ _ _ (jm2 cs tot la l' e he b z xs _ _ _ _ _ _ _ _ _ hfo (jmU cs tot la l' e b z xs t _ hv hf))⟩
 |ok x =>
  obtain ⟨w,hw,hf⟩:=hf
  refine ⟨fun y hy=>?_,?_⟩
  ·cases hy
   exact ⟨(hs x rfl).1,(hs x rfl).2,hw.w⟩
  ·have ho:=jmo cs tot la l' b z xs t _ hv x w hw hf
   unfold errV
   obtain ⟨k9,n9,s9,b9,z9,x9,c9,y9,ys9,he9⟩:=j0a x
   dsimp only
   rw [he9] at ho ⊢
   exact j7w cs tot la l' b z xs _ _ _ _ _ _ _ _ _ 0 _ _ _ _ _ _ _ _ _ (jk7 cs tot la l' _ _ _ _ _ _ _ _ _ b z xs _ _ _ _ _ _ _ _ _ hfo ho)
end Go.Proofs.YtljnahbgfmflaaaGreatDoor
