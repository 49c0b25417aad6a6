/-
  Propositions and their proofs; terms that are one (package conv). No statement of the seat.
-/
import Derived.Test.YtljnahbgfmflaaaGreatDoorZIi
set_option linter.unusedVariables false
set_option maxHeartbeats 8000000
set_option maxRecDepth 100000
set_option linter.unusedSimpArgs false
set_option linter.unnecessarySimpa false
namespace Go.Proofs.YtljnahbgfmflaaaGreatDoor
open Go Go.Am Go.Gw
theorem j1g (e:Int):Pf C1 96 [j0i e] [iv e]:=by
 refine j00 Tryz.func96 rfl rfl rfl ?_
 repeat' ((conv=>whnf);first|apply gF|apply gO|refine j04 rfl ?_|refine VRes.mk _ jo8 ?_)
 all_goals (try (conv=>whnf))
 all_goals rfl
theorem j4k:Pf C1 96 [.sc .nilIface] [iv 0]:=by
 refine j00 Tryz.func96 rfl rfl rfl ?_
 repeat' ((conv=>whnf);first|apply gT|refine j04 rfl ?_|refine VRes.mk _ jnR ?_)
 all_goals (try (conv=>whnf))
 all_goals rfl
def CrP (args cs:List PV) (tot l:Int) (r:Except Int (Option Tm)) (l':Int):Prop:=match r with
 | .ok (some x)=>shT x=true∧sizT x ≤ 2000∧∃ w,TmP x w∧Fr 73 args cs tot l (.ret [w,bv true]) l'
 | .ok none=>∃ k n s b z xs c y ys,Fr 73 args cs tot l (.ret [.ag [iv k,iv n,sv s,.sl b z xs,.sl c y ys],bv false]) l'
 | .error e=>Fr 73 args cs tot l (.pan (j0i e)) l'
theorem jhq {cs:List PV} {tot:Int} (ht:tot ≤ 1048576) {W:Tm→M Tm} {T:List Tm→Tm→M Tm} (hW:WOk cs tot W) (hT:jax cs tot T) (fW:∀ t,Fine (W t)) (fT:∀ c t,Fine (T c t)) (ctx:List Tm) (cv:PV) (hc:CtxP ctx cv) (t:Tm) (v:PV) (h:TmP t v) (hs:shT t=true) (l:Int) (r:Except Int (Option Tm)) (l':Int) (h0:0 ≤ l) (h1:l ≤ tot) (hx:jfQ W T ctx t l=some (r,l')):CrP [.ci [.bp 0 0],cv,v] cs tot l r l':=by
 have hSo:=jdd ht hW hT fW fT
 have hc':=hc
 obtain ⟨b,z,xs,rfl,-⟩:=hc'
 have h':=h
 obtain ⟨k1,n1,s1,l1,t1,b1,z1,x1,c1,y1,ys1,-,rfl,-⟩:=h'.open
 unfold jfQ joa at hx
 have herr:∀ e,(bnd j4p fun _=>bnd (T ctx t) fun ty=>bnd (sortB W T ctx ty) fun s=>mok (match jdy s with
   |true=>some ty
   |false=>none)) l=some (.error e,l')→∀ (hq:(e=22∨e=15)∨¬ (e=22∨e=15)),CrP [.ci [.bp 0 0],.sl b z xs,.ag [iv k1,iv n1,sv s1,.sl b1 z1 x1,.sl c1 y1 ys1]] cs tot l (match decide (e=22) || decide (e=15) with
   |true=>.error e
   |false=>.ok none) l':=by
  intro e hy hq
  have hne:¬ e=0:=fun e0=>by
   subst e0
   exact (j0b j2W fun _=>j0b (fT ctx t) fun ty=>j0b (j4O fW fT ctx ty) fun s=>j0p _).nz _ _ hy
  rcases j0d hy with ⟨e,q1,e1⟩|⟨u0,la,q1,q2⟩
  ·cases e1
   rcases j0Z q1 with ⟨a1,a2,a3⟩|⟨a1,a2,a3⟩
   ·cases a3
   ·cases a3
    subst a2
    have hk:=j8A cs tot l' a1
    show Fr _ _ _ _ _ (.pan (j0i 22)) l'
    refine j0F Tryz.func73 rfl rfl rfl ?_
    repeat' ((conv=>whnf);first|refine j02 hk rfl rfl rfl rfl rfl rfl rfl ?_)
    all_goals (try (conv=>whnf))
    refine ⟨_,_,_,_,_,_,rfl,rfl,rfl,rfl,?_⟩
    repeat' ((conv=>whnf);first|apply gT|refine j01 (j1g _) rfl rfl ?_)
    all_goals (try (conv=>whnf))
    all_goals first|exact ⟨rfl,rfl⟩|(exfalso; omega)
  rcases j0Z q1 with ⟨a1,a2,a3⟩|⟨a1,a2,a3⟩
  rotate_left
  ·cases a3
  subst a2
  have hk:=j7f cs tot l a1 h1 ht
  rcases j0d q2 with ⟨e,q3,e1⟩|⟨y,lb,q3,q4⟩
  ·cases e1
   obtain ⟨-,hf⟩:=hT ctx _ hc t _ h hs (l - 1) _ l' (by omega) (by omega) q3
   have hf:Fr _ _ _ _ _ (.pan (j0i e)) l':=hf
   rcases hq with hq|hq
   ·have e2:(decide (e=22) || decide (e=15))=true:=by simpa using hq
    rw [e2]
    show Fr _ _ _ _ _ (.pan (j0i e)) l'
    refine j0F Tryz.func73 rfl rfl rfl ?_
    repeat' ((conv=>whnf);first|refine j02 hk rfl rfl rfl rfl rfl rfl rfl ?_|refine j02 hf rfl rfl rfl rfl rfl rfl rfl ?_)
    all_goals (try (conv=>whnf))
    refine ⟨_,_,_,_,_,_,rfl,rfl,rfl,rfl,?_⟩
    repeat' ((conv=>whnf);first|apply gT|apply gN|refine gA ?_|refine gB ?_|apply gE<;>intro h|apply gO|refine j03 rfl rfl ?_|refine j01 (j1g _) rfl rfl ?_)
    all_goals (try (conv=>whnf))
    all_goals first|exact ⟨rfl,rfl⟩|(exfalso; omega)
   ·have e2:(decide (e=22) || decide (e=15))=false:=by simpa using hq
    rw [e2]
    refine ⟨0,0,[],true,0,[],true,0,[],?_⟩
    refine j0F Tryz.func73 rfl rfl rfl ?_
    repeat' ((conv=>whnf);first|refine j02 hk rfl rfl rfl rfl rfl rfl rfl ?_|refine j02 hf rfl rfl rfl rfl rfl rfl rfl ?_)
    all_goals (try (conv=>whnf))
    refine ⟨_,_,_,_,_,_,rfl,rfl,rfl,rfl,?_⟩
    repeat' ((conv=>whnf);first|apply gT|apply gN|refine gA ?_|refine gB ?_|apply gE<;>intro h|apply gO|refine j03 rfl rfl ?_|refine j01 (j1g _) rfl rfl ?_)
    all_goals (try (conv=>whnf))
    all_goals first|exact ⟨rfl,rfl⟩|(exfalso; omega)
  obtain ⟨hy',wy,hwy,hf⟩:=hT ctx _ hc t _ h hs (l - 1) _ lb (by omega) (by omega) q3
  obtain ⟨hys,hyz⟩:=hy' y rfl
  have hd:=(fT ctx t).dn (l - 1) _ lb (by omega) q3
  rcases j0d q4 with ⟨e,q5,e1⟩|⟨s,lc,q5,q6⟩
  ·cases e1
   have hg:Fr _ _ _ _ _ (.pan (j0i e)) l':=hSo ctx _ hc y _ hwy hys lb _ l' (by omega) (by omega) q5
   obtain ⟨k2,n2,s2,l2,t2,b2,z2,x2,c2,y2,ys2,-,rfl,-⟩:=hwy.open
   rcases hq with hq|hq
   ·have e2:(decide (e=22) || decide (e=15))=true:=by simpa using hq
    rw [e2]
    show Fr _ _ _ _ _ (.pan (j0i e)) l'
    refine j0F Tryz.func73 rfl rfl rfl ?_
    repeat' ((conv=>whnf);first|apply gO|refine j02 hk rfl rfl rfl rfl rfl rfl rfl ?_|refine j02 hf rfl rfl rfl rfl rfl rfl rfl ?_|refine j02 hg rfl rfl rfl rfl rfl rfl rfl ?_|apply gK)
    all_goals (try (conv=>whnf))
    refine ⟨_,_,_,_,_,_,rfl,rfl,rfl,rfl,?_⟩
    repeat' ((conv=>whnf);first|apply gT|apply gN|refine gA ?_|refine gB ?_|apply gE<;>intro h|apply gO|refine j03 rfl rfl ?_|refine j01 (j1g _) rfl rfl ?_)
    all_goals (try (conv=>whnf))
    all_goals first|exact ⟨rfl,rfl⟩|(exfalso; omega)
   ·have e2:(decide (e=22) || decide (e=15))=false:=by simpa using hq
    rw [e2]
    refine ⟨0,0,[],true,0,[],true,0,[],?_⟩
    refine j0F Tryz.func73 rfl rfl rfl ?_
    repeat' ((conv=>whnf);first|apply gO|refine j02 hk rfl rfl rfl rfl rfl rfl rfl ?_|refine j02 hf rfl rfl rfl rfl rfl rfl rfl ?_|refine j02 hg rfl rfl rfl rfl rfl rfl rfl ?_|apply gK)
    all_goals (try (conv=>whnf))
    refine ⟨_,_,_,_,_,_,rfl,rfl,rfl,rfl,?_⟩
    repeat' ((conv=>whnf);first|apply gT|apply gN|refine gA ?_|refine gB ?_|apply gE<;>intro h|apply gO|refine j03 rfl rfl ?_|refine j01 (j1g _) rfl rfl ?_)
    all_goals (try (conv=>whnf))
    all_goals first|exact ⟨rfl,rfl⟩|(exfalso; omega)
  ·cases q6
 rcases j3F hx with ⟨o,hy,rfl⟩|⟨e,he,hy,rfl⟩|⟨e,he,hy,rfl⟩
 ·rcases j0d hy with ⟨e,q1,e1⟩|⟨u0,la,q1,q2⟩
  ·cases e1
  rcases j0Z q1 with ⟨a1,a2,a3⟩|⟨a1,a2,a3⟩
  rotate_left
  ·cases a3
  subst a2
  have hk:=j7f cs tot l a1 h1 ht
  rcases j0d q2 with ⟨e,q3,e1⟩|⟨y,lb,q3,q4⟩
  ·cases e1
  obtain ⟨hy',wy,hwy,hf⟩:=hT ctx _ hc t _ h hs (l - 1) _ lb (by omega) (by omega) q3
  obtain ⟨hys,hyz⟩:=hy' y rfl
  have hd:=(fT ctx t).dn (l - 1) _ lb (by omega) q3
  rcases j0d q4 with ⟨e,q5,e1⟩|⟨s,lc,q5,q6⟩
  ·cases e1
  obtain ⟨wl,hwl,hg⟩:=hSo ctx _ hc y _ hwy hys lb _ lc (by omega) (by omega) q5
  have hz:=jgG s wl hwl
  obtain ⟨k2,n2,s2,l2,t2,b2,z2,x2,c2,y2,ys2,-,rfl,-⟩:=hwy.open
  obtain ⟨k3,n3,l3,b3,z3,x3,-,rfl,-⟩:=hwl.open
  cases hzq:jdy s with
  |true =>
   rw [hzq] at q6 hz
   cases q6
   refine ⟨hys,hyz,_,hwy,?_⟩
   refine j0F Tryz.func73 rfl rfl rfl ?_
   repeat' ((conv=>whnf);first|apply gO|apply gP|refine j02 hk rfl rfl rfl rfl rfl rfl rfl ?_|refine j02 hf rfl rfl rfl rfl rfl rfl rfl ?_|refine j02 hg rfl rfl rfl rfl rfl rfl rfl ?_|refine j05 hz (fun _=>?_)|apply gK)
   all_goals (try (conv=>whnf))
   refine ⟨_,_,_,_,_,_,rfl,rfl,rfl,rfl,?_⟩
   repeat' ((conv=>whnf);first|apply gF|refine j03 rfl rfl ?_|refine j01 j4k rfl rfl ?_)
   all_goals (try (conv=>whnf))
   all_goals first|exact ⟨rfl,rfl⟩|(exfalso; omega)
  |false =>
   rw [hzq] at q6 hz
   cases q6
   refine ⟨k2,n2,s2,b2,z2,x2,c2,y2,ys2,?_⟩
   ·refine j0F Tryz.func73 rfl rfl rfl ?_
    repeat' ((conv=>whnf);first|apply gO|apply gP|refine j02 hk rfl rfl rfl rfl rfl rfl rfl ?_|refine j02 hf rfl rfl rfl rfl rfl rfl rfl ?_|refine j02 hg rfl rfl rfl rfl rfl rfl rfl ?_|refine j05 hz (fun _=>?_)|apply gK)
    all_goals (try (conv=>whnf))
    refine ⟨_,_,_,_,_,_,rfl,rfl,rfl,rfl,?_⟩
    repeat' ((conv=>whnf);first|apply gF|refine j03 rfl rfl ?_|refine j01 j4k rfl rfl ?_)
    all_goals (try (conv=>whnf))
    all_goals first|exact ⟨rfl,rfl⟩|(exfalso; omega)
 ·have:=herr e hy (.inl he)
  have e2:(decide (e=22) || decide (e=15))=true:=by simpa using he
  rw [e2] at this
  exact this
 ·have:=herr e hy (.inr he)
  have e2:(decide (e=22) || decide (e=15))=false:=by simpa using he
  rw [e2] at this
  exact this
open Go Go.Am Go.Gw
theorem jbi {cs:List PV} {tot:Int} (ht:tot ≤ 1048576) {W:Tm→M Tm} {T:List Tm→Tm→M Tm} (hW:WOk cs tot W) (hT:jax cs tot T) (fW:∀ t,Fine (W t)) (fT:∀ c t,Fine (T c t)) {S:List Tm→Tm→Tm→M Bool} (hS:j4C cs tot S) (fS:∀ c a b,Fine (S c a b)) (ctx:List Tm) (cv:PV) (hc:CtxP ctx cv) (a:Tm) (av:PV) (ha:TmP a av) (sa:shT a=true) (za:sizT a ≤ 2000) (b:Tm) (wv:PV) (hb:TmP b wv) (sb:shT b=true) (zb:sizT b ≤ 2000) (l:Int) (r:Except Int Bool) (l':Int) (h0:0 ≤ l) (h1:l ≤ tot) (hx:j5e W T S ctx a b l=some (r,l')) :
  CrB 104 [.ci [.bp 0 0],cv,av,wv] cs tot l r l':=by
 unfold j5e at hx
 have fP:=j9e fW fT
 have hpa:=fun r l' hx=>jhq ht hW hT fW fT ctx cv hc a av ha sa l r l' h0 h1 hx
 have hpb:=fun l h0 h1 r l' hx=>jhq ht hW hT fW fT ctx cv hc b wv hb sb l r l' h0 h1 hx
 have hsm:=fun p pv hp sp zp q qv hq sq zq l h0 h1 hx=>hS ctx cv hc p pv hp sp zp q qv hq sq zq l r l' h0 h1 hx
 obtain ⟨b0,z0,xs0,rfl,-⟩:=hc
 obtain ⟨k1,n1,s1,l1,t1,b1,z1,x1,c1,y1,ys1,-,rfl,-⟩:=ha.open
 obtain ⟨k2,n2,s2,l2,t2,b2,z2,x2,c2,y2,ys2,-,rfl,-⟩:=hb.open
 rcases j0d hx with ⟨e,p1,rfl⟩|⟨o,la,p1,p2⟩
 ·have hf:Fr _ _ _ _ _ (.pan (j0i e)) l':=hpa _ _ p1
  show Fr _ _ _ _ _ (.pan (j0i e)) l'
  refine j00 Tryz.func104 rfl rfl rfl ?_
  repeat' ((conv=>whnf);first|refine j02 hf rfl rfl rfl rfl rfl rfl rfl ?_)
  all_goals (try (conv=>whnf))
  all_goals first|exact ⟨rfl,rfl⟩|(exfalso; omega)
 have hd:=(fP ctx a).dn l _ la h0 p1
 cases o with
 |none =>
  cases p2
  obtain ⟨k3,n3,s3,b3,z3,x3,c3,y3,ys3,hf⟩:=hpa _ _ p1
  show Fr _ _ _ _ _ (.ret [bv false]) _
  refine j00 Tryz.func104 rfl rfl rfl ?_
  repeat' ((conv=>whnf);first|apply gT|apply gO|refine j03 rfl rfl ?_|refine j02 hf rfl rfl rfl rfl rfl rfl rfl ?_)
  all_goals (try (conv=>whnf))
  all_goals first|exact ⟨rfl,rfl⟩|(exfalso; omega)
 |some p =>
  obtain ⟨sp,zp,wp,hwp,hf⟩:=hpa _ _ p1
  have hwp':=hwp
  obtain ⟨k3,n3,s3,l3,t3,b3,z3,x3,c3,y3,ys3,-,rfl,-⟩:=hwp'.open
  have p2:(bnd (jfQ W T ctx b) fun q=>match q with
   |none=>mok false
   |some q=>S ctx p q) la=some (r,l'):=p2
  rcases j0d p2 with ⟨e,p3,rfl⟩|⟨o,lb,p3,p4⟩
  ·have hg:Fr _ _ _ _ _ (.pan (j0i e)) l':=hpb la (by omega) (by omega) _ _ p3
   show Fr _ _ _ _ _ (.pan (j0i e)) l'
   refine j00 Tryz.func104 rfl rfl rfl ?_
   repeat' ((conv=>whnf);first|apply gF|apply gO|refine j02 hf rfl rfl rfl rfl rfl rfl rfl ?_|refine j02 hg rfl rfl rfl rfl rfl rfl rfl ?_)
   all_goals (try (conv=>whnf))
   all_goals first|exact ⟨rfl,rfl⟩|(exfalso; omega)
  have hd2:=(fP ctx b).dn la _ lb (by omega) p3
  cases o with
  |none =>
   cases p4
   obtain ⟨k4,n4,s4,b4,z4,x4,c4,y4,ys4,hg⟩:=hpb la (by omega) (by omega) _ _ p3
   show Fr _ _ _ _ _ (.ret [bv false]) _
   refine j00 Tryz.func104 rfl rfl rfl ?_
   repeat' ((conv=>whnf);first|apply gF|apply gO|refine j03 rfl rfl ?_|refine j02 hf rfl rfl rfl rfl rfl rfl rfl ?_|refine j02 hg rfl rfl rfl rfl rfl rfl rfl ?_)
   all_goals (try (conv=>whnf))
   all_goals first|exact ⟨rfl,rfl⟩|(exfalso; omega)
  |some q =>
   obtain ⟨sq,zq,wq,hwq,hg⟩:=hpb la (by omega) (by omega) _ _ p3
   have hwq':=hwq
   obtain ⟨k4,n4,s4,l4,t4,b4,z4,x4,c4,y4,ys4,-,rfl,-⟩:=hwq'.open
   refine CrB.via (hsm p _ hwp sp zp q _ hwq sq zq lb (by omega) (by omega) p4) (fun e hh=>?_) (fun q hh=>?_)
   ·refine j00 Tryz.func104 rfl rfl rfl ?_
    repeat' ((conv=>whnf);first|apply gT|apply gF|apply gO|refine j02 hf rfl rfl rfl rfl rfl rfl rfl ?_|refine j02 hg rfl rfl rfl rfl rfl rfl rfl ?_|refine j02 hh rfl rfl rfl rfl rfl rfl rfl ?_)
    all_goals (try (conv=>whnf))
    all_goals first|exact ⟨rfl,rfl⟩|(exfalso; omega)
   ·refine j00 Tryz.func104 rfl rfl rfl ?_
    repeat' ((conv=>whnf);first|apply gT|apply gF|apply gO|refine j03 rfl rfl ?_|refine j02 hf rfl rfl rfl rfl rfl rfl rfl ?_|refine j02 hg rfl rfl rfl rfl rfl rfl rfl ?_|refine j02 hh rfl rfl rfl rfl rfl rfl rfl ?_)
    all_goals (try (conv=>whnf))
    all_goals first|exact ⟨rfl,rfl⟩|(exfalso; omega)
def CrZ (args cs:List PV) (tot l:Int) (q:Bool) (r:Except Int Bool) (l':Int):Prop:=match r with
 | .ok p=>Fr 101 args cs tot l (.ret [bv q,bv p]) l'
 | .error e=>Fr 101 args cs tot l (.pan (j0i e)) l'
theorem jgt {cs:List PV} {tot:Int} {S:List Tm→Tm→Tm→M Bool} (hS:j4C cs tot S) (fS:∀ c a b,Fine (S c a b)) (ctx:List Tm) (cv:PV) (hc:CtxP ctx cv) (a:Tm) (av:PV) (ha:TmP a av) (sa:shT a=true) (za:sizT a ≤ 2000) (b:Tm) (wv:PV) (hb:TmP b wv) (sb:shT b=true) (zb:sizT b ≤ 2000) (l:Int) (r:Except Int Bool) (l':Int) (h0:0 ≤ l) (h1:l ≤ tot) (hx:jfR S ctx a b l=some (r,l')) :
  CrZ [.ci [.bp 0 0],cv,av,wv] cs tot l (ja5 a b) r l':=by
 have hsp:=fun hx=>jb0 hS fS ctx cv hc a av ha sa za b wv hb sb zb l r l' h0 h1 hx
 obtain ⟨ka,na,s_a,ba,zza,xa,ca,ya,ysa,aba,aza,axa,hSa,hPa,hza,hxa,hla,hsa,hsha⟩:=j8w ha sa za
 obtain ⟨kb,nb,s_b,bb,zzb,xb,cb,yb,ysb,abb,azb,axb,hSb,hPb,hzb,hxb,hlb,hsb,hshb⟩:=j8w hb sb zb
 have hal:=jaZ _ _ hPa _ _ hPb (jnQ hsha)
 have hna:=hxa.len
 have hnb:=hxb.len
 have hka:=hPa.kind
 unfold jfR at hx
 have eA:ja5 a b=(decide (ka=3) && (decide (0 < axa.length) && (decide (axa.length=axb.length) && ja6 (spF a).1 (spF b).1))):=by
  unfold ja5
  rw [hka,hna,hnb]
 rw [eA] at hx ⊢
 clear eA
 generalize ja6 (spF a).1 (spF b).1=al at *
 obtain ⟨b0,z0,xs0,rfl,-⟩:=hc
 obtain ⟨k1,n1,s1,l1,t1,b1,z1,x1,c1,y1,ys1,-,rfl,-⟩:=ha.open
 obtain ⟨k2,n2,s2,l2,t2,b2,z2,x2,c2,y2,ys2,-,rfl,-⟩:=hb.open
 by_cases c1:ka=3
 rotate_left
 ·have e:(decide (ka=3) && (decide (0 < axa.length) && (decide (axa.length=axb.length) && al)))=false:=by simp [c1]
  rw [e] at hx ⊢
  cases hx
  show Fr _ _ _ _ _ (.ret [bv false,bv false]) _
  refine j00 Tryz.func101 rfl rfl rfl ?_
  repeat' ((conv=>whnf);first|apply gF|refine gB ?_|apply gO|refine j03 rfl rfl ?_|refine j01 hSa rfl rfl ?_|refine j01 hSb rfl rfl ?_)
  all_goals (try (conv=>whnf))
  all_goals first|exact ⟨rfl,rfl⟩|(exfalso; simp_all; done)|(exfalso; omega)
 by_cases c2:0 < axa.length
 rotate_left
 ·have e:(decide (ka=3) && (decide (0 < axa.length) && (decide (axa.length=axb.length) && al)))=false:=by simp [c2]
  rw [e] at hx ⊢
  cases hx
  show Fr _ _ _ _ _ (.ret [bv false,bv false]) _
  refine j00 Tryz.func101 rfl rfl rfl ?_
  repeat' ((conv=>whnf);first|apply gF|refine gA ?_|refine gB ?_|apply gE<;>intro h|refine gC ?_|refine gD ?_|apply gM<;>intro h|apply gO|refine j03 rfl rfl ?_|refine j01 hSa rfl rfl ?_|refine j01 hSb rfl rfl ?_|refine j01 hal rfl rfl ?_)
  all_goals (try (conv=>whnf))
  all_goals first|exact ⟨rfl,rfl⟩|(exfalso; simp_all; done)|(exfalso; omega)
 by_cases c3:axa.length=axb.length
 rotate_left
 ·have e:(decide (ka=3) && (decide (0 < axa.length) && (decide (axa.length=axb.length) && al)))=false:=by simp [c3]
  rw [e] at hx ⊢
  cases hx
  show Fr _ _ _ _ _ (.ret [bv false,bv false]) _
  refine j00 Tryz.func101 rfl rfl rfl ?_
  repeat' ((conv=>whnf);first|apply gF|refine gA ?_|refine gB ?_|apply gE<;>intro h|refine gC ?_|refine gD ?_|apply gM<;>intro h|apply gO|refine j03 rfl rfl ?_|refine j01 hSa rfl rfl ?_|refine j01 hSb rfl rfl ?_|refine j01 hal rfl rfl ?_)
  all_goals (try (conv=>whnf))
  all_goals first|exact ⟨rfl,rfl⟩|(exfalso; simp_all; done)|(exfalso; omega)
 cases al with
 |false =>
  have e:(decide (ka=3) && (decide (0 < axa.length) && (decide (axa.length=axb.length) && false)))=false:=by simp
  rw [e] at hx ⊢
  cases hx
  show Fr _ _ _ _ _ (.ret [bv false,bv false]) _
  refine j00 Tryz.func101 rfl rfl rfl ?_
  repeat' ((conv=>whnf);first|apply gF|refine gA ?_|refine gB ?_|apply gE<;>intro h|apply gO|refine j03 rfl rfl ?_|refine j01 hSa rfl rfl ?_|refine j01 hSb rfl rfl ?_|refine j01 hal rfl rfl ?_)
  all_goals (try (conv=>whnf))
  all_goals first|exact ⟨rfl,rfl⟩|(exfalso; simp_all; done)|(exfalso; omega)
 |true =>
  have e:(decide (ka=3) && (decide (0 < axa.length) && (decide (axa.length=axb.length) && true)))=true:=by rw [decide_eq_true c1,decide_eq_true c2,decide_eq_true c3]; rfl
  rw [e] at hx ⊢
  have hh:=hsp hx
  cases r with
  |error e =>
   have hh:Fr _ _ _ _ _ (.pan (j0i e)) l':=hh
   show Fr _ _ _ _ _ (.pan (j0i e)) l'
   refine j00 Tryz.func101 rfl rfl rfl ?_
   repeat' ((conv=>whnf);first|apply gT|apply gF|refine gA ?_|refine gB ?_|apply gE<;>intro h|apply gO|refine j03 rfl rfl ?_|refine j01 hSa rfl rfl ?_|refine j01 hSb rfl rfl ?_|refine j01 hal rfl rfl ?_|refine j02 hh rfl rfl rfl rfl rfl rfl rfl ?_)
   all_goals (try (conv=>whnf))
   all_goals first|exact ⟨rfl,rfl⟩|(exfalso; simp_all; done)|(exfalso; omega)
  |ok p =>
   have hh:Fr _ _ _ _ _ (.ret [bv p]) l':=hh
   show Fr _ _ _ _ _ (.ret [bv true,bv p]) l'
   refine j00 Tryz.func101 rfl rfl rfl ?_
   repeat' ((conv=>whnf);first|apply gT|apply gF|refine gA ?_|refine gB ?_|apply gE<;>intro h|apply gO|refine j03 rfl rfl ?_|refine j01 hSa rfl rfl ?_|refine j01 hSb rfl rfl ?_|refine j01 hal rfl rfl ?_|refine j02 hh rfl rfl rfl rfl rfl rfl rfl ?_)
   all_goals (try (conv=>whnf))
   all_goals first|exact ⟨rfl,rfl⟩|(exfalso; simp_all; done)|(exfalso; omega)
open Go Go.Am Go.Gw
theorem and3 {q e1 e2:Bool} (a:q=true) (b:e1=true) (c:e2=true):(q && (e1 && e2))=true:=by rw [a,b,c]; rfl
theorem jlt {cs:List PV} {tot:Int} (ht:tot ≤ 1048576) {W:Tm→M Tm} {T:List Tm→Tm→M Tm} (hW:WOk cs tot W) (hT:jax cs tot T) (fW:∀ t,Fine (W t)) (fT:∀ c t,Fine (T c t)) {S:List Tm→Tm→Tm→M Bool} (hS:j4C cs tot S) (fS:∀ c a b,Fine (S c a b)):j4C cs tot (jmo W T S):=by
 intro ctx cv hc a av ha sa za b wv hb sb zb l r l' h0 h1 hx
 have hc':=hc
 obtain ⟨b0,z0,xs0,rfl,-⟩:=hc'
 have ha':=ha
 have hb':=hb
 obtain ⟨k1,n1,s1,l1,t1,b1,z1,x1,c1,y1,ys1,-,rfl,-⟩:=ha'.open
 obtain ⟨k2,n2,s2,l2,t2,b2,z2,x2,c2,y2,ys2,-,rfl,-⟩:=hb'.open
 have hst:false=false:=rfl
 unfold jmo at hx
 rcases j0d hx with ⟨e,q1,rfl⟩|⟨u0,la,q1,q2⟩
 ·rcases j0Z q1 with ⟨a1,a2,a3⟩|⟨a1,a2,a3⟩
  ·cases a3
  ·cases a3
   subst a2
   have hk:=j8A cs tot l' a1
   show Fr _ _ _ _ _ (.pan (j0i 22)) l'
   refine j00 Tryz.func69 rfl rfl rfl ?_
   repeat' ((conv=>whnf);first|refine j02 hk rfl rfl rfl rfl rfl rfl rfl ?_)
   all_goals (try (conv=>whnf))
   all_goals first|exact ⟨rfl,rfl⟩|(exfalso; omega)|exact absurd ((and3 (by assumption) (by assumption) (by assumption)).symm.trans hst) (by simp)
 rcases j0Z q1 with ⟨a1,a2,a3⟩|⟨a1,a2,a3⟩
 rotate_left
 ·cases a3
 subst a2
 have hk:=j7f cs tot l a1 h1 ht
 have hsm:=j8r a _ ha b _ hb
 cases heq:eqTm a b with
 |true =>
  rw [heq] at q2 hsm
  cases q2
  show Fr _ _ _ _ _ (.ret [bv true]) _
  refine j00 Tryz.func69 rfl rfl rfl ?_
  repeat' ((conv=>whnf);first|apply gT|refine j03 rfl rfl ?_|refine j02 hk rfl rfl rfl rfl rfl rfl rfl ?_|refine j01 hsm rfl rfl ?_)
  all_goals (try (conv=>whnf))
  all_goals first|exact ⟨rfl,rfl⟩|(exfalso; omega)|exact absurd ((and3 (by assumption) (by assumption) (by assumption)).symm.trans hst) (by simp)
 |false =>
 rw [heq] at q2 hsm
 have q2:(bnd (jfR S ctx a b) fun ok=>match ok with
  |true=>mok true
  |false=>bnd (W a) fun x=>bnd (W b) fun y=>bnd (j7X S ctx a b x y) fun q=>match q with
   |true=>mok true
   |false=>j5e W T S ctx x y) (l - 1)=some (r,l'):=q2
 have flz:Fine (jfR S ctx a b):=by
  unfold jfR
  split
  ·exact j6f fS _ _ _
  ·exact j0p _
 rcases j0d q2 with ⟨e,q3,rfl⟩|⟨ok,lb,q3,q4⟩
 ·have hz:Fr _ _ _ _ _ (.pan (j0i e)) l':=jgt hS fS ctx _ hc a _ ha sa za b _ hb sb zb (l - 1) _ l' (by omega) (by omega) q3
  show Fr _ _ _ _ _ (.pan (j0i e)) l'
  refine j00 Tryz.func69 rfl rfl rfl ?_
  repeat' ((conv=>whnf);first|apply gF|refine j02 hk rfl rfl rfl rfl rfl rfl rfl ?_|refine j01 hsm rfl rfl ?_|refine j02 hz rfl rfl rfl rfl rfl rfl rfl ?_)
  all_goals (try (conv=>whnf))
  all_goals first|exact ⟨rfl,rfl⟩|(exfalso; omega)|exact absurd ((and3 (by assumption) (by assumption) (by assumption)).symm.trans hst) (by simp)
 have hz:Fr _ _ _ _ _ (.ret [bv (ja5 a b),bv ok]) lb:=jgt hS fS ctx _ hc a _ ha sa za b _ hb sb zb (l - 1) _ lb (by omega) (by omega) q3
 have hlb:=flz.dn (l - 1) _ lb (by omega) q3
 cases ok with
 |true =>
  cases q4
  show Fr _ _ _ _ _ (.ret [bv true]) _
  refine j00 Tryz.func69 rfl rfl rfl ?_
  repeat' ((conv=>whnf);first|apply gT|apply gF|refine j03 rfl rfl ?_|refine j02 hk rfl rfl rfl rfl rfl rfl rfl ?_|refine j01 hsm rfl rfl ?_|refine j02 hz rfl rfl rfl rfl rfl rfl rfl ?_)
  all_goals (try (conv=>whnf))
  all_goals first|exact ⟨rfl,rfl⟩|(exfalso; omega)|exact absurd ((and3 (by assumption) (by assumption) (by assumption)).symm.trans hst) (by simp)
 |false =>
 have q4:(bnd (W a) fun x=>bnd (W b) fun y=>bnd (j7X S ctx a b x y) fun q=>match q with
   |true=>mok true
   |false=>j5e W T S ctx x y) lb=some (r,l'):=q4
 rcases j0d q4 with ⟨e,q5,rfl⟩|⟨x,lc,q5,q6⟩
 ·have hwa:Fr _ _ _ _ _ (.pan (j0i e)) l':=(hW a _ ha lb _ l' (by omega) (by omega) q5).2
  show Fr _ _ _ _ _ (.pan (j0i e)) l'
  refine j00 Tryz.func69 rfl rfl rfl ?_
  repeat' ((conv=>whnf);first|apply gF|apply gO|refine j02 hk rfl rfl rfl rfl rfl rfl rfl ?_|refine j01 hsm rfl rfl ?_|refine j02 hz rfl rfl rfl rfl rfl rfl rfl ?_|refine j02 hwa rfl rfl rfl rfl rfl rfl rfl ?_|apply gK)
  all_goals (try (conv=>whnf))
  all_goals first|exact ⟨rfl,rfl⟩|(exfalso; omega)|exact absurd ((and3 (by assumption) (by assumption) (by assumption)).symm.trans hst) (by simp)
 obtain ⟨hx2,wx,hwx,hwa⟩:=hW a _ ha lb _ lc (by omega) (by omega) q5
 obtain ⟨sx,zx⟩:=hx2 x rfl
 have hlc:=(fW a).dn lb _ lc (by omega) q5
 have hwx':=hwx
 obtain ⟨k3,n3,s3,l3,t3,b3,z3,x3,c3,y3,ys3,-,rfl,-⟩:=hwx'.open
 rcases j0d q6 with ⟨e,q7,rfl⟩|⟨y,ld,q7,q8⟩
 ·have hwb:Fr _ _ _ _ _ (.pan (j0i e)) l':=(hW b _ hb lc _ l' (by omega) (by omega) q7).2
  show Fr _ _ _ _ _ (.pan (j0i e)) l'
  refine j00 Tryz.func69 rfl rfl rfl ?_
  repeat' ((conv=>whnf);first|apply gF|apply gO|refine j02 hk rfl rfl rfl rfl rfl rfl rfl ?_|refine j01 hsm rfl rfl ?_|refine j02 hz rfl rfl rfl rfl rfl rfl rfl ?_|refine j02 hwa rfl rfl rfl rfl rfl rfl rfl ?_|refine j02 hwb rfl rfl rfl rfl rfl rfl rfl ?_|apply gK)
  all_goals (try (conv=>whnf))
  all_goals first|exact ⟨rfl,rfl⟩|(exfalso; omega)|exact absurd ((and3 (by assumption) (by assumption) (by assumption)).symm.trans hst) (by simp)
 obtain ⟨hy2,wy,hwy,hwb⟩:=hW b _ hb lc _ ld (by omega) (by omega) q7
 obtain ⟨sy,zy⟩:=hy2 y rfl
 have hld:=(fW b).dn lc _ ld (by omega) q7
 have hwy':=hwy
 obtain ⟨k4,n4,s4,l4,t4,b4,z4,x4,c4,y4,ys4,-,rfl,-⟩:=hwy'.open
 have hs1:=j8r a _ ha x _ hwx
 have hs2:=j8r b _ hb y _ hwy
 cases hst:ja5 a b && (eqTm a x && eqTm b y) with
 |true =>
  have e0:j7X S ctx a b x y=mok false:=by
   unfold j7X
   rw [hst]
  rw [e0] at q8
  have q8:j5e W T S ctx x y ld=some (r,l'):=q8
  rw [Bool.and_eq_true,Bool.and_eq_true] at hst
  obtain ⟨i1,i2,i3⟩:=hst
  have hst:false=false:=rfl
  refine CrB.via (jbi ht hW hT fW fT hS fS ctx _ hc x _ hwx sx zx y _ hwy sy zy ld r l' (by omega) (by omega) q8) (fun e hp=>?_) (fun q hp=>?_)
  ·refine j00 Tryz.func69 rfl rfl rfl ?_
   repeat' ((conv=>whnf);first|apply gF|apply gN|refine gC ?_|apply gO|refine j02 hk rfl rfl rfl rfl rfl rfl rfl ?_|refine j01 hsm rfl rfl ?_|refine j02 hz rfl rfl rfl rfl rfl rfl rfl ?_|refine j02 hwa rfl rfl rfl rfl rfl rfl rfl ?_|refine j02 hwb rfl rfl rfl rfl rfl rfl rfl ?_|refine j01 hs1 rfl rfl ?_|refine j01 hs2 rfl rfl ?_|refine j02 hp rfl rfl rfl rfl rfl rfl rfl ?_|apply gK)
   all_goals (try (conv=>whnf))
   all_goals first|exact ⟨rfl,rfl⟩|(exfalso; omega)|exact absurd ((and3 (by assumption) (by assumption) (by assumption)).symm.trans hst) (by simp)
  ·refine j00 Tryz.func69 rfl rfl rfl ?_
   repeat' ((conv=>whnf);first|apply gF|apply gN|refine gC ?_|apply gO|refine j03 rfl rfl ?_|refine j02 hk rfl rfl rfl rfl rfl rfl rfl ?_|refine j01 hsm rfl rfl ?_|refine j02 hz rfl rfl rfl rfl rfl rfl rfl ?_|refine j02 hwa rfl rfl rfl rfl rfl rfl rfl ?_|refine j02 hwb rfl rfl rfl rfl rfl rfl rfl ?_|refine j01 hs1 rfl rfl ?_|refine j01 hs2 rfl rfl ?_|refine j02 hp rfl rfl rfl rfl rfl rfl rfl ?_|apply gK)
   all_goals (try (conv=>whnf))
   all_goals first|exact ⟨rfl,rfl⟩|(exfalso; omega)|exact absurd ((and3 (by assumption) (by assumption) (by assumption)).symm.trans hst) (by simp)
 |false =>
  have e0:j7X S ctx a b x y=j5T S ctx x y:=by
   unfold j7X
   rw [hst]
  rw [e0] at q8
  rcases j0d q8 with ⟨e,q9,rfl⟩|⟨fo,le,q9,q10⟩
  ·have hfo:Fr _ _ _ _ _ (.pan (j0i e)) l':=jde hS fS ctx _ hc x _ hwx sx zx y _ hwy sy zy ld _ l' (by omega) (by omega) q9
   show Fr _ _ _ _ _ (.pan (j0i e)) l'
   refine j00 Tryz.func69 rfl rfl rfl ?_
   repeat' ((conv=>whnf);first|apply gT|apply gF|apply gN|refine gC ?_|refine gD ?_|apply gM<;>intro h|apply gO|refine j02 hk rfl rfl rfl rfl rfl rfl rfl ?_|refine j01 hsm rfl rfl ?_|refine j02 hz rfl rfl rfl rfl rfl rfl rfl ?_|refine j02 hwa rfl rfl rfl rfl rfl rfl rfl ?_|refine j02 hwb rfl rfl rfl rfl rfl rfl rfl ?_|refine j01 hs1 rfl rfl ?_|refine j01 hs2 rfl rfl ?_|refine j02 hfo rfl rfl rfl rfl rfl rfl rfl ?_|apply gK)
   all_goals (try (conv=>whnf))
   all_goals first|exact ⟨rfl,rfl⟩|(exfalso; omega)|exact absurd ((and3 (by assumption) (by assumption) (by assumption)).symm.trans hst) (by simp)
  have hfo:Fr _ _ _ _ _ (.ret [bv fo]) le:=jde hS fS ctx _ hc x _ hwx sx zx y _ hwy sy zy ld _ le (by omega) (by omega) q9
  have hle:=(jbl fS ctx x y).dn ld _ le (by omega) q9
  cases fo with
  |true =>
   cases q10
   show Fr _ _ _ _ _ (.ret [bv true]) _
   refine j00 Tryz.func69 rfl rfl rfl ?_
   repeat' ((conv=>whnf);first|apply gT|apply gF|apply gN|refine gC ?_|refine gD ?_|apply gM<;>intro h|apply gO|refine j03 rfl rfl ?_|refine j02 hk rfl rfl rfl rfl rfl rfl rfl ?_|refine j01 hsm rfl rfl ?_|refine j02 hz rfl rfl rfl rfl rfl rfl rfl ?_|refine j02 hwa rfl rfl rfl rfl rfl rfl rfl ?_|refine j02 hwb rfl rfl rfl rfl rfl rfl rfl ?_|refine j01 hs1 rfl rfl ?_|refine j01 hs2 rfl rfl ?_|refine j02 hfo rfl rfl rfl rfl rfl rfl rfl ?_|apply gK)
   all_goals (try (conv=>whnf))
   all_goals first|exact ⟨rfl,rfl⟩|(exfalso; omega)|exact absurd ((and3 (by assumption) (by assumption) (by assumption)).symm.trans hst) (by simp)
  |false =>
   have q10:j5e W T S ctx x y le=some (r,l'):=q10
   refine CrB.via (jbi ht hW hT fW fT hS fS ctx _ hc x _ hwx sx zx y _ hwy sy zy le r l' (by omega) (by omega) q10) (fun e hp=>?_) (fun q hp=>?_)
   ·refine j00 Tryz.func69 rfl rfl rfl ?_
    repeat' ((conv=>whnf);first|apply gT|apply gF|apply gN|refine gC ?_|refine gD ?_|apply gM<;>intro h|apply gO|refine j02 hk rfl rfl rfl rfl rfl rfl rfl ?_|refine j01 hsm rfl rfl ?_|refine j02 hz rfl rfl rfl rfl rfl rfl rfl ?_|refine j02 hwa rfl rfl rfl rfl rfl rfl rfl ?_|refine j02 hwb rfl rfl rfl rfl rfl rfl rfl ?_|refine j01 hs1 rfl rfl ?_|refine j01 hs2 rfl rfl ?_|refine j02 hfo rfl rfl rfl rfl rfl rfl rfl ?_|refine j02 hp rfl rfl rfl rfl rfl rfl rfl ?_|apply gK)
    all_goals (try (conv=>whnf))
    all_goals first|exact ⟨rfl,rfl⟩|(exfalso; omega)|exact absurd ((and3 (by assumption) (by assumption) (by assumption)).symm.trans hst) (by simp)
   ·refine j00 Tryz.func69 rfl rfl rfl ?_
    repeat' ((conv=>whnf);first|apply gT|apply gF|apply gN|refine gC ?_|refine gD ?_|apply gM<;>intro h|apply gO|refine j03 rfl rfl ?_|refine j02 hk rfl rfl rfl rfl rfl rfl rfl ?_|refine j01 hsm rfl rfl ?_|refine j02 hz rfl rfl rfl rfl rfl rfl rfl ?_|refine j02 hwa rfl rfl rfl rfl rfl rfl rfl ?_|refine j02 hwb rfl rfl rfl rfl rfl rfl rfl ?_|refine j01 hs1 rfl rfl ?_|refine j01 hs2 rfl rfl ?_|refine j02 hfo rfl rfl rfl rfl rfl rfl rfl ?_|refine j02 hp rfl rfl rfl rfl rfl rfl rfl ?_|apply gK)
    all_goals (try (conv=>whnf))
    all_goals first|exact ⟨rfl,rfl⟩|(exfalso; omega)|exact absurd ((and3 (by assumption) (by assumption) (by assumption)).symm.trans hst) (by simp)
theorem W_ok (E:Nv) (cs:List PV) (hE:NvP E (.cp cs)) (tot:Int) (ht:tot ≤ 1048576) (n:Nat):WOk cs tot (ja8 E n):=by
 intro t v h l r l' h0 h1 hx
 obtain ⟨hs,hf⟩:=j6y E cs hE tot ht n t v h l r l' h0 h1 hx
 have hnz:=(j1E (E:=E) n t).nz
 refine ⟨fun x hx=>⟨(hs x hx).1,(hs x hx).2.1⟩,?_⟩
 obtain ⟨k1,n1,s1,l1,t1,b1,z1,x1,c1,y1,ys1,-,rfl,-⟩:=h.open
 cases r with
 |error e =>
  have he:¬ e=0:=fun e0=>by
   subst e0
   exact hnz _ _ hx
  have hm:=jlx tz (.ag zTm) j5i e he
  simp only [errV] at hf
  show Fr _ _ _ _ _ (.pan (j0i e)) l'
  refine j00 Tryz.func102 rfl rfl rfl ?_
  repeat' ((conv=>whnf);first|apply gO|refine j02 hf rfl rfl rfl rfl rfl rfl rfl ?_|refine j0Y hm (fun _=>?_)|apply gK)
  all_goals (try (conv=>whnf))
  all_goals exact ⟨rfl,rfl⟩
 |ok x =>
  have hxw:=(hs x rfl).2.2
  have hm:=jl1 x _ hxw
  unfold TmW at hxw
  simp only [errV] at hf
  obtain ⟨k9,n9,s9,b9,z9,x9,c9,y9,ys9,he9⟩:=j0a x
  rw [he9] at hf hm hxw
  refine ⟨_,hxw,?_⟩
  refine j00 Tryz.func102 rfl rfl rfl ?_
  repeat' ((conv=>whnf);first|apply gO|apply gP|refine j03 rfl rfl ?_|refine j02 hf rfl rfl rfl rfl rfl rfl rfl ?_|refine j05 hm (fun _=>?_)|apply gK)
  all_goals (try (conv=>whnf))
  all_goals exact ⟨rfl,rfl⟩
theorem T_ok (E:Nv) (cs:List PV) (hE:NvP E (.cp cs)) (tot:Int) (ht:tot ≤ 1048576):∀ n,jax cs tot (typF E n)
 |0=>fun _ _ _ _ _ _ _ _ _ _ _ _ h=>by cases h
 |n + 1=>jnc ht E hE (ja8 E n) (typF E n) (W_ok E cs hE tot ht n) (T_ok E cs hE tot ht n) (j1E n) (j5B n)
theorem S_ok (E:Nv) (cs:List PV) (hE:NvP E (.cp cs)) (tot:Int) (ht:tot ≤ 1048576):∀ n,j4C cs tot (joq E n)
 |0=>fun _ _ _ _ _ _ _ _ _ _ _ _ _ _ _ _ _ _ h=>by cases h
 |n + 1=>jlt ht (W_ok E cs hE tot ht n) (T_ok E cs hE tot ht n) (j1E n) (j5B n) (S_ok E cs hE tot ht n) (j7i n)
end Go.Proofs.YtljnahbgfmflaaaGreatDoor
