/-
  Heads and arguments of terms that are one (package conv). No statement of the seat.
-/
import Derived.Test.YtljnahbgfmflaaaGreatDoorZIf
set_option linter.unusedVariables false
set_option maxHeartbeats 4000000
set_option maxRecDepth 100000
set_option linter.unusedSimpArgs false
set_option linter.unnecessarySimpa false
namespace Go.Proofs.YtljnahbgfmflaaaGreatDoor
open Go Go.Am Go.Gw
def CrB (f:FuncId) (args cs:List PV) (tot l:Int) (r:Except Int Bool) (l':Int):Prop:=match r with
 | .ok q=>Fr f args cs tot l (.ret [bv q]) l'
 | .error e=>Fr f args cs tot l (.pan (j0i e)) l'
def j4C (cs:List PV) (tot:Int) (S:List Tm→Tm→Tm→M Bool):Prop:=∀ ctx cv,CtxP ctx cv→∀ a av,TmP a av→shT a=true→sizT a ≤ 2000→∀ b wv,TmP b wv→shT b=true→sizT b ≤ 2000→∀ l r l',0 ≤ l→l ≤ tot→S ctx a b l=some (r,l')→CrB 69 [.ci [.bp 0 0],cv,av,wv] cs tot l r l'
theorem jaV:∀ {ls ms:List Lv},j1C ls ms=true→ls.length=ms.length
 |[],[],_=>rfl
 |[],_ :: _,h=>by simp [j1C] at h
 |_ :: _,[],h=>by simp [j1C] at h
 |l :: r,m :: s,h=>by
  simp only [j1C,Bool.and_eq_true] at h
  simp [jaV h.2]
theorem jl7 {ls ms:List Lv} {i:Nat} {l m:Lv} (hl:ls[i]? = some l) (hm:ms[i]? = some m):j1C (ls.drop i) (ms.drop i)=(j8a l m && j1C (ls.drop (i + 1)) (ms.drop (i + 1))):=by rw [drop_at hl,drop_at hm,j1C]
theorem jeU (ls ms:List Lv) (b b':Bool) (z z':Nat) (xs xs':List PV) (hz:z=3∨xs=[]) (hz':z'=3∨xs'=[]) (hxs:LvsP ls xs) (hxs':LvsP ms xs') (hbd:ls.length ≤ 1000000) :
  Pf C1 151 [.sl b z xs,.sl b' z' xs',.fn 18 [] []] [bv (j1C ls ms)]:=by
 have hlen:=hxs.len
 have hlen':=hxs'.len
 refine j00 Tryz.func151 rfl rfl rfl ?_
 repeat' ((conv=>whnf);first|apply gN|apply gE<;>intro h|refine j04 rfl ?_)
 all_goals (try (conv=>whnf))
 rotate_left
 ·have e:j1C ls ms=false:=Bool.eq_false_iff.2 fun e=>by
   have:=jaV e
   omega
  rw [e]
 refine j09 (G:=Nat) (fun i=>[(17,iv i)]) (fun _=>_) (fun i=>i ≤ ls.length∧j1C (ls.drop i) (ms.drop i)=j1C ls ms) (fun i=>ls.length - i) 0 ⟨by omega,rfl⟩ rfl rfl ?_
 rintro i ⟨hi,hall⟩
 dsimp only at hi hall ⊢
 repeat' ((conv=>whnf);first|apply gE<;>intro h|apply gQ|refine j04 rfl ?_)
 all_goals (try (conv=>whnf))
 ·have hi':i < ls.length:=by omega
  obtain ⟨tc,htc⟩:∃ tc,ls[i]? = some tc:=⟨_,List.getElem?_eq_getElem hi'⟩
  obtain ⟨td,htd⟩:∃ td,ms[i]? = some td:=⟨_,List.getElem?_eq_getElem (by omega)⟩
  obtain ⟨v,hv,hl⟩:=hxs.at htc
  obtain ⟨w,hw,hm⟩:=hxs'.at htd
  have hsm:=jdR tc v hl td w hm
  rw [jl7 htc htd] at hall
  obtain ⟨k1,n1,l1,b1,z1,x1,rfl,rfl,-⟩:=hl.open
  obtain ⟨k2,n2,l2,b2,z2,x2,rfl,rfl,-⟩:=hm.open
  repeat' ((conv=>whnf);first|apply gN|apply gM<;>intro h|apply gO|apply gQ|refine gV ?_|refine j04 rfl ?_|refine VIdx.mk _ hv ?_|refine VIdx.mk _ hw ?_|refine VOk.mk (j07 rfl hz) ?_|refine VOk.mk (j07 rfl hz') ?_|refine j01 hsm rfl rfl ?_)
  all_goals (try (conv=>whnf))
  ·refine VAgain.mk _ rfl _ (j0h rfl rfl rfl) ⟨i + 1,⟨hi',?_⟩,by omega,rfl⟩
   rw [← hall,(by assumption:j8a _ _=true)]
   rfl
  ·rw [← hall,(by assumption:j8a _ _=false)]
   rfl
 ·have e:ls.drop i=[]:=List.drop_of_length_le (by omega)
  have e':ms.drop i=[]:=List.drop_of_length_le (by omega)
  rw [e,e',j1C] at hall
  rw [← hall]
theorem jaZ (a:Tm) (v:PV) (h:TmP a v) (b:Tm) (w:PV) (h':TmP b w) (hl:a.levels.length ≤ 1000000):Pf C1 154 [v,w] [bv (ja6 a b)]:=by
 obtain ⟨k1,n1,s1,l1,t1,b1,z1,x1,c1,y1,ys1,rfl,rfl,hz1,hx1,-⟩:=h.open
 obtain ⟨k2,n2,s2,l2,t2,b2,z2,x2,c2,y2,ys2,rfl,rfl,hz2,hx2,-⟩:=h'.open
 have he:=jeU l1 l2 b1 b2 z1 z2 x1 x2 hz1 hz2 hx1 hx2 hl
 have e:ja6 (.mk k1 n1 s1 l1 t1) (.mk k2 n2 s2 l2 t2)=(decide (k1=k2) && ((decide (k1=1) && decide (n1=n2)) || (decide (k1=3) && (s1 == s2 && j1C l1 l2)))):=rfl
 rw [e]
 clear e
 generalize j1C l1 l2=q at *
 by_cases e1:k1=k2
 ·subst e1
  by_cases e2:k1=1
  ·subst e2
   have er:(decide ((1:Int)=1) && ((decide ((1:Int)=1) && decide (n1=n2)) || (decide ((1:Int)=3) && (s1 == s2 && q))))=decide (n1=n2):=by simp
   rw [er]
   refine j00 Tryz.func154 rfl rfl rfl ?_
   repeat' ((conv=>whnf);first|apply gT|apply gF|refine gA ?_|refine gB ?_|apply gE<;>intro h|refine j04 rfl ?_)
   all_goals (try (conv=>whnf))
   all_goals first
    |rfl
    |(refine j1R ?_; simp_all; done)
  ·by_cases e3:k1=3
   ·subst e3
    by_cases e4:s1=s2
    ·subst e4
     have er:(decide ((3:Int)=3) && ((decide ((3:Int)=1) && decide (n1=n2)) || (decide ((3:Int)=3) && (s1 == s1 && q))))=q:=by simp
     rw [er]
     have hq:(s1 == s1)=true:=by simp
     refine j00 Tryz.func154 rfl rfl rfl ?_
     repeat' ((conv=>whnf);first|apply gT|apply gF|refine gC ?_|refine j04 rfl ?_|refine j3v ?_|refine j01 he rfl rfl ?_)
     all_goals (try (conv=>whnf))
     all_goals first
      |rfl
      |(refine j1R ?_; simp_all; done)
    ·have hq:(s1 == s2)=false:=by simpa using e4
     have er:(decide ((3:Int)=3) && ((decide ((3:Int)=1) && decide (n1=n2)) || (decide ((3:Int)=3) && (s1 == s2 && q))))=false:=by simp [e4]
     rw [er]
     refine j00 Tryz.func154 rfl rfl rfl ?_
     repeat' ((conv=>whnf);first|apply gT|apply gF|refine gD ?_|refine j04 rfl ?_|refine j3v ?_)
     all_goals (try (conv=>whnf))
     all_goals first
      |rfl
      |(refine j1R ?_; simp_all; done)
      |(exfalso; simp_all; done)
   ·have er:(decide (k1=k1) && ((decide (k1=1) && decide (n1=n2)) || (decide (k1=3) && (s1 == s2 && q))))=false:=by simp [e2,e3]
    rw [er]
    refine j00 Tryz.func154 rfl rfl rfl ?_
    repeat' ((conv=>whnf);first|apply gF|apply gN|refine gB ?_|apply gE<;>intro h|refine j04 rfl ?_)
    all_goals (try (conv=>whnf))
    all_goals first
     |rfl
     |(exfalso; omega)
     |(refine j1R ?_; simp_all; done)
 ·have er:(decide (k1=k2) && ((decide (k1=1) && decide (n1=n2)) || (decide (k1=3) && (s1 == s2 && q))))=false:=by simp [e1]
  rw [er]
  refine j00 Tryz.func154 rfl rfl rfl ?_
  repeat' ((conv=>whnf);first|apply gN|refine gB ?_|refine j04 rfl ?_)
  all_goals (try (conv=>whnf))
  all_goals first
   |rfl
   |(exfalso; omega)
   |(refine j1R ?_; simp_all; done)
def jqf (cv:PV):PV:=.fn 194 [] [.ci [.ci [.bp 0 0]],.cp [cv]]
theorem jfx {cs:List PV} {tot:Int} {S:List Tm→Tm→Tm→M Bool} (hS:j4C cs tot S) (ctx:List Tm) (cv:PV) (hc:CtxP ctx cv) (a:Tm) (av:PV) (ha:TmP a av) (sa:shT a=true) (za:sizT a ≤ 2000) (b:Tm) (wv:PV) (hb:TmP b wv) (sb:shT b=true) (zb:sizT b ≤ 2000) (l:Int) (r:Except Int Bool) (l':Int) (h0:0 ≤ l) (h1:l ≤ tot) (hx:S ctx a b l=some (r,l')) :
  CrB 194 [av,wv,.ci [.ci [.bp 0 0]],.cp [cv]] cs tot l r l':=by
 have hs:=hS ctx cv hc a av ha sa za b wv hb sb zb l r l' h0 h1 hx
 obtain ⟨b0,z0,xs,rfl,-⟩:=hc
 obtain ⟨k1,n1,s1,l1,t1,b1,z1,x1,c1,y1,ys1,rfl,rfl,-⟩:=ha.open
 obtain ⟨k2,n2,s2,l2,t2,b2,z2,x2,c2,y2,ys2,rfl,rfl,-⟩:=hb.open
 cases r with
 |error e =>
  have hs:Fr _ _ _ _ _ (.pan (j0i e)) l':=hs
  show Fr _ _ _ _ _ (.pan (j0i e)) l'
  refine j00 Tryz.func194 rfl rfl rfl ?_
  repeat' ((conv=>whnf);first|refine j02 hs rfl rfl rfl rfl rfl rfl rfl ?_)
  all_goals (try (conv=>whnf))
  all_goals exact ⟨rfl,rfl⟩
 |ok q =>
  have hs:Fr _ _ _ _ _ (.ret [bv q]) l':=hs
  show Fr _ _ _ _ _ (.ret [bv q]) l'
  refine j00 Tryz.func194 rfl rfl rfl ?_
  repeat' ((conv=>whnf);first|refine j03 rfl rfl ?_|refine j02 hs rfl rfl rfl rfl rfl rfl rfl ?_)
  all_goals (try (conv=>whnf))
  all_goals exact ⟨rfl,rfl⟩
theorem jkP {S:Tm→Tm→M Bool} {x y:List Tm} {i:Nat} {a b:Tm} (ha:x[i]? = some a) (hb:y[i]? = some b):j9l S (x.drop i) (y.drop i)=bnd (S a b) fun q=>match q with
  |true=>j9l S (x.drop (i + 1)) (y.drop (i + 1))
  |false=>mok false:=by
 rw [drop_at ha,drop_at hb,j9l]
 rfl
theorem jkH {cs:List PV} {tot:Int} {S:List Tm→Tm→Tm→M Bool} (hS:j4C cs tot S) (fS:∀ c a b,Fine (S c a b)) (ctx:List Tm) (cv:PV) (hc:CtxP ctx cv) (x y:List Tm) (b b':Bool) (z z':Nat) (xs ys:List PV) (hz:z=5∨xs=[]) (hz':z'=5∨ys=[]) (hxs:TmsP x xs) (hys:TmsP y ys) (hbd:x.length ≤ 2000) (sx:∀ t ∈ x,shT t=true∧sizT t ≤ 2000) (sy:∀ t ∈ y,shT t=true∧sizT t ≤ 2000)
  (l:Int) (r:Except Int Bool) (l':Int) (h0:0 ≤ l) (h1:l ≤ tot) (hx:jkU (S ctx) x y l=some (r,l')):CrB 153 [.sl b z xs,.sl b' z' ys,jqf cv] cs tot l r l':=by
 have hlen:=hxs.len
 have hlen':=hys.len
 have hc':=hc
 obtain ⟨b0,z0,xs0,rfl,-⟩:=hc'
 have hrun:Finds C1 153 [.sl b z xs,.sl b' z' ys,jqf (.sl b0 z0 xs0)] [runB cs tot l] fun r' st'=>st'=[runB cs tot l']∧(match r with
   | .ok q=>r' = .ret [bv q]
   | .error e=>r' = .pan (j0i e)):=by
  refine j00 Tryz.func153 rfl rfl rfl ?_
  by_cases hl:x.length=y.length
  ·simp only [jkU,decide_eq_true hl] at hx
   repeat' ((conv=>whnf);first|apply gN|apply gE<;>intro h|refine j03 rfl rfl ?_)
   all_goals (try (conv=>whnf))
   rotate_left
   ·exfalso
    omega
   refine j09 (G:=Nat × Int) (fun g=>[(17,iv g.1)]) (fun g=>[runB cs tot g.2]) (fun g=>g.1 ≤ x.length∧0 ≤ g.2∧g.2 ≤ tot∧j9l (S ctx) (x.drop g.1) (y.drop g.1) g.2=some (r,l')) (fun g=>x.length - g.1) (0,l) ⟨by omega,h0,h1,hx⟩ rfl rfl ?_
   rintro ⟨i,l⟩ ⟨hi,h0,h1,hx⟩
   dsimp only at hi h0 h1 hx ⊢
   by_cases hi':i < x.length
   ·obtain ⟨tc,htc⟩:∃ tc,x[i]? = some tc:=⟨_,List.getElem?_eq_getElem hi'⟩
    obtain ⟨td,htd⟩:∃ td,y[i]? = some td:=⟨_,List.getElem?_eq_getElem (by omega)⟩
    obtain ⟨v,hv,ha⟩:=hxs.at htc
    obtain ⟨w,hw,hb⟩:=hys.at htd
    obtain ⟨sa,za⟩:=sx _ (List.mem_of_getElem? htc)
    obtain ⟨sb,zb⟩:=sy _ (List.mem_of_getElem? htd)
    rw [jkP htc htd] at hx
    have hsp:=fun r l'=>jfx hS ctx _ hc tc v ha sa za td w hb sb zb l r l' h0 h1
    obtain ⟨k1,n1,s1,l1,t1,b1,z1,x1,c1,y1,ys1,-,rfl,-⟩:=ha.open
    obtain ⟨k2,n2,s2,l2,t2,b2,z2,x2,c2,y2,ys2,-,rfl,-⟩:=hb.open
    rcases j0d hx with ⟨e,q1,rfl⟩|⟨q,la,q1,q2⟩
    ·have hf:Fr _ _ _ _ _ (.pan (j0i e)) l':=hsp _ _ q1
     repeat' ((conv=>whnf);first|apply gE<;>intro h|apply gO|apply gQ|refine j03 rfl rfl ?_|refine VIdx.mk _ hv ?_|refine VIdx.mk _ hw ?_|refine VOk.mk (j07 rfl hz) ?_|refine VOk.mk (j07 rfl hz') ?_|refine j02 hf rfl rfl rfl rfl rfl rfl rfl ?_)
     all_goals (try (conv=>whnf))
     all_goals first|exact ⟨rfl,rfl⟩|(exfalso; omega)
    ·have hf:Fr _ _ _ _ _ (.ret [bv q]) la:=hsp _ _ q1
     have hd:=(fS ctx tc td).dn l _ la h0 q1
     cases q with
     |false =>
      cases q2
      repeat' ((conv=>whnf);first|apply gT|apply gE<;>intro h|apply gO|apply gQ|refine j03 rfl rfl ?_|refine VIdx.mk _ hv ?_|refine VIdx.mk _ hw ?_|refine VOk.mk (j07 rfl hz) ?_|refine VOk.mk (j07 rfl hz') ?_|refine j02 hf rfl rfl rfl rfl rfl rfl rfl ?_)
      all_goals (try (conv=>whnf))
      all_goals first|exact ⟨rfl,rfl⟩|(exfalso; omega)
     |true =>
      repeat' ((conv=>whnf);first|apply gF|apply gE<;>intro h|apply gO|apply gQ|refine gV ?_|refine j03 rfl rfl ?_|refine VIdx.mk _ hv ?_|refine VIdx.mk _ hw ?_|refine VOk.mk (j07 rfl hz) ?_|refine VOk.mk (j07 rfl hz') ?_|refine j02 hf rfl rfl rfl rfl rfl rfl rfl ?_)
      all_goals (try (conv=>whnf))
      all_goals first|(exfalso; omega)|skip
      exact VAgain.mk _ rfl _ (j0h rfl rfl rfl) ⟨(i + 1,la),⟨hi',by dsimp only; omega,by dsimp only; omega,q2⟩,by dsimp only; omega,rfl⟩
   ·have e:x.drop i=[]:=List.drop_of_length_le (by omega)
    rw [e] at hx
    cases hx
    repeat' ((conv=>whnf);first|apply gE<;>intro h|apply gQ|refine j03 rfl rfl ?_)
    all_goals (try (conv=>whnf))
    all_goals first|exact ⟨rfl,rfl⟩|(exfalso; omega)
  ·simp only [jkU,decide_eq_false hl] at hx
   cases hx
   repeat' ((conv=>whnf);first|apply gN|apply gE<;>intro h|refine j03 rfl rfl ?_)
   all_goals (try (conv=>whnf))
   all_goals first|exact ⟨rfl,rfl⟩|(exfalso; omega)
 obtain ⟨r',st',⟨rfl,hq⟩,N,hN⟩:=hrun
 cases r with
 |ok q =>
  obtain rfl:=hq
  exact ⟨_,_,⟨rfl,rfl⟩,N,hN⟩
 |error e =>
  obtain rfl:=hq
  exact ⟨_,_,⟨rfl,rfl⟩,N,hN⟩
open Go Go.Am Go.Gw
theorem j8w {t:Tm} {v:PV} (h:TmP t v) (hs:shT t=true) (hz:sizT t ≤ 2000):∃ k n s b z xs c y ys ab az axs,Pf C1 122 [v] [.ag [iv k,iv n,sv s,.sl b z xs,.sl c y ys],.sl ab az axs]∧TmP (spF t).1 (.ag [iv k,iv n,sv s,.sl b z xs,.sl c y ys])∧(az=5∨axs=[])∧TmsP (j1c t) axs∧(j1c t).length ≤ 2000∧(∀ a ∈ j1c t,shT a=true∧sizT a ≤ 2000)∧shT (spF t).1=true:=by
 have hsp:=j9P t
 obtain ⟨hs1,hs2,hs3⟩:=jgA t hs
 have hS:=j8M t v h (by omega)
 obtain ⟨hw1,hw2⟩:=jmk t h.w
 obtain ⟨ab,az,axs,hae,haz,haxs⟩:=j7G (ts:=j1c t) fun a ha=>hw2 a (j3c.1 ha)
 obtain ⟨k,n,s,b,z,xs,c,y,ys,he⟩:=j0a (spF t).1
 unfold TmW at hw1
 rw [he] at hS hw1
 rw [hae] at hS
 refine ⟨k,n,s,b,z,xs,c,y,ys,ab,az,axs,hS,hw1,haz,haxs,by simp [j1c]; omega,fun a ha=>?_,hs1⟩
 have hm:=j3c.1 ha
 have:=hsp.2 a hm
 exact ⟨hs2 a hm,by omega⟩
theorem jnQ {t:Tm} (h:shT t=true):t.levels.length ≤ 1000000:=by
 obtain ⟨k,n,s,ls,ts⟩:=t
 obtain ⟨a1,a2,a3,a4,a5,a6⟩:=j0q h
 show ls.length ≤ 1000000
 by_cases hk:k=3
 ·have:=a3 hk
  omega
 ·have:=a4 hk
  unfold j0H at this
  split at this <;> omega
theorem jb0 {cs:List PV} {tot:Int} {S:List Tm→Tm→Tm→M Bool} (hS:j4C cs tot S) (fS:∀ c a b,Fine (S c a b)) (ctx:List Tm) (cv:PV) (hc:CtxP ctx cv) (a:Tm) (av:PV) (ha:TmP a av) (sa:shT a=true) (za:sizT a ≤ 2000) (b:Tm) (wv:PV) (hb:TmP b wv) (sb:shT b=true) (zb:sizT b ≤ 2000) (l:Int) (r:Except Int Bool) (l':Int) (h0:0 ≤ l) (h1:l ≤ tot) (hx:j7y S ctx a b l=some (r,l')) :
  CrB 155 [.ci [.bp 0 0],cv,av,wv] cs tot l r l':=by
 obtain ⟨ka,na,s_a,ba,zza,xa,ca,ya,ysa,aba,aza,axa,hSa,hPa,hza,hxa,hla,hsa,hsha⟩:=j8w ha sa za
 obtain ⟨kb,nb,s_b,bb,zzb,xb,cb,yb,ysb,abb,azb,axb,hSb,hPb,hzb,hxb,hlb,hsb,hshb⟩:=j8w hb sb zb
 have hal:=jaZ _ _ hPa _ _ hPb (jnQ hsha)
 have hEq:=fun hx=>jkH hS fS ctx cv hc (j1c a) (j1c b) aba abb aza azb axa axb hza hzb hxa hxb hla hsa hsb l r l' h0 h1 hx
 unfold j7y at hx
 have hc':=hc
 obtain ⟨b0,z0,xs0,rfl,-⟩:=hc'
 obtain ⟨k1,n1,s1,l1,t1,b1,z1,x1,c1,y1,ys1,-,rfl,-⟩:=ha.open
 obtain ⟨k2,n2,s2,l2,t2,b2,z2,x2,c2,y2,ys2,-,rfl,-⟩:=hb.open
 cases hq:ja6 (spF a).1 (spF b).1 with
 |false =>
  rw [hq] at hx hal
  cases hx
  show Fr _ _ _ _ _ (.ret [bv false]) _
  refine j00 Tryz.func155 rfl rfl rfl ?_
  repeat' ((conv=>whnf);first|apply gF|apply gO|refine j03 rfl rfl ?_|refine j01 hSa rfl rfl ?_|refine j01 hSb rfl rfl ?_|refine j01 hal rfl rfl ?_)
  all_goals (try (conv=>whnf))
  all_goals exact ⟨rfl,rfl⟩
 |true =>
  rw [hq] at hx hal
  have hE:=hEq hx
  cases r with
  |error e =>
   have hE:Fr _ _ _ _ _ (.pan (j0i e)) l':=hE
   show Fr _ _ _ _ _ (.pan (j0i e)) l'
   refine j00 Tryz.func155 rfl rfl rfl ?_
   repeat' ((conv=>whnf);first|apply gT|apply gO|refine j01 hSa rfl rfl ?_|refine j01 hSb rfl rfl ?_|refine j01 hal rfl rfl ?_)
   all_goals (try (conv=>whnf))
   refine j6S (st1:=[runB cs tot l,.frz [.ci [.bp 0 0]],.frz [.sl b0 z0 xs0],.box 25 [iv k1,iv n1,sv s1,.sl b1 z1 x1,.sl c1 y1 ys1],.box 25 [iv k2,iv n2,sv s2,.sl b2 z2 x2,.sl c2 y2 ys2],.box 25 [iv ka,iv na,sv s_a,.sl ba zza xa,.sl ca ya ysa],.box 25 [iv kb,iv nb,sv s_b,.sl bb zzb xb,.sl cb yb ysb]]) rfl hE rfl rfl rfl rfl rfl rfl ?_
   skip
   all_goals (try (conv=>whnf))
   all_goals exact ⟨rfl,rfl⟩
  |ok q =>
   have hE:Fr _ _ _ _ _ (.ret [bv q]) l':=hE
   show Fr _ _ _ _ _ (.ret [bv q]) l'
   refine j00 Tryz.func155 rfl rfl rfl ?_
   repeat' ((conv=>whnf);first|apply gT|apply gO|refine j01 hSa rfl rfl ?_|refine j01 hSb rfl rfl ?_|refine j01 hal rfl rfl ?_)
   all_goals (try (conv=>whnf))
   refine j6S (st1:=[runB cs tot l,.frz [.ci [.bp 0 0]],.frz [.sl b0 z0 xs0],.box 25 [iv k1,iv n1,sv s1,.sl b1 z1 x1,.sl c1 y1 ys1],.box 25 [iv k2,iv n2,sv s2,.sl b2 z2 x2,.sl c2 y2 ys2],.box 25 [iv ka,iv na,sv s_a,.sl ba zza xa,.sl ca ya ysa],.box 25 [iv kb,iv nb,sv s_b,.sl bb zzb xb,.sl cb yb ysb]]) rfl hE rfl rfl rfl rfl rfl rfl ?_
   repeat' ((conv=>whnf);first|apply gT|refine j03 rfl rfl ?_)
   all_goals (try (conv=>whnf))
   all_goals exact ⟨rfl,rfl⟩
theorem j8J {k n:Int} {s:List UInt8} {ls:List Lv} {ts:List Tm} {i:Nat} (h:i < ts.length):sizT (ts.getD i tz) < sizT (.mk k n s ls ts):=by
 have hm:ts.getD i tz ∈ ts:=List.mem_of_getElem? (getD_at h)
 have:∀ (ts:List Tm) (t:Tm),t ∈ ts→sizT t ≤ j0B ts:=by
  intro ts
  induction ts with
  |nil=>intro t ht; cases ht
  |cons a r ih =>
   intro t ht
   rw [j0B]
   rcases List.mem_cons.1 ht with rfl|ht
   ·omega
   ·have:=ih t ht
    omega
 have:=this ts _ hm
 rw [sizT]
 omega
theorem jmM:shT (.mk 1 0 [] [] [])=true:=jfI (by omega)
theorem jkR {cs:List PV} {tot:Int} {S:List Tm→Tm→Tm→M Bool} (hS:j4C cs tot S) (fS:∀ c a b,Fine (S c a b)) (ctx:List Tm) (cv:PV) (hc:CtxP ctx cv) (a:Tm) (av:PV) (ha:TmP a av) (sa:shT a=true) (za:sizT a ≤ 2000) (b:Tm) (wv:PV) (hb:TmP b wv) (sb:shT b=true) (zb:sizT b ≤ 2000) (l:Int) (r:Except Int Bool) (l':Int) (h0:0 ≤ l) (h1:l ≤ tot) (hk:a.kind=5) (hx:etaB S ctx a b l=some (r,l')) :
  CrB 156 [.ci [.bp 0 0],cv,av,wv] cs tot l r l':=by
 unfold etaB at hx
 have hc':=hc
 obtain ⟨b0,z0,xs0,rfl,-⟩:=hc'
 obtain ⟨k1,n1,s1,l1,t1,b1,z1,x1,c1,y1,ys1,rfl,rfl,-,-,-,-,hy1,hys1,-⟩:=ha.open
 obtain ⟨a1,a2,a3,a4,a5,a6⟩:=j0q sa
 simp only [Tm.kind] at hk
 subst hk
 have hlen2:t1.length=2:=by
  have e:j0T 5=2:=rfl
  omega
 obtain ⟨v0,hv0,h0'⟩:=hys1.at (getD_at (ts:=t1) (i:=0) (by omega))
 obtain ⟨v1,hv1,h1'⟩:=hys1.at (getD_at (ts:=t1) (i:=1) (by omega))
 have m0:t1.getD 0 tz ∈ t1:=List.mem_of_getElem? (getD_at (by omega))
 have m1:t1.getD 1 tz ∈ t1:=List.mem_of_getElem? (getD_at (by omega))
 have e0:(Tm.mk 5 n1 s1 l1 t1).arg 0=t1.getD 0 tz:=rfl
 have e1:(Tm.mk 5 n1 s1 l1 t1).arg 1=t1.getD 1 tz:=rfl
 have sz1:=j8J (k:=5) (n:=n1) (s:=s1) (ls:=l1) (ts:=t1) (i:=1) (by omega)
 rw [e0,e1] at hx
 have hL:=jg1 b wv hb 1 0
 have hoW:TmW ((j5H b 1 0).getD tz):=j5Q fun x hx=>jhi hb.w hx
 rw [j4r] at hL
 have hoS:∀ x,j5H b 1 0=some x→shT x=true:=fun x hx=>jgR hx
 generalize j5H b 1 0=o at *
 obtain ⟨k2,n2,s2,l2,t2,b2,z2,x2,c2,y2,ys2,-,rfl,-⟩:=hb.open
 obtain ⟨k3,n3,s3,l3,t3,b3,z3,x3,c3,y3,ys3,-,rfl,-⟩:=h0'.open
 obtain ⟨k4,n4,s4,l4,t4,b4,z4,x4,c4,y4,ys4,-,rfl,-⟩:=h1'.open
 unfold TmW at hoW
 obtain ⟨k9,n9,s9,b9,z9,x9,c9,y9,ys9,he9⟩:=j0a (o.getD tz)
 rw [he9] at hL hoW
 rcases j0d hx with ⟨e,q1,rfl⟩|⟨up,la,q1,q2⟩
 ·obtain ⟨rfl,rfl,hfi⟩:=j1Y o _ hoW q1
  show Fr _ _ _ _ _ (.pan (j0i 15)) l'
  refine j00 Tryz.func156 rfl rfl rfl ?_
  repeat' ((conv=>whnf);first|refine j01 hL rfl rfl ?_|refine j0v hfi rfl rfl ?_)
  all_goals (try (conv=>whnf))
  all_goals first|exact ⟨rfl,rfl⟩|(exfalso; omega)
 obtain ⟨rfl,rfl,hzu,hfi⟩:=j1Y o _ hoW q1
 have hup:TmP up (.ag [iv k9,iv n9,sv s9,.sl b9 z9 x9,.sl c9 y9 ys9]):=hoW
 rcases j0d q2 with ⟨e,q3,rfl⟩|⟨c2',lb,q3,q4⟩
 ·obtain ⟨rfl,rfl,hw⟩:=j2w ctx _ hc _ _ h0' (a5 _ m0) q3
  show Fr _ _ _ _ _ (.pan (j0i 15)) l'
  refine j00 Tryz.func156 rfl rfl rfl ?_
  repeat' ((conv=>whnf);first|apply gO|apply gQ|refine j01 hL rfl rfl ?_|refine j01 hfi rfl rfl ?_|refine VIdx.mk _ hv0 ?_|refine VIdx.mk _ hv1 ?_|refine VOk.mk (j07 rfl hy1) ?_|refine j0Y hw (fun _=>?_)|apply gK)
  all_goals (try (conv=>whnf))
  all_goals first|exact ⟨rfl,rfl⟩|(exfalso; omega)
 obtain ⟨rfl,rfl,wc,hwc,hw⟩:=j2w ctx _ hc _ _ h0' (a5 _ m0) q3
 have hwc':=hwc
 obtain ⟨b7,z7,x7,rfl,-⟩:=hwc'
 have hvar:=jf9 0
 have hva:TmP (.mk 1 0 [] [] []) (encT (.mk 1 0 [] [] [])):=jfw (by unfold i64; omega)
 have hev:encT (.mk 1 0 [] [] []) = .ag [iv 1,iv 0,sv [],.sl true 0 [],.sl true 0 []]:=by rw [j2q]; rfl
 rw [hev] at hvar hva
 have happ:=j7a up _ hup [.mk 1 0 [] [] []] true 5 [.ag [iv 1,iv 0,sv [],.sl true 0 [],.sl true 0 []]] (.inl rfl) ⟨_,[],rfl,hva,rfl⟩ (by simp)
 have hapW:TmP (appF up [.mk 1 0 [] [] []]) (appV (encT up) [.mk 1 0 [] [] []]):=jeW hup.w (fun x hx=>by rw [List.mem_singleton.1 hx]; exact hva.w)
 have haps:shT (appF up [.mk 1 0 [] [] []])=true:=jfX _ _ (hoS _ rfl) (fun x hx=>by rw [List.mem_singleton.1 hx]; exact jmM)
 obtain ⟨ku,nu,su,bu,zu,xu,cu,yu,ysu,heu⟩:=j0a up
 rw [heu] at happ hapW
 obtain ⟨k5,n5,s5,b5,z5,x5,c5,y5,ys5,he5⟩:=j6n [.mk 1 0 [] [] []] ku nu su bu zu xu cu yu ysu
 rw [he5] at happ hapW
 generalize appF up [.mk 1 0 [] [] []]=ap at *
 have hapW':TmP ((some ap).getD tz) (.ag [iv k5,iv n5,sv s5,.sl b5 z5 x5,.sl c5 y5 ys5]):=hapW
 rcases j0d q4 with ⟨e,q5,rfl⟩|⟨u,lc,q5,q6⟩
 ·obtain ⟨rfl,rfl,hf2⟩:=j1Y _ _ hapW' q5
  show Fr _ _ _ _ _ (.pan (j0i 15)) l'
  refine j00 Tryz.func156 rfl rfl rfl ?_
  repeat' ((conv=>whnf);first|apply gO|apply gP|apply gQ|refine j01 hL rfl rfl ?_|refine j01 hfi rfl rfl ?_|refine VIdx.mk _ hv0 ?_|refine VIdx.mk _ hv1 ?_|refine VOk.mk (j07 rfl hy1) ?_|refine j05 hw (fun _=>?_)|refine j05 hvar (fun _=>?_)|refine j05 happ (fun _=>?_)|refine j0Y hf2 (fun _=>?_)|apply gK)
  all_goals (try (conv=>whnf))
  all_goals first|exact ⟨rfl,rfl⟩|(exfalso; omega)
 obtain ⟨rfl,eu,hzap,hf2⟩:=j1Y _ _ hapW' q5
 cases eu
 have hs:=hS _ _ hwc _ _ h1' (a5 _ m1) (by omega) _ _ hapW haps hzap lc r l' h0 h1 q6
 cases r with
 |error e =>
  have hs:Fr _ _ _ _ _ (.pan (j0i e)) l':=hs
  show Fr _ _ _ _ _ (.pan (j0i e)) l'
  refine j00 Tryz.func156 rfl rfl rfl ?_
  repeat' ((conv=>whnf);first|apply gO|apply gP|apply gQ|refine j01 hL rfl rfl ?_|refine j01 hfi rfl rfl ?_|refine VIdx.mk _ hv0 ?_|refine VIdx.mk _ hv1 ?_|refine VOk.mk (j07 rfl hy1) ?_|refine j05 hw (fun _=>?_)|refine j05 hvar (fun _=>?_)|refine j05 happ (fun _=>?_)|refine j05 hf2 (fun _=>?_)|refine j02 hs rfl rfl rfl rfl rfl rfl rfl ?_|apply gK)
  all_goals (try (conv=>whnf))
  all_goals first|exact ⟨rfl,rfl⟩|(exfalso; omega)
 |ok q =>
  have hs:Fr _ _ _ _ _ (.ret [bv q]) l':=hs
  show Fr _ _ _ _ _ (.ret [bv q]) l'
  refine j00 Tryz.func156 rfl rfl rfl ?_
  repeat' ((conv=>whnf);first|apply gO|apply gP|apply gQ|refine j03 rfl rfl ?_|refine j01 hL rfl rfl ?_|refine j01 hfi rfl rfl ?_|refine VIdx.mk _ hv0 ?_|refine VIdx.mk _ hv1 ?_|refine VOk.mk (j07 rfl hy1) ?_|refine j05 hw (fun _=>?_)|refine j05 hvar (fun _=>?_)|refine j05 happ (fun _=>?_)|refine j05 hf2 (fun _=>?_)|refine j02 hs rfl rfl rfl rfl rfl rfl rfl ?_|apply gK)
  all_goals (try (conv=>whnf))
  all_goals first|exact ⟨rfl,rfl⟩|(exfalso; omega)
open Go Go.Am Go.Gw
theorem CrB.via {f f':FuncId} {args args' cs:List PV} {tot l la l':Int} {r:Except Int Bool} (h:CrB f args cs tot l r l') (h1:∀ e,Fr f args cs tot l (.pan (j0i e)) l'→Fr f' args' cs tot la (.pan (j0i e)) l') (h2:∀ q,Fr f args cs tot l (.ret [bv q]) l'→Fr f' args' cs tot la (.ret [bv q]) l'):CrB f' args' cs tot la r l':=by
 cases r with
 |error e=>exact h1 e h
 |ok q=>exact h2 q h
theorem jch {cs:List PV} {tot:Int} {S:List Tm→Tm→Tm→M Bool} (hS:j4C cs tot S) (fS:∀ c a b,Fine (S c a b)) (ctx:List Tm) (cv:PV) (hc:CtxP ctx cv) (a:Tm) (av:PV) (ha:TmP a av) (sa:shT a=true) (za:sizT a ≤ 2000) (b:Tm) (wv:PV) (hb:TmP b wv) (sb:shT b=true) (zb:sizT b ≤ 2000) (l:Int) (r:Except Int Bool) (l':Int) (h0:0 ≤ l) (h1:l ≤ tot) (hk:a.kind=2∧b.kind=2) (hx:j5T S ctx a b l=some (r,l')) :
  CrB 103 [.ci [.bp 0 0],cv,av,wv] cs tot l r l':=by
 unfold j5T at hx
 rw [if_pos hk] at hx
 cases hx
 obtain ⟨b0,z0,xs0,rfl,-⟩:=hc
 obtain ⟨k1,n1,s1,l1,t1,b1,z1,x1,c1,y1,ys1,rfl,rfl,hz1,hx1,-⟩:=ha.open
 obtain ⟨k2,n2,s2,l2,t2,b2,z2,x2,c2,y2,ys2,rfl,rfl,hz2,hx2,-⟩:=hb.open
 obtain ⟨a1,a2,a3,a4,a5,a6⟩:=j0q sa
 obtain ⟨d1,d2,d3,d4,d5,d6⟩:=j0q sb
 simp only [Tm.kind] at hk
 obtain ⟨rfl,rfl⟩:=hk
 have e:j0H 2=1:=rfl
 have hl1:l1.length=1:=by
  have:=a4 (by omega)
  omega
 have hl2:l2.length=1:=by
  have:=d4 (by omega)
  omega
 obtain ⟨v1,hv1,hl⟩:=hx1.at (show l1[0]? = some (l1.getD 0 (.mk 0 0 [])) by rw [List.getD_eq_getElem?_getD,List.getElem?_eq_getElem (by omega)]; rfl)
 obtain ⟨v2,hv2,hm⟩:=hx2.at (show l2[0]? = some (l2.getD 0 (.mk 0 0 [])) by rw [List.getD_eq_getElem?_getD,List.getElem?_eq_getElem (by omega)]; rfl)
 have hsm:=jdR _ v1 hl _ v2 hm
 have e1:(Tm.mk 2 n1 s1 l1 t1).lv=l1.getD 0 (.mk 0 0 []):=rfl
 have e2:(Tm.mk 2 n2 s2 l2 t2).lv=l2.getD 0 (.mk 0 0 []):=rfl
 rw [e1,e2]
 obtain ⟨k3,n3,l3,b3,z3,x3,-,rfl,-⟩:=hl.open
 obtain ⟨k4,n4,l4,b4,z4,x4,-,rfl,-⟩:=hm.open
 show Fr _ _ _ _ _ (.ret [bv (j8a _ _)]) _
 refine j00 Tryz.func103 rfl rfl rfl ?_
 repeat' ((conv=>whnf);first|apply gT|apply gO|apply gP|apply gQ|refine j03 rfl rfl ?_|refine VIdx.mk _ hv1 ?_|refine VIdx.mk _ hv2 ?_|refine VOk.mk (j07 rfl hz1) ?_|refine VOk.mk (j07 rfl hz2) ?_|refine j05 hsm (fun _=>?_)|apply gK)
 all_goals (try (conv=>whnf))
 all_goals first|exact ⟨rfl,rfl⟩|(exfalso; omega)
theorem jf5 {cs:List PV} {tot:Int} {S:List Tm→Tm→Tm→M Bool} (hS:j4C cs tot S) (fS:∀ c a b,Fine (S c a b)) (ctx:List Tm) (cv:PV) (hc:CtxP ctx cv) (a:Tm) (av:PV) (ha:TmP a av) (sa:shT a=true) (za:sizT a ≤ 2000) (b:Tm) (wv:PV) (hb:TmP b wv) (sb:shT b=true) (zb:sizT b ≤ 2000) (l:Int) (r:Except Int Bool) (l':Int) (h0:0 ≤ l) (h1:l ≤ tot) (hk:a.kind=b.kind∧(a.kind=6∨a.kind=5)) (hx:j5T S ctx a b l=some (r,l')) :
  CrB 103 [.ci [.bp 0 0],cv,av,wv] cs tot l r l':=by
 unfold j5T at hx
 rw [if_neg (by omega),if_pos hk] at hx
 have hc':=hc
 obtain ⟨b0,z0,xs0,rfl,-⟩:=hc'
 obtain ⟨k1,n1,s1,l1,t1,b1,z1,x1,c1,y1,ys1,rfl,rfl,-,-,-,-,hy1,hys1,-⟩:=ha.open
 obtain ⟨k2,n2,s2,l2,t2,b2,z2,x2,c2,y2,ys2,rfl,rfl,-,-,-,-,hy2,hys2,-⟩:=hb.open
 obtain ⟨a1,a2,a3,a4,a5,a6⟩:=j0q sa
 obtain ⟨d1,d2,d3,d4,d5,d6⟩:=j0q sb
 simp only [Tm.kind] at hk
 obtain ⟨rfl,hk⟩:=hk
 have hsh:j0T k1=2:=by
  rcases hk with rfl|rfl <;> rfl
 have hk2:¬ k1=2:=by omega
 have hkk:k1=k1:=rfl
 obtain ⟨v0,hv0,h0'⟩:=hys1.at (getD_at (ts:=t1) (i:=0) (by omega))
 obtain ⟨v1,hv1,h1'⟩:=hys1.at (getD_at (ts:=t1) (i:=1) (by omega))
 obtain ⟨w0,hw0,g0'⟩:=hys2.at (getD_at (ts:=t2) (i:=0) (by omega))
 obtain ⟨w1,hw1,g1'⟩:=hys2.at (getD_at (ts:=t2) (i:=1) (by omega))
 have m0:t1.getD 0 tz ∈ t1:=List.mem_of_getElem? (getD_at (by omega))
 have m1:t1.getD 1 tz ∈ t1:=List.mem_of_getElem? (getD_at (by omega))
 have q0:t2.getD 0 tz ∈ t2:=List.mem_of_getElem? (getD_at (by omega))
 have q1:t2.getD 1 tz ∈ t2:=List.mem_of_getElem? (getD_at (by omega))
 have u0:=j8J (k:=k1) (n:=n1) (s:=s1) (ls:=l1) (ts:=t1) (i:=0) (by omega)
 have u1:=j8J (k:=k1) (n:=n1) (s:=s1) (ls:=l1) (ts:=t1) (i:=1) (by omega)
 have u2:=j8J (k:=k1) (n:=n2) (s:=s2) (ls:=l2) (ts:=t2) (i:=0) (by omega)
 have u3:=j8J (k:=k1) (n:=n2) (s:=s2) (ls:=l2) (ts:=t2) (i:=1) (by omega)
 have e0:(Tm.mk k1 n1 s1 l1 t1).arg 0=t1.getD 0 tz:=rfl
 have e1:(Tm.mk k1 n1 s1 l1 t1).arg 1=t1.getD 1 tz:=rfl
 have e2:(Tm.mk k1 n2 s2 l2 t2).arg 0=t2.getD 0 tz:=rfl
 have e3:(Tm.mk k1 n2 s2 l2 t2).arg 1=t2.getD 1 tz:=rfl
 rw [e0,e1,e2,e3] at hx
 have hsa:=fun l r l' h0 h1=>hS ctx _ hc _ _ h0' (a5 _ m0) (by omega) _ _ g0' (d5 _ q0) (by omega) l r l' h0 h1
 have hsb:=fun c wc hc l r l' h0 h1=>hS c wc hc _ _ h1' (a5 _ m1) (by omega) _ _ g1' (d5 _ q1) (by omega) l r l' h0 h1
 obtain ⟨k3,n3,s3,l3,t3,b3,z3,x3,c3,y3,ys3,-,rfl,-⟩:=h0'.open
 obtain ⟨k4,n4,s4,l4,t4,b4,z4,x4,c4,y4,ys4,-,rfl,-⟩:=h1'.open
 obtain ⟨k5,n5,s5,l5,t5,b5,z5,x5,c5,y5,ys5,-,rfl,-⟩:=g0'.open
 obtain ⟨k6,n6,s6,l6,t6,b6,z6,x6,c6,y6,ys6,-,rfl,-⟩:=g1'.open
 rcases j0d hx with ⟨e,p1,rfl⟩|⟨q,la,p1,p2⟩
 ·have hf:Fr _ _ _ _ _ (.pan (j0i e)) l':=hsa l _ l' h0 h1 p1
  show Fr _ _ _ _ _ (.pan (j0i e)) l'
  refine j00 Tryz.func103 rfl rfl rfl ?_
  repeat' ((conv=>whnf);first|apply gT|apply gF|refine gA ?_|refine gB ?_|apply gE<;>intro h|apply gO|apply gQ|refine VIdx.mk _ hv0 ?_|refine VIdx.mk _ hw0 ?_|refine VOk.mk (j07 rfl hy1) ?_|refine VOk.mk (j07 rfl hy2) ?_|refine j02 hf rfl rfl rfl rfl rfl rfl rfl ?_|apply gK)
  all_goals (try (conv=>whnf))
  all_goals first|exact ⟨rfl,rfl⟩|(exfalso; omega)
 have hf:Fr _ _ _ _ _ (.ret [bv q]) la:=hsa l _ la h0 h1 p1
 have hd:=(fS ctx _ _).dn l _ la h0 p1
 cases q with
 |false =>
  cases p2
  show Fr _ _ _ _ _ (.ret [bv false]) _
  refine j00 Tryz.func103 rfl rfl rfl ?_
  repeat' ((conv=>whnf);first|apply gT|apply gF|refine gA ?_|refine gB ?_|apply gE<;>intro h|apply gO|apply gQ|refine j03 rfl rfl ?_|refine VIdx.mk _ hv0 ?_|refine VIdx.mk _ hw0 ?_|refine VOk.mk (j07 rfl hy1) ?_|refine VOk.mk (j07 rfl hy2) ?_|refine j02 hf rfl rfl rfl rfl rfl rfl rfl ?_|apply gK)
  all_goals (try (conv=>whnf))
  all_goals first|exact ⟨rfl,rfl⟩|(exfalso; omega)
 |true =>
  have p2:(bnd (j7u ctx (t1.getD 0 tz)) fun c2=>S c2 (t1.getD 1 tz) (t2.getD 1 tz)) la=some (r,l'):=p2
  rcases j0d p2 with ⟨e,p3,rfl⟩|⟨c2',lb,p3,p4⟩
  ·obtain ⟨rfl,rfl,hw⟩:=j2w ctx _ hc _ _ h0' (a5 _ m0) p3
   show Fr _ _ _ _ _ (.pan (j0i 15)) l'
   refine j00 Tryz.func103 rfl rfl rfl ?_
   repeat' ((conv=>whnf);first|apply gT|apply gF|refine gA ?_|refine gB ?_|apply gE<;>intro h|apply gO|apply gQ|refine VIdx.mk _ hv0 ?_|refine VIdx.mk _ hw0 ?_|refine VIdx.mk _ hv1 ?_|refine VIdx.mk _ hw1 ?_|refine VOk.mk (j07 rfl hy1) ?_|refine VOk.mk (j07 rfl hy2) ?_|refine j02 hf rfl rfl rfl rfl rfl rfl rfl ?_|refine j0Y hw (fun _=>?_)|apply gK)
   all_goals (try (conv=>whnf))
   all_goals first|exact ⟨rfl,rfl⟩|(exfalso; omega)
  obtain ⟨rfl,rfl,wc,hwc,hw⟩:=j2w ctx _ hc _ _ h0' (a5 _ m0) p3
  have hwc':=hwc
  obtain ⟨b7,z7,x7,rfl,-⟩:=hwc'
  have hg:=hsb _ _ hwc lb r l' (by omega) (by omega) p4
  cases r with
  |error e =>
   have hg:Fr _ _ _ _ _ (.pan (j0i e)) l':=hg
   show Fr _ _ _ _ _ (.pan (j0i e)) l'
   refine j00 Tryz.func103 rfl rfl rfl ?_
   repeat' ((conv=>whnf);first|apply gT|apply gF|refine gA ?_|refine gB ?_|apply gE<;>intro h|apply gO|apply gP|apply gQ|refine VIdx.mk _ hv0 ?_|refine VIdx.mk _ hw0 ?_|refine VIdx.mk _ hv1 ?_|refine VIdx.mk _ hw1 ?_|refine VOk.mk (j07 rfl hy1) ?_|refine VOk.mk (j07 rfl hy2) ?_|refine j02 hf rfl rfl rfl rfl rfl rfl rfl ?_|refine j05 hw (fun _=>?_)|refine j02 hg rfl rfl rfl rfl rfl rfl rfl ?_|apply gK)
   all_goals (try (conv=>whnf))
   all_goals first|exact ⟨rfl,rfl⟩|(exfalso; omega)
  |ok q =>
   have hg:Fr _ _ _ _ _ (.ret [bv q]) l':=hg
   show Fr _ _ _ _ _ (.ret [bv q]) l'
   refine j00 Tryz.func103 rfl rfl rfl ?_
   repeat' ((conv=>whnf);first|apply gT|apply gF|refine gA ?_|refine gB ?_|apply gE<;>intro h|apply gO|apply gP|apply gQ|refine j03 rfl rfl ?_|refine VIdx.mk _ hv0 ?_|refine VIdx.mk _ hw0 ?_|refine VIdx.mk _ hv1 ?_|refine VIdx.mk _ hw1 ?_|refine VOk.mk (j07 rfl hy1) ?_|refine VOk.mk (j07 rfl hy2) ?_|refine j02 hf rfl rfl rfl rfl rfl rfl rfl ?_|refine j05 hw (fun _=>?_)|refine j02 hg rfl rfl rfl rfl rfl rfl rfl ?_|apply gK)
   all_goals (try (conv=>whnf))
   all_goals first|exact ⟨rfl,rfl⟩|(exfalso; omega)
theorem jde {cs:List PV} {tot:Int} {S:List Tm→Tm→Tm→M Bool} (hS:j4C cs tot S) (fS:∀ c a b,Fine (S c a b)) (ctx:List Tm) (cv:PV) (hc:CtxP ctx cv) (a:Tm) (av:PV) (ha:TmP a av) (sa:shT a=true) (za:sizT a ≤ 2000) (b:Tm) (wv:PV) (hb:TmP b wv) (sb:shT b=true) (zb:sizT b ≤ 2000) (l:Int) (r:Except Int Bool) (l':Int) (h0:0 ≤ l) (h1:l ≤ tot) (hx:j5T S ctx a b l=some (r,l')) :
  CrB 103 [.ci [.bp 0 0],cv,av,wv] cs tot l r l':=by
 by_cases c1:a.kind=2∧b.kind=2
 ·exact jch hS fS ctx cv hc a av ha sa za b wv hb sb zb l r l' h0 h1 c1 hx
 by_cases c2:a.kind=b.kind∧(a.kind=6∨a.kind=5)
 ·exact jf5 hS fS ctx cv hc a av ha sa za b wv hb sb zb l r l' h0 h1 c2 hx
 have he1:=fun hk hx=>jkR hS fS ctx cv hc a av ha sa za b wv hb sb zb l r l' h0 h1 hk hx
 have he2:=fun hk hx=>jkR hS fS ctx cv hc b wv hb sb zb a av ha sa za l r l' h0 h1 hk hx
 have hsp:=fun hx=>jb0 hS fS ctx cv hc a av ha sa za b wv hb sb zb l r l' h0 h1 hx
 unfold j5T at hx
 rw [if_neg c1,if_neg c2] at hx
 obtain ⟨b0,z0,xs0,rfl,-⟩:=hc
 obtain ⟨k1,n1,s1,l1,t1,b1,z1,x1,c1',y1,ys1,rfl,rfl,-⟩:=ha.open
 obtain ⟨k2,n2,s2,l2,t2,b2,z2,x2,c2',y2,ys2,rfl,rfl,-⟩:=hb.open
 have k1e:(Tm.mk k1 n1 s1 l1 t1).kind=k1:=rfl
 have k2e:(Tm.mk k2 n2 s2 l2 t2).kind=k2:=rfl
 rw [k1e] at c1 c2 he1 hx
 rw [k2e] at c1 c2 he2 hx
 by_cases c3:k1=5
 ·rw [if_pos c3] at hx
  refine CrB.via (he1 c3 hx) (fun e hf=>?_) (fun q hf=>?_)
  ·show Fr _ _ _ _ _ (.pan (j0i e)) l'
   refine j00 Tryz.func103 rfl rfl rfl ?_
   repeat' ((conv=>whnf);first|apply gT|apply gF|refine gA ?_|refine gB ?_|apply gE<;>intro h|apply gQ|refine j02 hf rfl rfl rfl rfl rfl rfl rfl ?_)
   all_goals (try (conv=>whnf))
   all_goals first|exact ⟨rfl,rfl⟩|(exfalso; omega)
  ·show Fr _ _ _ _ _ (.ret [bv q]) l'
   refine j00 Tryz.func103 rfl rfl rfl ?_
   repeat' ((conv=>whnf);first|apply gT|apply gF|refine gA ?_|refine gB ?_|apply gE<;>intro h|apply gQ|refine j03 rfl rfl ?_|refine j02 hf rfl rfl rfl rfl rfl rfl rfl ?_)
   all_goals (try (conv=>whnf))
   all_goals first|exact ⟨rfl,rfl⟩|(exfalso; omega)
 rw [if_neg c3] at hx
 by_cases c4:k2=5
 ·rw [if_pos c4] at hx
  refine CrB.via (he2 c4 hx) (fun e hf=>?_) (fun q hf=>?_)
  ·show Fr _ _ _ _ _ (.pan (j0i e)) l'
   refine j00 Tryz.func103 rfl rfl rfl ?_
   repeat' ((conv=>whnf);first|apply gT|apply gF|refine gA ?_|refine gB ?_|apply gE<;>intro h|apply gQ|refine j02 hf rfl rfl rfl rfl rfl rfl rfl ?_)
   all_goals (try (conv=>whnf))
   all_goals first|exact ⟨rfl,rfl⟩|(exfalso; omega)
  ·show Fr _ _ _ _ _ (.ret [bv q]) l'
   refine j00 Tryz.func103 rfl rfl rfl ?_
   repeat' ((conv=>whnf);first|apply gT|apply gF|refine gA ?_|refine gB ?_|apply gE<;>intro h|apply gQ|refine j03 rfl rfl ?_|refine j02 hf rfl rfl rfl rfl rfl rfl rfl ?_)
   all_goals (try (conv=>whnf))
   all_goals first|exact ⟨rfl,rfl⟩|(exfalso; omega)
 rw [if_neg c4] at hx
 refine CrB.via (hsp hx) (fun e hf=>?_) (fun q hf=>?_)
 ·show Fr _ _ _ _ _ (.pan (j0i e)) l'
  refine j00 Tryz.func103 rfl rfl rfl ?_
  repeat' ((conv=>whnf);first|apply gT|apply gF|refine gA ?_|refine gB ?_|apply gE<;>intro h|apply gQ|refine j02 hf rfl rfl rfl rfl rfl rfl rfl ?_)
  all_goals (try (conv=>whnf))
  all_goals first|exact ⟨rfl,rfl⟩|(exfalso; omega)
 ·show Fr _ _ _ _ _ (.ret [bv q]) l'
  refine j00 Tryz.func103 rfl rfl rfl ?_
  repeat' ((conv=>whnf);first|apply gT|apply gF|refine gA ?_|refine gB ?_|apply gE<;>intro h|apply gQ|refine j03 rfl rfl ?_|refine j02 hf rfl rfl rfl rfl rfl rfl rfl ?_)
  all_goals (try (conv=>whnf))
  all_goals first|exact ⟨rfl,rfl⟩|(exfalso; omega)
end Go.Proofs.YtljnahbgfmflaaaGreatDoor
