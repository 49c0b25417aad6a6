/-
  A term's weak head normal form: find, step, head. No statement of the seat.
-/
import Derived.Test.YtljnahbgfmflaaaGreatDoorZKy
set_option linter.unusedVariables false
set_option maxHeartbeats 1000000
set_option maxRecDepth 100000
set_option linter.unusedSimpArgs false
set_option linter.unnecessarySimpa false
namespace Go.Proofs.YtljnahbgfmflaaaGreatDoor
open Go Go.Am Go.Gw
theorem jby {b:Bool} {A:Prop}:b=true→A→(match b with
  |true=>A
  |false=>False):=by
 intro h a
 subst h
 exact a
theorem ji8 {ts:List Tm} (h:∀ t ∈ ts,TmW t):∃ b z xs,j6Q ts = .sl b z xs∧(z=5∨xs=[])∧TmsP ts xs:=j7G h
theorem jd4 (E:Nv) (cs:List PV) (hE:NvP E (.cp cs)) (tot:Int) (hd:Tm→M Tm) (hH:jdx cs tot hd) (t:Tm) (v:PV) (h:TmP t v) (hs:shT t=true) (hsz:sizT t ≤ 2000) (l:Int) (r:Except Int Rdx) (l':Int) (h0:0 ≤ l) (h1:l ≤ tot) (hx:jiW E hd t l=some (r,l')) :
  FrR 250 [.bp 0 0,v] cs tot l r l':=by
 have hsp:=j9P t
 obtain ⟨hs1,hs2,hs3⟩:=jgA t hs
 have hS:=j8M t v h (by omega)
 obtain ⟨hw1,hw2⟩:=jmk t h.w
 obtain ⟨ab,az,axs,hae,haz,haxs⟩:=ji8 (ts:=j1c t) fun a ha=>hw2 a (j3c.1 ha)
 have hal:(j1c t).length ≤ 2000:=by simp [j1c]; omega
 have hash:∀ a ∈ j1c t,shT a=true:=fun a ha=>hs2 a (j3c.1 ha)
 have hasz:∀ a ∈ j1c t,sizT a ≤ 2000:=fun a ha=>by
  have:=hsp.2 a (j3c.1 ha)
  omega
 rw [hae] at hS
 unfold jiW at hx
 generalize (spF t).1=hh at *
 generalize j1c t=args at *
 have halen:=haxs.len
 have hbe:=jlW hh _ hw1 ab az axs
 have hze:=jmQ hh _ hw1 ab az axs
 have hb1:=fun (hk:hh.kind=5) (hp:¬ args.length=0)=>jlF hh _ hw1 hs1 hk args ab az axs haz haxs hp hal
 have hz1:=fun (hk:hh.kind=7)=>jlw hh _ hw1 hs1 hk args ab az axs haz haxs hal
 have hco:=fun (hk:hh.kind=3)=>jiD E cs hE tot hd hH hh _ hw1 hs1 hk args ab az axs haz haxs hal hash hasz l r l' h0 h1
 unfold jpg at hx
 obtain ⟨k2,n2,s2,ls2,ts2⟩:=hh
 obtain ⟨b2,z2,x2,hl2⟩:=j7M ls2
 obtain ⟨c2,y2,ys2,ht2⟩:=j7V ts2
 have he:encT (.mk k2 n2 s2 ls2 ts2) = .ag [iv k2,iv n2,sv s2,.sl b2 z2 x2,.sl c2 y2 ys2]:=by rw [j2q,hl2,ht2]
 rw [he] at hS hbe hze hb1 hz1 hco
 obtain ⟨k1,n1,s1,l1,t1,b1,z1,x1,c1,y1,ys1,rfl,rfl,-⟩:=h.open
 have ek:(Tm.mk k2 n2 s2 ls2 ts2).kind=k2:=rfl
 rw [ek] at hb1 hz1 hco hx hs3
 by_cases q1:k2=5∧¬ args.length=0
 ·rw [if_pos q1] at hx
  cases hx
  obtain ⟨w,ho,hf⟩:=hb1 q1.1 q1.2
  refine ⟨.ag [iv 1,.fn 294 [] [.cp (PV.ag [iv k2,iv n2,sv s2,.sl b2 z2 x2,.sl c2 y2 ys2]).cells,.cp [.sl ab az axs]]],⟨by omega,fun y hy=>?_,_,_,w,rfl,ho,rfl,.inl ⟨.inl ⟨_,_,rfl⟩,?_⟩⟩,?_⟩
  ·exact jcw hy (fun y hy=>j5v hy) fun a ha=>hash a (List.mem_of_mem_drop ha)
  ·rw [j6r]; exact hf
  ·refine j00 Tryz.func250 rfl rfl rfl ?_
   repeat' ((conv=>whnf);first|apply gF|refine gA ?_|refine gB ?_|apply gE<;>intro h|apply gO|refine j03 rfl rfl ?_|refine j01 hS rfl rfl ?_|refine j01 hbe rfl rfl ?_)
   all_goals (try (conv=>whnf))
   all_goals first|exact ⟨rfl,rfl⟩|(exfalso; omega)
 rw [if_neg q1] at hx
 by_cases q2:k2=7
 ·rw [if_pos q2] at hx
  cases hx
  obtain ⟨w,ho,hf⟩:=hz1 q2
  refine ⟨.ag [iv 2,.fn 295 [] [.cp (PV.ag [iv k2,iv n2,sv s2,.sl b2 z2 x2,.sl c2 y2 ys2]).cells,.cp [.sl ab az axs]]],⟨by omega,fun y hy=>?_,_,_,w,rfl,ho,rfl,.inl ⟨.inl ⟨_,_,rfl⟩,?_⟩⟩,?_⟩
  ·exact jcw hy (fun y hy=>j5v hy) hash
  ·rw [j6r]; exact hf
  ·refine j00 Tryz.func250 rfl rfl rfl ?_
   repeat' ((conv=>whnf);first|apply gF|refine gA ?_|refine gB ?_|apply gE<;>intro h|apply gO|refine j03 rfl rfl ?_|refine j01 hS rfl rfl ?_|refine j01 hze rfl rfl ?_)
   all_goals (try (conv=>whnf))
   all_goals first|exact ⟨rfl,rfl⟩|(exfalso; omega)
 rw [if_neg q2] at hx
 by_cases q3:k2=3
 ·rw [if_pos q3] at hx
  have hc:=hco q3 hx
  cases r with
  |error e =>
   have hc:Fr 280 [.bp 0 0,.ag [iv k2,iv n2,sv s2,.sl b2 z2 x2,.sl c2 y2 ys2],.sl ab az axs] cs tot l (.pan (j1v e)) l':=hc
   show Fr _ _ _ _ _ (.pan (j1v e)) l'
   refine j00 Tryz.func250 rfl rfl rfl ?_
   repeat' ((conv=>whnf);first|apply gF|refine gA ?_|refine gB ?_|apply gE<;>intro h|apply gO|refine j01 hS rfl rfl ?_|refine j02 hc rfl rfl rfl rfl rfl rfl rfl ?_)
   all_goals (try (conv=>whnf))
   all_goals first|exact ⟨rfl,rfl⟩|(exfalso; omega)
  |ok rd =>
   obtain ⟨w,hw,hf⟩:=hc
   refine ⟨w,hw,?_⟩
   cases rd with
   |none =>
    obtain rfl:w = .ag [iv 0,.sc .nilFunc]:=hw
    refine j00 Tryz.func250 rfl rfl rfl ?_
    repeat' ((conv=>whnf);first|apply gF|refine gA ?_|refine gB ?_|apply gE<;>intro h|apply gO|refine j03 rfl rfl ?_|refine j01 hS rfl rfl ?_|refine j02 hf rfl rfl rfl rfl rfl rfl rfl ?_)
    all_goals (try (conv=>whnf))
    all_goals first|exact ⟨rfl,rfl⟩|(exfalso; omega)
   |some p =>
    obtain ⟨kk,o⟩:=p
    obtain ⟨hk0,-,g,cl,wo,rfl,ho,hcl,⟨⟨a',b',rfl⟩|⟨a',b',c',d',e',f',rfl⟩,-⟩|⟨rfl,⟨a',b',rfl⟩,-⟩⟩:=hw
    ·refine j00 Tryz.func250 rfl rfl rfl ?_
     repeat' ((conv=>whnf);first|apply gF|refine gA ?_|refine gB ?_|apply gE<;>intro h|apply gO|refine j03 rfl rfl ?_|refine j01 hS rfl rfl ?_|refine j02 hf rfl rfl rfl rfl rfl rfl rfl ?_)
     all_goals (try (conv=>whnf))
     all_goals first|exact ⟨rfl,rfl⟩|(exfalso; omega)
    ·refine j00 Tryz.func250 rfl rfl rfl ?_
     repeat' ((conv=>whnf);first|apply gF|refine gA ?_|refine gB ?_|apply gE<;>intro h|apply gO|refine j03 rfl rfl ?_|refine j01 hS rfl rfl ?_|refine j02 hf rfl rfl rfl rfl rfl rfl rfl ?_)
     all_goals (try (conv=>whnf))
     all_goals first|exact ⟨rfl,rfl⟩|(exfalso; omega)
    ·refine j00 Tryz.func250 rfl rfl rfl ?_
     repeat' ((conv=>whnf);first|apply gF|refine gA ?_|refine gB ?_|apply gE<;>intro h|apply gO|refine j01 hS rfl rfl ?_|refine j02 hf rfl rfl rfl rfl rfl rfl rfl ?_)
     all_goals (try (conv=>whnf))
     all_goals first|(exfalso; omega)|skip
     refine (show VRet C1 250 1 [.ag [iv kk,.fn 307 [] [.ci [.bp 0 0],.cp a',.cp b']]] [runB cs tot l',.box 25 [iv k1,iv n1,sv s1,.sl b1 z1 x1,.sl c1 y1 ys1],.box 272 [iv kk,.fn 307 [] [.ci [.bp 0 0],.cp a',.cp b']],.box 25 [iv k2,iv n2,sv s2,.sl b2 z2 x2,.sl c2 y2 ys2]] _ from ?_)
     exact jcK rfl rfl rfl rfl ⟨rfl,rfl⟩
 rw [if_neg q3] at hx
 cases hx
 refine ⟨_,j5o cs tot,?_⟩
 refine j00 Tryz.func250 rfl rfl rfl ?_
 repeat' ((conv=>whnf);first|apply gF|refine gA ?_|refine gB ?_|apply gE<;>intro h|apply gO|refine j03 rfl rfl ?_|refine j01 hS rfl rfl ?_)
 all_goals (try (conv=>whnf))
 all_goals first|exact ⟨rfl,rfl⟩|(exfalso; omega)
def jcm (E:Nv) (hd:Tm→M Tm) (t:Tm):M (Option (Int × Tm)):=bnd (jiW E hd t) fun r=>match r with
 |none=>mok none
 |some (k,o)=>bnd (j8n o) fun x=>mok (some (k,x))
theorem jiH {E:Nv} {hd:Tm→M Tm} {t:Tm} {l l':Int} {r:Except Int Tm} (h:headB E hd t l=some (r,l')):(∃ e,jcm E hd t l=some (.error e,l')∧r = .error e)∨(jcm E hd t l=some (.ok none,l')∧r = .ok t)∨∃ k x l1,jcm E hd t l=some (.ok (some (k,x)),l1)∧hd x l1=some (r,l'):=by
 unfold headB at h
 rcases j0d h with ⟨e,h1,rfl⟩|⟨rd,l1,h1,h2⟩
 ·exact .inl ⟨e,by simp only [jcm,bnd,h1],rfl⟩
 ·match rd with
  |none =>
   cases h2
   exact .inr (.inl ⟨by simp only [jcm,bnd,h1,mok],rfl⟩)
  |some (k,o) =>
   rcases j0d h2 with ⟨e,h3,rfl⟩|⟨x,l2,h3,h4⟩
   ·exact .inl ⟨e,by simp only [jcm,bnd,h1,h3],rfl⟩
   ·exact .inr (.inr ⟨k,x,l2,by simp only [jcm,bnd,h1,h3,mok],h4⟩)
def FrS (args cs:List PV) (v:PV) (tot l:Int) (r:Except Int (Option (Int × Tm))) (l':Int):Prop:=match r with
 | .ok none=>Fr 218 args cs tot l (.ret [v,iv 0]) l'
 | .ok (some (k,x))=>¬ k=0∧shT x=true∧sizT x ≤ 2000∧∃ w,TmP x w∧Fr 218 args cs tot l (.ret [w,iv k]) l'
 | .error e=>Fr 218 args cs tot l (.pan (j1v e)) l'
theorem jof {o:Option Tm} {l:Int} (h:¬ 1 ≤ l):j8n o l=some (.error 22,l):=by
 simp only [j8n,bnd,j4p,decide_eq_false h]
theorem jkc {l:Int} (h:1 ≤ l):j8n none l=some (.error 15,l - 1):=by
 simp only [j8n,bnd,j4p,decide_eq_true h,optF,mno]
theorem jnz {x:Tm} {l:Int} (h:1 ≤ l) (hn:¬ j0x x ≤ 2000):j8n (some x) l=some (.error 15,l - 1):=by
 simp only [j8n,bnd,j4p,decide_eq_true h,optF,mok,j2O,decide_eq_false hn,mno]
theorem jkI {x:Tm} {l:Int} (h:1 ≤ l) (hn:j0x x ≤ 2000):j8n (some x) l=some (.ok x,l - 1):=by
 simp only [j8n,bnd,j4p,decide_eq_true h,optF,mok,j2O,decide_eq_true hn]
theorem jmu (E:Nv) (cs:List PV) (hE:NvP E (.cp cs)) (tot:Int) (ht:tot ≤ 1048576) (hd:Tm→M Tm) (hF:∀ t,Fine (hd t)) (hH:jdx cs tot hd) (t:Tm) (v:PV) (h:TmP t v) (hs:shT t=true) (hsz:sizT t ≤ 2000) (l:Int) (r:Except Int (Option (Int × Tm))) (l':Int) (h0:0 ≤ l) (h1:l ≤ tot) (hx:jcm E hd t l=some (r,l')) :
  FrS [.bp 0 0,v] cs v tot l r l':=by
 unfold jcm at hx
 rcases j0d hx with ⟨e,q1,rfl⟩|⟨rd,l1,q1,q2⟩
 ·have hf:Fr 250 [.bp 0 0,v] cs tot l (.pan (j1v e)) l':=jd4 E cs hE tot hd hH t v h hs hsz l _ l' h0 h1 q1
  show Fr _ _ _ _ _ (.pan (j1v e)) l'
  obtain ⟨k1,n1,s1,l1,t1,b1,z1,x1,c1,y1,ys1,rfl,rfl,-⟩:=h.open
  refine j00 Tryz.func218 rfl rfl rfl ?_
  repeat' ((conv=>whnf);first|refine j02 hf rfl rfl rfl rfl rfl rfl rfl ?_)
  all_goals (try (conv=>whnf))
  all_goals first|exact ⟨rfl,rfl⟩|(exfalso; omega)
 ·obtain ⟨w,hw,hf⟩:=jd4 E cs hE tot hd hH t v h hs hsz l _ l1 h0 h1 q1
  obtain ⟨hl0,hl1⟩:=(j9O (E:=E) hF t).dn l _ l1 h0 q1
  obtain ⟨k1,n1,s1,l1',t1,b1,z1,x1,c1,y1,ys1,rfl,rfl,-⟩:=h.open
  match rd with
  |none =>
   cases q2
   obtain rfl:w = .ag [iv 0,.sc .nilFunc]:=hw
   show Fr _ _ _ _ _ (.ret [_,iv 0]) l'
   refine j00 Tryz.func218 rfl rfl rfl ?_
   repeat' ((conv=>whnf);first|apply gT|apply gO|refine j03 rfl rfl ?_|refine j02 hf rfl rfl rfl rfl rfl rfl rfl ?_)
   all_goals (try (conv=>whnf))
   all_goals first|exact ⟨rfl,rfl⟩|(exfalso; omega)
  |some (k,o) =>
   obtain ⟨hk0,hshx,g,cl,wo,rfl,⟨⟨k9,n9,s9,b9,z9,x9,c9,y9,ys9,rfl⟩,hoT⟩,hcl,hcase⟩:=hw
   by_cases t1:1 ≤ l1
   ·have hsp:=jci cs tot l1 t1 (by omega) ht
    cases o with
    |none =>
     simp only [bnd,jkc t1] at q2
     cases q2
     show Fr _ _ _ _ _ (.pan (j1v 15)) (l1 - 1)
     rcases hcase with ⟨⟨a,b,rfl⟩|⟨a,b,c,d,e,f,rfl⟩,hc⟩|⟨rfl,⟨a,b,rfl⟩,hc⟩
     ·refine j00 Tryz.func218 rfl rfl rfl ?_
      repeat' ((conv=>whnf);first|refine gB ?_|apply gO|refine j02 hf rfl rfl rfl rfl rfl rfl rfl ?_|refine j02 hsp rfl rfl rfl rfl rfl rfl rfl ?_|refine j01 (j0R 22) rfl rfl ?_)
      all_goals (try (conv=>whnf))
      try refine jby hcl ?_
      repeat' ((conv=>whnf);first|apply gO|refine j01 hc rfl rfl ?_|refine j0v (j3u 15) rfl rfl ?_)
      all_goals (try (conv=>whnf))
      all_goals first|exact ⟨rfl,rfl⟩|(exfalso; omega)
     ·refine j00 Tryz.func218 rfl rfl rfl ?_
      repeat' ((conv=>whnf);first|refine gB ?_|apply gO|refine j02 hf rfl rfl rfl rfl rfl rfl rfl ?_|refine j02 hsp rfl rfl rfl rfl rfl rfl rfl ?_|refine j01 (j0R 22) rfl rfl ?_)
      all_goals (try (conv=>whnf))
      try refine jby hcl ?_
      repeat' ((conv=>whnf);first|apply gO|refine j01 hc rfl rfl ?_|refine j0v (j3u 15) rfl rfl ?_)
      all_goals (try (conv=>whnf))
      all_goals first|exact ⟨rfl,rfl⟩|(exfalso; omega)
     ·refine j00 Tryz.func218 rfl rfl rfl ?_
      repeat' ((conv=>whnf);first|refine gB ?_|apply gO|refine j02 hf rfl rfl rfl rfl rfl rfl rfl ?_|refine j02 hsp rfl rfl rfl rfl rfl rfl rfl ?_|refine j01 (j0R 22) rfl rfl ?_)
      all_goals (try (conv=>whnf))
      try refine jby hcl ?_
      repeat' ((conv=>whnf);first|apply gO|refine j02 (hc _) rfl rfl rfl rfl rfl rfl rfl ?_|refine j0v (j3u 15) rfl rfl ?_)
      all_goals (try (conv=>whnf))
      all_goals first|exact ⟨rfl,rfl⟩|(exfalso; omega)
    |some x =>
     have hxT:=hoT x rfl
     by_cases n1:j0x x ≤ 2000
     ·have hsm:=jlL x _ hxT n1
      simp only [bnd,jkI t1 n1,mok] at q2
      cases q2
      refine ⟨hk0,hshx x rfl,j3I n1,_,hxT,?_⟩
      rcases hcase with ⟨⟨a,b,rfl⟩|⟨a,b,c,d,e,f,rfl⟩,hc⟩|⟨rfl,⟨a,b,rfl⟩,hc⟩
      ·refine j00 Tryz.func218 rfl rfl rfl ?_
       repeat' ((conv=>whnf);first|refine gB ?_|apply gO|refine j02 hf rfl rfl rfl rfl rfl rfl rfl ?_|refine j02 hsp rfl rfl rfl rfl rfl rfl rfl ?_|refine j01 (j0R 22) rfl rfl ?_)
       all_goals (try (conv=>whnf))
       try refine jby hcl ?_
       repeat' ((conv=>whnf);first|apply gO|apply gP|refine j03 rfl rfl ?_|refine j01 hc rfl rfl ?_|refine j01 (j0R 15) rfl rfl ?_|refine j05 hsm (fun _=>?_)|apply gK)
       all_goals (try (conv=>whnf))
       all_goals first|exact ⟨rfl,rfl⟩|(exfalso; omega)
      ·refine j00 Tryz.func218 rfl rfl rfl ?_
       repeat' ((conv=>whnf);first|refine gB ?_|apply gO|refine j02 hf rfl rfl rfl rfl rfl rfl rfl ?_|refine j02 hsp rfl rfl rfl rfl rfl rfl rfl ?_|refine j01 (j0R 22) rfl rfl ?_)
       all_goals (try (conv=>whnf))
       try refine jby hcl ?_
       repeat' ((conv=>whnf);first|apply gO|apply gP|refine j03 rfl rfl ?_|refine j01 hc rfl rfl ?_|refine j01 (j0R 15) rfl rfl ?_|refine j05 hsm (fun _=>?_)|apply gK)
       all_goals (try (conv=>whnf))
       all_goals first|exact ⟨rfl,rfl⟩|(exfalso; omega)
      ·refine j00 Tryz.func218 rfl rfl rfl ?_
       repeat' ((conv=>whnf);first|refine gB ?_|apply gO|refine j02 hf rfl rfl rfl rfl rfl rfl rfl ?_|refine j02 hsp rfl rfl rfl rfl rfl rfl rfl ?_|refine j01 (j0R 22) rfl rfl ?_)
       all_goals (try (conv=>whnf))
       try refine jby hcl ?_
       repeat' ((conv=>whnf);first|apply gO|apply gP|refine j03 rfl rfl ?_|refine j02 (hc _) rfl rfl rfl rfl rfl rfl rfl ?_|refine j01 (j0R 15) rfl rfl ?_|refine j05 hsm (fun _=>?_)|apply gK)
       all_goals (try (conv=>whnf))
       all_goals first|exact ⟨rfl,rfl⟩|(exfalso; omega)
     ·have hsm:=jjZ x _ hxT n1
      simp only [bnd,jnz t1 n1] at q2
      cases q2
      show Fr _ _ _ _ _ (.pan (j1v 15)) (l1 - 1)
      rcases hcase with ⟨⟨a,b,rfl⟩|⟨a,b,c,d,e,f,rfl⟩,hc⟩|⟨rfl,⟨a,b,rfl⟩,hc⟩
      ·refine j00 Tryz.func218 rfl rfl rfl ?_
       repeat' ((conv=>whnf);first|refine gB ?_|apply gO|refine j02 hf rfl rfl rfl rfl rfl rfl rfl ?_|refine j02 hsp rfl rfl rfl rfl rfl rfl rfl ?_|refine j01 (j0R 22) rfl rfl ?_)
       all_goals (try (conv=>whnf))
       try refine jby hcl ?_
       repeat' ((conv=>whnf);first|apply gO|refine j01 hc rfl rfl ?_|refine j01 (j0R 15) rfl rfl ?_|refine j0Y hsm (fun _=>?_)|apply gK)
       all_goals (try (conv=>whnf))
       all_goals first|exact ⟨rfl,rfl⟩|(exfalso; omega)
      ·refine j00 Tryz.func218 rfl rfl rfl ?_
       repeat' ((conv=>whnf);first|refine gB ?_|apply gO|refine j02 hf rfl rfl rfl rfl rfl rfl rfl ?_|refine j02 hsp rfl rfl rfl rfl rfl rfl rfl ?_|refine j01 (j0R 22) rfl rfl ?_)
       all_goals (try (conv=>whnf))
       try refine jby hcl ?_
       repeat' ((conv=>whnf);first|apply gO|refine j01 hc rfl rfl ?_|refine j01 (j0R 15) rfl rfl ?_|refine j0Y hsm (fun _=>?_)|apply gK)
       all_goals (try (conv=>whnf))
       all_goals first|exact ⟨rfl,rfl⟩|(exfalso; omega)
      ·refine j00 Tryz.func218 rfl rfl rfl ?_
       repeat' ((conv=>whnf);first|refine gB ?_|apply gO|refine j02 hf rfl rfl rfl rfl rfl rfl rfl ?_|refine j02 hsp rfl rfl rfl rfl rfl rfl rfl ?_|refine j01 (j0R 22) rfl rfl ?_)
       all_goals (try (conv=>whnf))
       try refine jby hcl ?_
       repeat' ((conv=>whnf);first|apply gO|refine j02 (hc _) rfl rfl rfl rfl rfl rfl rfl ?_|refine j01 (j0R 15) rfl rfl ?_|refine j0Y hsm (fun _=>?_)|apply gK)
       all_goals (try (conv=>whnf))
       all_goals first|exact ⟨rfl,rfl⟩|(exfalso; omega)
   ·have hsn:=jcJ cs tot l1 (by omega)
    simp only [bnd,jof t1] at q2
    cases q2
    show Fr _ _ _ _ _ (.pan (j1v 22)) _
    rcases hcase with ⟨⟨a,b,rfl⟩|⟨a,b,c,d,e,f,rfl⟩,hc⟩|⟨rfl,⟨a,b,rfl⟩,hc⟩
    ·refine j00 Tryz.func218 rfl rfl rfl ?_
     repeat' ((conv=>whnf);first|refine gB ?_|apply gO|refine j02 hf rfl rfl rfl rfl rfl rfl rfl ?_|refine j02 hsn rfl rfl rfl rfl rfl rfl rfl ?_|refine j0v (j3u 22) rfl rfl ?_)
     all_goals (try (conv=>whnf))
     all_goals first|exact ⟨rfl,rfl⟩|(exfalso; omega)
    ·refine j00 Tryz.func218 rfl rfl rfl ?_
     repeat' ((conv=>whnf);first|refine gB ?_|apply gO|refine j02 hf rfl rfl rfl rfl rfl rfl rfl ?_|refine j02 hsn rfl rfl rfl rfl rfl rfl rfl ?_|refine j0v (j3u 22) rfl rfl ?_)
     all_goals (try (conv=>whnf))
     all_goals first|exact ⟨rfl,rfl⟩|(exfalso; omega)
    ·refine j00 Tryz.func218 rfl rfl rfl ?_
     repeat' ((conv=>whnf);first|refine gB ?_|apply gO|refine j02 hf rfl rfl rfl rfl rfl rfl rfl ?_|refine j02 hsn rfl rfl rfl rfl rfl rfl rfl ?_|refine j0v (j3u 22) rfl rfl ?_)
     all_goals (try (conv=>whnf))
     all_goals first|exact ⟨rfl,rfl⟩|(exfalso; omega)
theorem jmT (E:Nv) (cs:List PV) (hE:NvP E (.cp cs)) (tot:Int) (ht:tot ≤ 1048576):∀ n,jdx cs tot (jeK E n):=by
 intro n
 induction n using Nat.strongRecOn with
 |_ n ih =>
 intro t v h hs hsz l r l' h0 h1 hx
 have hrun:Finds C1 185 [.bp 0 0,v] [runB cs tot l] fun r' st'=>st'=[runB cs tot l']∧(match r with
   | .ok x=>shT x=true∧sizT x ≤ 2000∧∃ w,TmP x w∧r' = .ret [w]
   | .error e=>r' = .pan (j1v e)):=by
  obtain ⟨k1,n1,s1,ls1,t1,b1,z1,x1,c1,y1,ys1,rfl,rfl,-⟩:=h.open
  refine j00 Tryz.func185 rfl rfl rfl ?_
  skip
  all_goals (try (conv=>whnf))
  refine j09 (G:=Nat × Tm × List PV × Int) (fun g=>[]) (fun g=>[runB cs tot g.2.2.2,.box 25 g.2.2.1,.box 25 zTm]) (fun g=>g.1 ≤ n∧TmP g.2.1 (.ag g.2.2.1)∧shT g.2.1=true∧sizT g.2.1 ≤ 2000∧0 ≤ g.2.2.2∧g.2.2.2 ≤ tot∧jeK E g.1 g.2.1 g.2.2.2=some (r,l')) (fun g=>g.1) (n,_,_,l) ⟨Nat.le_refl n,h,hs,hsz,h0,h1,hx⟩ rfl rfl ?_
  rintro ⟨m,t,vs,l⟩ ⟨hm,hT,hs,hsz,h0,h1,hx⟩
  dsimp only at hm hT hs hsz h0 h1 hx ⊢
  cases m with
  |zero=>cases hx
  |succ m =>
   rw [jhS] at hx
   have hst:=fun r l'=>jmu E cs hE tot ht (jeK E m) (j6X m) (ih m (by omega)) t _ hT hs hsz l r l' h0 h1
   obtain ⟨k2,n2,s2,ls2,t2,b2,z2,x2,c2,y2,ys2,-,hvs,-⟩:=hT.open
   cases hvs
   rcases jiH hx with ⟨e,q1,rfl⟩|⟨q1,rfl⟩|⟨k,x,l1,q1,q2⟩
   ·have hf:Fr 218 _ cs tot l (.pan (j1v e)) l':=hst _ _ q1
    repeat' ((conv=>whnf);first|refine j02 hf rfl rfl rfl rfl rfl rfl rfl ?_)
    all_goals (try (conv=>whnf))
    all_goals exact ⟨rfl,rfl⟩
   ·have hf:Fr 218 _ cs tot l (.ret [_,iv 0]) l':=hst _ _ q1
    repeat' ((conv=>whnf);first|apply gT|apply gO|refine j03 rfl rfl ?_|refine j02 hf rfl rfl rfl rfl rfl rfl rfl ?_)
    all_goals (try (conv=>whnf))
    all_goals exact ⟨rfl,hs,hsz,_,hT,rfl⟩
   ·obtain ⟨hk0,hsx,hzx,w,hw,hf⟩:=hst _ _ q1
    obtain ⟨hl0,hl1⟩:=(j0b (j9O (E:=E) (j6X m) t) (f:=fun r=>match r with
     |none=>mok none
     |some (k,o)=>bnd (j8n o) fun x=>mok (some (k,x))) fun r=>(match r with
     |none=>j0p _
     |some (k,o)=>j0b (jd9 o) fun x=>j0p _)).dn l _ l1 h0 q1
    obtain ⟨k3,n3,s3,ls3,t3,b3,z3,x3,c3,y3,ys3,-,rfl,-⟩:=hw.open
    repeat' ((conv=>whnf);first|refine gB ?_|apply gO|refine j02 hf rfl rfl rfl rfl rfl rfl rfl ?_)
    all_goals (try (conv=>whnf))
    exact VAgain.mk _ rfl _ (j0h rfl rfl rfl) ⟨(m,x,_,l1),⟨by dsimp only; omega,hw,hsx,hzx,hl0,by dsimp only; omega,q2⟩,by dsimp only; omega,rfl⟩
 obtain ⟨r',st',⟨rfl,hq⟩,N,hN⟩:=hrun
 cases r with
 |ok x =>
  obtain ⟨hsx,hzx,w,hw,rfl⟩:=hq
  exact ⟨fun y hy=>(by cases hy; exact ⟨hsx,hzx⟩),w,hw,⟨_,_,⟨rfl,rfl⟩,N,hN⟩⟩
 |error e =>
  obtain rfl:=hq
  exact ⟨fun y hy=>(by cases hy),⟨_,_,⟨rfl,rfl⟩,N,hN⟩⟩
end Go.Proofs.YtljnahbgfmflaaaGreatDoor
