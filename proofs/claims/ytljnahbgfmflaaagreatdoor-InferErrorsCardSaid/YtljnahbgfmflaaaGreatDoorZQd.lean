/-
  Types that are held against each other (package infer): sort, check, within. No statement of the seat.
-/
import Derived.Test.YtljnahbgfmflaaaGreatDoorZQb
import Derived.Test.YtljnahbgfmflaaaGreatDoorZIs
set_option linter.unusedVariables false
set_option maxHeartbeats 4000000
set_option maxRecDepth 100000
set_option linter.unusedSimpArgs false
set_option linter.unnecessarySimpa false
namespace Go.Proofs.YtljnahbgfmflaaaGreatDoor
open Go Go.Am Go.Gw
section
variable {E:Nv} {cs:List PV} {tot:Int} {n:Nat} {I:List Tm→Tm→M Tm}
theorem j2x (hE:NvP E (.cp cs)) (ht:tot ≤ 1048576) (hI:jan cs tot I) (fI:∀ c t,Fine (I c t)) (ctx:List Tm) (cv:PV) (hc:CtxP ctx cv) (t:Tm) (v:PV) (h:TmP t v) (hs:shT t=true) (l:Int) (r:Except Int Lv) (l':Int) (h0:0 ≤ l) (h1:l ≤ tot) (hx:jaR E n I ctx t l=some (r,l')):IrL 87 [xI,cv,v] cs tot l r l':=by
 have hc':=hc
 obtain ⟨b,z,xs,rfl,-⟩:=hc'
 have h':=h
 obtain ⟨k1,n1,s1,l1,t1,b1,z1,x1,c1,y1,ys1,-,rfl,-⟩:=h'.open
 rcases j0d hx with ⟨e,q1,rfl⟩|⟨x,la,q1,q2⟩
 ·obtain ⟨he,hf⟩:=hI ctx _ hc t _ h hs l _ l' h0 h1 q1
  have hl:=j7E cs tot l' 0 0 [] true 0 [] true 0 [] e he
  refine ⟨he,?_⟩
  refine j00 Tryz.func87 rfl rfl rfl ?_
  repeat' ((conv=>whnf);first|apply gO|refine j03 rfl rfl ?_|refine j02 hf rfl rfl rfl rfl rfl rfl rfl ?_|refine j02 hl rfl rfl rfl rfl rfl rfl rfl ?_)
  all_goals (try (conv=>whnf))
  all_goals first|exact ⟨rfl,rfl⟩|(exfalso; omega)|contradiction
 ·obtain ⟨-,w,hw,hf⟩:=hI ctx _ hc t _ h hs l _ la h0 h1 q1
  have hla:=(fI ctx t).dn l _ la h0 q1
  have hl:=j3Z E cs hE tot ht n x w hw la r l' (by omega) (by omega) q2
  obtain ⟨k2,n2,s2,l2,t2,b2,z2,x2,c2,y2,ys2,-,rfl,-⟩:=hw.open
  cases r with
  |error e =>
   obtain ⟨he,hl⟩:=hl
   refine ⟨he,?_⟩
   refine j00 Tryz.func87 rfl rfl rfl ?_
   repeat' ((conv=>whnf);first|apply gO|refine j03 rfl rfl ?_|refine j02 hf rfl rfl rfl rfl rfl rfl rfl ?_|refine j02 hl rfl rfl rfl rfl rfl rfl rfl ?_)
   all_goals (try (conv=>whnf))
   all_goals first|exact ⟨rfl,rfl⟩|(exfalso; omega)|contradiction
  |ok y =>
   obtain ⟨wy,hwy,hl⟩:=hl
   refine ⟨wy,hwy,?_⟩
   obtain ⟨k4,n4,l4,b4,z4,x4,-,rfl,-⟩:=hwy.open
   refine j00 Tryz.func87 rfl rfl rfl ?_
   repeat' ((conv=>whnf);first|apply gO|refine j03 rfl rfl ?_|refine j02 hf rfl rfl rfl rfl rfl rfl rfl ?_|refine j02 hl rfl rfl rfl rfl rfl rfl rfl ?_)
   all_goals (try (conv=>whnf))
   all_goals first|exact ⟨rfl,rfl⟩|(exfalso; omega)|contradiction
theorem j5C (hE:NvP E (.cp cs)) (ht:tot ≤ 1048576) (hI:jan cs tot I) (fI:∀ c t,Fine (I c t)) (ctx:List Tm) (cv:PV) (hc:CtxP ctx cv) (t:Tm) (v:PV) (h:TmP t v) (hs:shT t=true) (u:Tm) (uv:PV) (hu:TmP u uv) (l:Int) (r:Except Int Unit) (l':Int) (h0:0 ≤ l) (h1:l ≤ tot) (hx:jgc E n I ctx t u l=some (r,l')):IrU 146 [xI,cv,v,uv] cs tot l r l':=by
 have hc':=hc
 obtain ⟨b,z,xs,rfl,hz,hxs,h64,-⟩:=hc'
 have h':=h
 have hu':=hu
 obtain ⟨k1,n1,s1,l1,t1,b1,z1,x1,c1,y1,ys1,-,rfl,-⟩:=h'.open
 obtain ⟨k2,n2,s2,l2,t2,b2,z2,x2,c2,y2,ys2,-,rfl,-⟩:=hu'.open
 rcases j0d hx with ⟨e,q1,rfl⟩|⟨a,la,q1,q2⟩
 ·obtain ⟨he,hf⟩:=hI ctx _ hc t _ h hs l _ l' h0 h1 q1
  refine ⟨he,?_⟩
  refine j00 Tryz.func146 rfl rfl rfl ?_
  repeat' ((conv=>whnf);first|apply gN|refine gB ?_|apply gO|refine j03 rfl rfl ?_|refine j02 hf rfl rfl rfl rfl rfl rfl rfl ?_)
  all_goals (try (conv=>whnf))
  all_goals first|exact ⟨rfl,rfl⟩|(exfalso; omega)|contradiction
 obtain ⟨-,w,hw,hf⟩:=hI ctx _ hc t _ h hs l _ la h0 h1 q1
 have hla:=(fI ctx t).dn l _ la h0 q1
 have hw':=hw
 obtain ⟨k3,n3,s3,l3,t3,b3,z3,x3,c3,y3,ys3,-,rfl,-⟩:=hw'.open
 rcases j0d q2 with ⟨e,q3,rfl⟩|⟨ok,lb,q3,q4⟩
 ·have he:¬ e=0:=fun e0=>by
   subst e0
   exact (j7l (E:=E) (n:=n) ctx a u).nz _ _ q3
  have hg:=j6V E cs hE tot ht n ctx b z xs hz hxs (by omega) a _ hw u _ hu la _ l' (by omega) (by omega) q3
  simp only [errB] at hg
  refine ⟨he,?_⟩
  refine j00 Tryz.func146 rfl rfl rfl ?_
  repeat' ((conv=>whnf);first|apply gF|refine gB ?_|apply gO|refine j03 rfl rfl ?_|refine j02 hf rfl rfl rfl rfl rfl rfl rfl ?_|refine j02 hg rfl rfl rfl rfl rfl rfl rfl ?_|apply gK)
  all_goals (try (conv=>whnf))
  all_goals first|exact ⟨rfl,rfl⟩|(exfalso; omega)|contradiction
 have hg:=j6V E cs hE tot ht n ctx b z xs hz hxs (by omega) a _ hw u _ hu la _ lb (by omega) (by omega) q3
 simp only [errB] at hg
 cases ok with
 |true =>
  cases q4
  show Fr _ _ _ _ _ (.ret [iv 0]) _
  refine j00 Tryz.func146 rfl rfl rfl ?_
  repeat' ((conv=>whnf);first|apply gT|apply gF|apply gO|refine j03 rfl rfl ?_|refine j02 hf rfl rfl rfl rfl rfl rfl rfl ?_|refine j02 hg rfl rfl rfl rfl rfl rfl rfl ?_|apply gK)
  all_goals (try (conv=>whnf))
  all_goals first|exact ⟨rfl,rfl⟩|(exfalso; omega)|contradiction
 |false =>
  cases q4
  refine ⟨by omega,?_⟩
  refine j00 Tryz.func146 rfl rfl rfl ?_
  repeat' ((conv=>whnf);first|apply gT|apply gF|apply gO|refine j03 rfl rfl ?_|refine j02 hf rfl rfl rfl rfl rfl rfl rfl ?_|refine j02 hg rfl rfl rfl rfl rfl rfl rfl ?_|apply gK)
  all_goals (try (conv=>whnf))
  all_goals first|exact ⟨rfl,rfl⟩|(exfalso; omega)|contradiction
theorem jnD (ctx:List Tm) (b:Bool) (z:Nat) (xs:List PV) (hz:z=5∨(xs=[]∧b=true∧z=0)) (hxs:TmsP ctx xs) (hl:ctx.length < 64) (k1 n1:Int) (s1:List UInt8) (b1:Bool) (z1:Nat) (x1:List PV) (c1:Bool) (y1:Nat) (ys1:List PV) (hp6:(xs ++ [PV.ag [iv k1,iv n1,sv s1,.sl b1 z1 x1,.sl c1 y1 ys1]]).all (pur 6)=true) (k2 n2:Int) (s2:List UInt8) (b2:Bool) (z2:Nat) (x2:List PV) (c2:Bool) (y2:Nat) (ys2:List PV) (l l':Int) (k3 n3:Int) (s3:List UInt8) (b3:Bool) (z3:Nat) (x3:List PV) (c3:Bool) (y3:Nat) (ys3:List PV) (e:Int)
  (hf:Fr 63 [xI,.sl false 5 (xs ++ [.ag [iv k1,iv n1,sv s1,.sl b1 z1 x1,.sl c1 y1 ys1]]),.ag [iv k2,iv n2,sv s2,.sl b2 z2 x2,.sl c2 y2 ys2]] cs tot l (.ret [.ag [iv k3,iv n3,sv s3,.sl b3 z3 x3,.sl c3 y3 ys3],iv e]) l') :
  Fr 148 [xI,.sl b z xs,.ag [iv k1,iv n1,sv s1,.sl b1 z1 x1,.sl c1 y1 ys1],.ag [iv k2,iv n2,sv s2,.sl b2 z2 x2,.sl c2 y2 ys2]] cs tot l (.ret [.ag [iv k3,iv n3,sv s3,.sl b3 z3 x3,.sl c3 y3 ys3],iv e]) l':=by
 have hlen:=hxs.len
 have ho1:(xs.length.ble xs.length && Nat.ble 0 xs.length)=true:=by simp
 have ho2:Nat.beq xs.length xs.length=true:=by simp
 generalize hX:xs ++ [.ag [iv k1,iv n1,sv s1,.sl b1 z1 x1,.sl c1 y1 ys1]]=X at hf hp6
 have hx:(xs.take xs.length).drop 0 ++ [.ag [iv k1,iv n1,sv s1,.sl b1 z1 x1,.sl c1 y1 ys1]]=X:=by rw [List.take_length,← hX]; rfl
 have hXl:X.length=xs.length + 1:=by rw [← hX]; simp
 rcases hz with rfl|⟨rfl,rfl,rfl⟩
 ·refine j00 Tryz.func148 rfl rfl rfl ?_
  repeat' ((conv=>whnf);first|apply gE<;>intro h|apply gO|apply gQ|refine j03 rfl rfl ?_|refine VOk.mk ho1 ?_|refine VOk.mk ho2 ?_|refine VOk.mk (jbG (w:=80) (r:=140737488355328) rfl rfl rfl (by simp; omega) (by simp; omega)) ?_|apply gK)
  all_goals (try (conv=>whnf))
  ·exfalso; omega
  refine j6S (st1:=[runB cs tot l,.box 25 [iv k1,iv n1,sv s1,.sl b1 z1 x1,.sl c1 y1 ys1],.box 25 [iv k2,iv n2,sv s2,.sl b2 z2 x2,.sl c2 y2 ys2],.box 25 zTm,.row true 25 5 X]) (args':=[xI,.sl false 5 X,.ag [iv k2,iv n2,sv s2,.sl b2 z2 x2,.sl c2 y2 ys2]]) ?_ hf rfl rfl rfl rfl rfl rfl ?_
  ·show mapS (pubV C1 8) _ _=_
   refine j08 rfl ?_
   refine j08 (j0E (b:=false) (T:=25) (z:=5) (xs:=X) ?_ ?_ hp6) ?_
   ·rw [← hx]
    rfl
   ·rw [hXl]
    simp
   ·exact j08 rfl j0n
  repeat' ((conv=>whnf);first|apply gO|refine j03 rfl rfl ?_)
  all_goals (try (conv=>whnf))
  all_goals exact ⟨rfl,rfl⟩
 ·refine j00 Tryz.func148 rfl rfl rfl ?_
  repeat' ((conv=>whnf);first|apply gF|apply gO|apply gQ|apply gK)
  all_goals (try (conv=>whnf))
  refine j6S (st1:=[runB cs tot l,.box 25 [iv k1,iv n1,sv s1,.sl b1 z1 x1,.sl c1 y1 ys1],.box 25 [iv k2,iv n2,sv s2,.sl b2 z2 x2,.sl c2 y2 ys2],.box 25 zTm,.row true 25 5 X]) (args':=[xI,.sl false 5 X,.ag [iv k2,iv n2,sv s2,.sl b2 z2 x2,.sl c2 y2 ys2]]) ?_ hf rfl rfl rfl rfl rfl rfl ?_
  ·show mapS (pubV C1 8) _ _=_
   refine j08 rfl ?_
   refine j08 (j0E (b:=false) (T:=25) (z:=5) (xs:=X) ?_ ?_ hp6) ?_
   ·rw [← hx]
    rfl
   ·rw [hXl]
    simp
   ·exact j08 rfl j0n
  repeat' ((conv=>whnf);first|apply gO|refine j03 rfl rfl ?_)
  all_goals (try (conv=>whnf))
  all_goals exact ⟨rfl,rfl⟩
theorem j5a (hI:jan cs tot I) (ctx:List Tm) (cv:PV) (hc:CtxP ctx cv) (t:Tm) (v:PV) (h:TmP t v) (hs:shT t=true) (u:Tm) (uv:PV) (hu:TmP u uv) (su:shT u=true) (l:Int) (r:Except Int Tm) (l':Int) (h0:0 ≤ l) (h1:l ≤ tot) (hx:jgP I ctx t u l=some (r,l')):IrT 148 [xI,cv,v,uv] cs tot l r l':=by
 have hc':=hc
 obtain ⟨b,z,xs,rfl,hz,hxs,h64,hsh⟩:=hc'
 have hlen:=hxs.len
 have h':=h
 have hu':=hu
 obtain ⟨k1,n1,s1,l1,t1,b1,z1,x1,c1,y1,ys1,-,rfl,-⟩:=h'.open
 obtain ⟨k2,n2,s2,l2,t2,b2,z2,x2,c2,y2,ys2,-,rfl,-⟩:=hu'.open
 rcases j0d hx with ⟨e,q1,rfl⟩|⟨c2',la,q1,q2⟩
 ·unfold j7u at q1
  by_cases hl:ctx.length < 64
  ·rw [decide_eq_true hl] at q1
   cases q1
  ·rw [decide_eq_false hl] at q1
   cases q1
   refine ⟨by omega,?_⟩
   refine j00 Tryz.func148 rfl rfl rfl ?_
   repeat' ((conv=>whnf);first|apply gE<;>intro h|apply gO|refine j03 rfl rfl ?_)
   all_goals (try (conv=>whnf))
   all_goals first|exact ⟨rfl,rfl⟩|(exfalso; omega)
 unfold j7u at q1
 by_cases hl:ctx.length < 64
 rotate_left
 ·rw [decide_eq_false hl] at q1
  cases q1
 rw [decide_eq_true hl] at q1
 cases q1
 have ha:TmsP (ctx ++ [t]) (xs ++ [.ag [iv k1,iv n1,sv s1,.sl b1 z1 x1,.sl c1 y1 ys1]]):=hxs.append ⟨_,[],rfl,h,rfl⟩
 have hcx:CtxP (ctx ++ [t]) (.sl false 5 (xs ++ [.ag [iv k1,iv n1,sv s1,.sl b1 z1 x1,.sl c1 y1 ys1]])):=⟨_,_,_,rfl,.inl rfl,ha,by simp; omega,fun x hx=>by
  rcases List.mem_append.1 hx with hx|hx
  ·exact hsh x hx
  ·rw [List.mem_singleton.1 hx]
   exact hs⟩
 have hf:=hI _ _ hcx u _ hu su l r l' h0 h1 q2
 cases r with
 |error e =>
  obtain ⟨he,hf⟩:=hf
  exact ⟨he,jnD ctx b z xs hz hxs hl _ _ _ _ _ _ _ _ _ ha.pure6 _ _ _ _ _ _ _ _ _ l l' _ _ _ _ _ _ _ _ _ e hf⟩
 |ok x =>
  obtain ⟨hxs2,w,hw,hf⟩:=hf
  refine ⟨hxs2,w,hw,?_⟩
  obtain ⟨k3,n3,s3,l3,t3,b3,z3,x3,c3,y3,ys3,-,rfl,-⟩:=hw.open
  exact jnD ctx b z xs hz hxs hl _ _ _ _ _ _ _ _ _ ha.pure6 _ _ _ _ _ _ _ _ _ l l' _ _ _ _ _ _ _ _ _ 0 hf
end
open Go Go.Am Go.Gw
section
variable {E:Nv} {cs:List PV} {tot:Int} {n:Nat} {I:List Tm→Tm→M Tm}
theorem jmO (hE:NvP E (.cp cs)) (ht:tot ≤ 1048576) (hI:jan cs tot I) (fI:∀ c t,Fine (I c t)) (ctx:List Tm) (cv:PV) (hc:CtxP ctx cv) (t:Tm) (v:PV) (h:TmP t v) (hs:shT t=true) (hk:t.kind=4) (l:Int) (r:Except Int Tm) (l':Int) (h0:0 ≤ l) (h1:l ≤ tot) (hx:joU E n I ctx t l=some (r,l')):IrT 90 [xI,cv,v] cs tot l r l':=by
 have hc':=hc
 obtain ⟨b,z,xs,rfl,-⟩:=hc'
 obtain ⟨n1,s1,b1,z1,x1,c1,y1,ys1,rfl,hy1,hkid⟩:=kids h hs
 obtain ⟨a0,ha0,p0,i0⟩:=hkid 0 (by rw [hk]; decide)
 obtain ⟨a1,ha1,p1,i1⟩:=hkid 1 (by rw [hk]; decide)
 have p0':=p0
 have p1':=p1
 obtain ⟨k2,n2,s2,l2,t2,b2,z2,x2,c2,y2,ys2,-,rfl,-⟩:=p0'.open
 obtain ⟨k3,n3,s3,l3,t3,b3,z3,x3,c3,y3,ys3,-,rfl,-⟩:=p1'.open
 unfold joU at hx
 rcases j0d hx with ⟨e,q1,rfl⟩|⟨y,la,q1,q2⟩
 ·obtain ⟨he,hf⟩:=hI ctx _ hc _ _ p0 i0 l _ l' h0 h1 q1
  refine ⟨he,?_⟩
  refine j00 Tryz.func90 rfl rfl rfl ?_
  repeat' ((conv=>whnf);first|apply gN|refine gB ?_|apply gO|apply gQ|refine j03 rfl rfl ?_|refine VIdx.mk _ ha0 ?_|refine VOk.mk (j07 rfl hy1) ?_|refine j02 hf rfl rfl rfl rfl rfl rfl rfl ?_)
  all_goals (try (conv=>whnf))
  all_goals first|exact ⟨rfl,rfl⟩|(exfalso; omega)|contradiction
 obtain ⟨-,wy,hwy,hf⟩:=hI ctx _ hc _ _ p0 i0 l _ la h0 h1 q1
 have hla:=(fI ctx (t.arg 0)).dn l _ la h0 q1
 have hr:=j6h cs tot la
 have hwy':=hwy
 obtain ⟨k4,n4,s4,l4,t4,b4,z4,x4,c4,y4,ys4,-,rfl,-⟩:=hwy'.open
 rcases j0d q2 with ⟨e,q3,rfl⟩|⟨f,lb,q3,q4⟩
 ·have he:¬ e=0:=fun e0=>by
   subst e0
   exact (j1E (E:=E) n y).nz _ _ q3
  obtain ⟨-,hg⟩:=j6y E cs hE tot ht n y _ hwy la _ l' (by omega) (by omega) q3
  simp only [errV] at hg
  refine ⟨he,?_⟩
  refine j00 Tryz.func90 rfl rfl rfl ?_
  repeat' ((conv=>whnf);first|apply gF|apply gN|refine gB ?_|apply gO|apply gQ|refine j03 rfl rfl ?_|refine VIdx.mk _ ha0 ?_|refine VOk.mk (j07 rfl hy1) ?_|refine j02 hf rfl rfl rfl rfl rfl rfl rfl ?_|refine j02 hr rfl rfl rfl rfl rfl rfl rfl ?_|refine j02 hg rfl rfl rfl rfl rfl rfl rfl ?_|apply gK)
  all_goals (try (conv=>whnf))
  all_goals first|exact ⟨rfl,rfl⟩|(exfalso; omega)|contradiction
 obtain ⟨hs5,hg⟩:=j6y E cs hE tot ht n y _ hwy la _ lb (by omega) (by omega) q3
 have hlb:=(j1E (E:=E) n y).dn la _ lb (by omega) q3
 obtain ⟨j1,j2,hfw⟩:=hs5 f rfl
 simp only [errV] at hg
 unfold TmW at hfw
 generalize encT f=wf at *
 obtain ⟨n5,s5,b5,z5,x5,c5,y5,ys5,rfl,hy5,hkid5⟩:=kids hfw j1
 rcases j0d q4 with ⟨e,q5,rfl⟩|⟨u0,lc,q5,q6⟩
 ·obtain ⟨rfl,d2⟩:=j1o q5
  rcases d2 with ⟨-,d2⟩|⟨d1,d2⟩
  ·cases d2
  cases d2
  have hne:=of_decide_eq_false d1
  refine ⟨by omega,?_⟩
  refine j00 Tryz.func90 rfl rfl rfl ?_
  repeat' ((conv=>whnf);first|apply gF|apply gN|refine gB ?_|apply gO|apply gQ|refine j03 rfl rfl ?_|refine VIdx.mk _ ha0 ?_|refine VOk.mk (j07 rfl hy1) ?_|refine j02 hf rfl rfl rfl rfl rfl rfl rfl ?_|refine j02 hr rfl rfl rfl rfl rfl rfl rfl ?_|refine j02 hg rfl rfl rfl rfl rfl rfl rfl ?_|apply gK)
  all_goals (try (conv=>whnf))
  all_goals first|exact ⟨rfl,rfl⟩|(exfalso; omega)|contradiction
 obtain ⟨rfl,d2⟩:=j1o q5
 rcases d2 with ⟨d1,-⟩|⟨-,d2⟩
 rotate_left
 ·cases d2
 have hk6:=of_decide_eq_true d1
 obtain ⟨d0,hd0,o0,m0⟩:=hkid5 0 (by rw [hk6]; decide)
 obtain ⟨e1,he1,o1,m1⟩:=hkid5 1 (by rw [hk6]; decide)
 have o0':=o0
 have o1':=o1
 obtain ⟨k6,n6,s6,l6,t6,b6,z6,x6,c6,y6,ys6,-,rfl,-⟩:=o0'.open
 obtain ⟨k7,n7,s7,l7,t7,b7,z7,x7,c7,y7,ys7,-,rfl,-⟩:=o1'.open
 rcases j0d q6 with ⟨e,q7,rfl⟩|⟨u1,ld,q7,q8⟩
 ·obtain ⟨he,hch⟩:=j5C hE ht hI fI ctx _ hc _ _ p1 i1 _ _ o0 lc _ l' (by omega) (by omega) q7
  refine ⟨he,?_⟩
  refine j00 Tryz.func90 rfl rfl rfl ?_
  repeat' ((conv=>whnf);first|apply gF|apply gN|refine gA ?_|refine gB ?_|apply gO|apply gQ|refine j03 rfl rfl ?_|refine VIdx.mk _ ha0 ?_|refine VIdx.mk _ ha1 ?_|refine VOk.mk (j07 rfl hy1) ?_|refine j02 hf rfl rfl rfl rfl rfl rfl rfl ?_|refine j02 hr rfl rfl rfl rfl rfl rfl rfl ?_|refine j02 hg rfl rfl rfl rfl rfl rfl rfl ?_|refine VIdx.mk _ hd0 ?_|refine VOk.mk (j07 rfl hy5) ?_|refine j02 hch rfl rfl rfl rfl rfl rfl rfl ?_|apply gK)
  all_goals (try (conv=>whnf))
  all_goals first|exact ⟨rfl,rfl⟩|(exfalso; omega)|contradiction
 have hch:Fr _ _ _ _ _ (.ret [iv 0]) ld:=j5C hE ht hI fI ctx _ hc _ _ p1 i1 _ _ o0 lc _ ld (by omega) (by omega) q7
 have hN:=j5r _ _ o1 [t.arg 1] true 5 _ (.inl rfl) ⟨_,[],rfl,p1,rfl⟩ (by simp)
 have hoW:TmW ((InstF (f.arg 1) [t.arg 1]).getD tz):=j5Q fun x hx=>j7S (by simpa using p1.w) o1.w hx
 rw [j4r] at hN
 have hoS:∀ x,InstF (f.arg 1) [t.arg 1]=some x→shT x=true:=fun x hx=>j5v hx
 generalize InstF (f.arg 1) [t.arg 1]=o at *
 unfold TmW at hoW
 obtain ⟨k9,n9,s9,b9,z9,x9,c9,y9,ys9,he9⟩:=j0a (o.getD tz)
 rw [he9] at hN hoW
 obtain ⟨rfl,hfi⟩:=j6M o _ hoW q8
 cases r with
 |error e =>
  obtain ⟨rfl,hfi⟩:=hfi
  refine ⟨by omega,?_⟩
  refine j00 Tryz.func90 rfl rfl rfl ?_
  repeat' ((conv=>whnf);first|apply gF|apply gN|refine gA ?_|apply gO|apply gP|apply gQ|refine j03 rfl rfl ?_|refine VIdx.mk _ ha0 ?_|refine VIdx.mk _ ha1 ?_|refine VOk.mk (j07 rfl hy1) ?_|refine j02 hf rfl rfl rfl rfl rfl rfl rfl ?_|refine j02 hr rfl rfl rfl rfl rfl rfl rfl ?_|refine j02 hg rfl rfl rfl rfl rfl rfl rfl ?_|refine VIdx.mk _ hd0 ?_|refine VIdx.mk _ he1 ?_|refine VOk.mk (j07 rfl hy5) ?_|refine j02 hch rfl rfl rfl rfl rfl rfl rfl ?_|refine j05 hN (fun _=>?_)|refine j05 hfi (fun _=>?_)|apply gK)
  all_goals (try (conv=>whnf))
  all_goals first|exact ⟨rfl,rfl⟩|(exfalso; omega)|contradiction
 |ok x =>
  obtain ⟨rfl,hzx,hfi⟩:=hfi
  refine ⟨⟨hoS _ rfl,hzx⟩,_,hoW,?_⟩
  refine j00 Tryz.func90 rfl rfl rfl ?_
  repeat' ((conv=>whnf);first|apply gF|apply gN|refine gA ?_|apply gO|apply gP|apply gQ|refine j03 rfl rfl ?_|refine VIdx.mk _ ha0 ?_|refine VIdx.mk _ ha1 ?_|refine VOk.mk (j07 rfl hy1) ?_|refine j02 hf rfl rfl rfl rfl rfl rfl rfl ?_|refine j02 hr rfl rfl rfl rfl rfl rfl rfl ?_|refine j02 hg rfl rfl rfl rfl rfl rfl rfl ?_|refine VIdx.mk _ hd0 ?_|refine VIdx.mk _ he1 ?_|refine VOk.mk (j07 rfl hy5) ?_|refine j02 hch rfl rfl rfl rfl rfl rfl rfl ?_|refine j05 hN (fun _=>?_)|refine j05 hfi (fun _=>?_)|apply gK)
  all_goals (try (conv=>whnf))
  all_goals first|exact ⟨rfl,rfl⟩|(exfalso; omega)|contradiction
theorem jny (hE:NvP E (.cp cs)) (ht:tot ≤ 1048576) (hI:jan cs tot I) (fI:∀ c t,Fine (I c t)) (ctx:List Tm) (cv:PV) (hc:CtxP ctx cv) (t:Tm) (v:PV) (h:TmP t v) (hs:shT t=true) (hk:t.kind=5) (l:Int) (r:Except Int Tm) (l':Int) (h0:0 ≤ l) (h1:l ≤ tot) (hx:jot E n I ctx t l=some (r,l')):IrT 91 [xI,cv,v] cs tot l r l':=by
 have hc':=hc
 obtain ⟨b,z,xs,rfl,-⟩:=hc'
 obtain ⟨n1,s1,b1,z1,x1,c1,y1,ys1,rfl,hy1,hkid⟩:=kids h hs
 obtain ⟨a0,ha0,p0,i0⟩:=hkid 0 (by rw [hk]; decide)
 obtain ⟨a1,ha1,p1,i1⟩:=hkid 1 (by rw [hk]; decide)
 have p0':=p0
 have p1':=p1
 obtain ⟨k2,n2,s2,l2,t2,b2,z2,x2,c2,y2,ys2,-,rfl,-⟩:=p0'.open
 obtain ⟨k3,n3,s3,l3,t3,b3,z3,x3,c3,y3,ys3,-,rfl,-⟩:=p1'.open
 unfold jot at hx
 rcases j0d hx with ⟨e,q1,rfl⟩|⟨y,la,q1,q2⟩
 ·obtain ⟨he,hf⟩:=j2x hE ht hI fI ctx _ hc _ _ p0 i0 l _ l' h0 h1 q1
  refine ⟨he,?_⟩
  refine j00 Tryz.func91 rfl rfl rfl ?_
  repeat' ((conv=>whnf);first|apply gN|refine gB ?_|apply gO|apply gQ|refine j03 rfl rfl ?_|refine VIdx.mk _ ha0 ?_|refine VOk.mk (j07 rfl hy1) ?_|refine j02 hf rfl rfl rfl rfl rfl rfl rfl ?_)
  all_goals (try (conv=>whnf))
  all_goals first|exact ⟨rfl,rfl⟩|(exfalso; omega)|contradiction
 obtain ⟨wy,hwy,hf⟩:=j2x hE ht hI fI ctx _ hc _ _ p0 i0 l _ la h0 h1 q1
 have hla:=(j2p (E:=E) (n:=n) fI ctx (t.arg 0)).dn l _ la h0 q1
 obtain ⟨k4,n4,l4,b4,z4,x4,-,rfl,-⟩:=hwy.open
 rcases j0d q2 with ⟨e,q3,rfl⟩|⟨y2,lb,q3,q4⟩
 ·obtain ⟨he,hw⟩:=j5a hI ctx _ hc _ _ p0 i0 _ _ p1 i1 la _ l' (by omega) (by omega) q3
  refine ⟨he,?_⟩
  refine j00 Tryz.func91 rfl rfl rfl ?_
  repeat' ((conv=>whnf);first|apply gF|apply gN|refine gB ?_|apply gO|apply gQ|refine j03 rfl rfl ?_|refine VIdx.mk _ ha0 ?_|refine VIdx.mk _ ha1 ?_|refine VOk.mk (j07 rfl hy1) ?_|refine j02 hf rfl rfl rfl rfl rfl rfl rfl ?_|refine j02 hw rfl rfl rfl rfl rfl rfl rfl ?_|apply gK)
  all_goals (try (conv=>whnf))
  all_goals first|exact ⟨rfl,rfl⟩|(exfalso; omega)|contradiction
 obtain ⟨⟨hys,hyz⟩,wb,hwb,hw⟩:=j5a hI ctx _ hc _ _ p0 i0 _ _ p1 i1 la _ lb (by omega) (by omega) q3
 obtain ⟨wp,hwp,hp⟩:=jo9 y2 _ hwb [t.arg 0] true 5 _ (.inl rfl) ⟨_,[],rfl,p0,rfl⟩ (by simp)
 have hps:shT (overR 6 [t.arg 0] y2)=true:=j7W (by omega) rfl (by omega) (fun _=>rfl) (fun x hx=>by
  rcases List.mem_cons.1 hx with rfl|hx
  ·exact i0
  ·rw [List.mem_singleton.1 hx]
   exact hys) (by omega)
 have hwp:TmP ((some (overR 6 [t.arg 0] y2)).getD tz) wp:=hwp
 obtain ⟨rfl,hfi⟩:=j6M _ wp hwp q4
 obtain ⟨k5,n5,s5,l5,t5,b5,z5,x5,c5,y5,ys5,-,rfl,-⟩:=hwb.open
 obtain ⟨k6,n6,s6,l6,t6,b6,z6,x6,c6,y6,ys6,-,rfl,-⟩:=hwp.open
 cases r with
 |error e =>
  obtain ⟨rfl,hfi⟩:=hfi
  refine ⟨by omega,?_⟩
  refine j00 Tryz.func91 rfl rfl rfl ?_
  repeat' ((conv=>whnf);first|apply gF|apply gO|apply gP|apply gQ|refine j03 rfl rfl ?_|refine VIdx.mk _ ha0 ?_|refine VIdx.mk _ ha1 ?_|refine VOk.mk (j07 rfl hy1) ?_|refine j02 hf rfl rfl rfl rfl rfl rfl rfl ?_|refine j02 hw rfl rfl rfl rfl rfl rfl rfl ?_|refine j05 hp (fun _=>?_)|refine j05 hfi (fun _=>?_)|apply gK)
  all_goals (try (conv=>whnf))
  all_goals first|exact ⟨rfl,rfl⟩|(exfalso; omega)|contradiction
 |ok x =>
  obtain ⟨e,hzx,hfi⟩:=hfi
  cases e
  refine ⟨⟨hps,hzx⟩,_,hwp,?_⟩
  refine j00 Tryz.func91 rfl rfl rfl ?_
  repeat' ((conv=>whnf);first|apply gF|apply gO|apply gP|apply gQ|refine j03 rfl rfl ?_|refine VIdx.mk _ ha0 ?_|refine VIdx.mk _ ha1 ?_|refine VOk.mk (j07 rfl hy1) ?_|refine j02 hf rfl rfl rfl rfl rfl rfl rfl ?_|refine j02 hw rfl rfl rfl rfl rfl rfl rfl ?_|refine j05 hp (fun _=>?_)|refine j05 hfi (fun _=>?_)|apply gK)
  all_goals (try (conv=>whnf))
  all_goals first|exact ⟨rfl,rfl⟩|(exfalso; omega)|contradiction
end
end Go.Proofs.YtljnahbgfmflaaaGreatDoor
