/-
  Entries (package decl): how they lie; which are right. No statement of the seat.
-/
import Derived.Test.YtljnahbgfmflaaaGreatDoorZKg
import Derived.Test.YtljnahbgfmflaaaGreatDoorZKa
import Derived.Test.YtljnahbgfmflaaaGreatDoorZKj
set_option linter.unusedVariables false
set_option maxHeartbeats 2000000
set_option maxRecDepth 100000
set_option linter.unusedSimpArgs false
set_option linter.unnecessarySimpa false
namespace Go.Proofs.YtljnahbgfmflaaaGreatDoor
open Go Go.Am Go.Gw
structure En where
 kind:Int
 pars:Int
 nm:List UInt8
 ty:Tm
 val:Tm
 ht:Int
 fam:List UInt8
 fixd:Int
 idx:Int
 flds:Int
 ctors:List (List UInt8)
def EnP (e:En) (v:PV):Prop:=∃ tk tn ts tb tz txs tc ty tys vk vn vs vb vz vxs vc vy vys b z,v = .ag [iv e.kind,iv e.pars,sv e.nm,iv tk,iv tn,sv ts,.sl tb tz txs,.sl tc ty tys,iv vk,iv vn,sv vs,.sl vb vz vxs,.sl vc vy vys,iv e.ht,sv e.fam,iv e.fixd,iv e.idx,iv e.flds,.sl b z (svs e.ctors)]
 ∧ TmP e.ty (.ag [iv tk,iv tn,sv ts,.sl tb tz txs,.sl tc ty tys])∧TmP e.val (.ag [iv vk,iv vn,sv vs,.sl vb vz vxs,.sl vc vy vys])∧((z=1∧e.ctors ≠ [])∨(e.ctors=[]∧b=true∧z=0))∧e.nm.length ≤ 140737488355328∧e.fam.length ≤ 140737488355328∧e.ctors.length ≤ 1000000∧∀ s ∈ e.ctors,s.length ≤ 140737488355328
def j5Y (n a b:Int):Bool:=decide (a ≤ n) && decide (n ≤ b)
theorem j6C (n a b:Int):Pf C1 174 [iv n,iv a,iv b] [bv (j5Y n a b)]:=by
 unfold j5Y
 refine j00 Tryz.func174 rfl rfl rfl ?_
 repeat' ((conv=>whnf);first|refine gA ?_|refine gB ?_|apply gE<;>intro h|refine j04 rfl ?_)
 all_goals (try (conv=>whnf))
 all_goals
  refine j1R ?_
  rw [Bool.eq_iff_iff]
  simp
  omega
def jht (t:Tm):Bool:=eqTm t tz
theorem j5i:TmP tz (.ag zTm):=⟨true,0,[],true,0,[],rfl,.inr rfl,by simp [LvsP],by simp,.inr rfl,by simp [TmsP],by simp,by simp,by unfold i64; omega⟩
theorem jio (t:Tm) (v:PV) (h:TmP t v):Pf C1 208 [v] [bv (jht t)]:=by
 have hs:=j8r t v h tz _ j5i
 have e:jht t=eqTm t tz:=rfl
 rw [← e] at hs
 clear e
 obtain ⟨k1,n1,s1,l1,t1,b1,z1,x1,c1,y1,ys1,rfl,rfl,-⟩:=h.open
 refine j00 Tryz.func208 rfl rfl rfl ?_
 repeat' ((conv=>whnf);first|refine j04 rfl ?_|refine j01 hs rfl rfl ?_)
 all_goals (try (conv=>whnf))
 all_goals rfl
def j9H (e:En):Bool:=if e.kind=2∨e.kind=3∨e.kind=4 then j0L e.val e.pars 0 else if e.kind=6 then jht e.val || j0L e.val (if 4 < e.pars + 1 then 4 else e.pars + 1) 0 else jht e.val
def joM (e:En):Bool:=e.fam == [] && (decide (e.fixd=0) && (decide (e.idx=0) && decide (e.flds=0)))
theorem jik (e:En) (v:PV) (h:EnP e v) (hp0:0 ≤ e.pars) (hp4:e.pars ≤ 4):Pf C1 176 [v] [bv (j9H e)]:=by
 obtain ⟨kind,pars,nm,ty,val,ht,fam,fixd,idx,flds,ctors⟩:=e
 dsimp only at hp0 hp4
 obtain ⟨tk,tn,ts,tb,tz',txs,tc,ty',tys,vk,vn,vs,vb,vz,vxs,vc,vy,vys,b,z,rfl,hty,hval,hz,hnm,hfam,hct,hcs⟩:=h
 dsimp only at hty hval hz hnm hfam hct hcs ⊢
 have h1:=j0P val _ hval pars 0
 have h2:=jio val _ hval
 have h3:=j0P val _ hval (if 4 < pars + 1 then 4 else pars + 1) 0
 unfold j9H
 dsimp only
 refine j00 Tryz.func176 rfl rfl rfl ?_
 repeat' ((conv=>whnf);first|refine gA ?_|apply gE<;>intro h|refine gC ?_|refine gD ?_|apply gM<;>intro h|refine gV ?_|refine j04 rfl ?_|refine j01 h1 rfl rfl ?_|refine j01 h2 rfl rfl ?_|refine j01 h3 rfl rfl ?_)
 all_goals (try (conv=>whnf))
 all_goals
  refine j1R ?_
  clear h1 h2 h3
  simp_all
def j3O (e:En):Bool:=if e.kind=6∨e.kind=7 then decide (e.ht=0) && (j2G e.fam && (j5Y e.fixd 0 32 && (j5Y e.idx 0 32 && j5Y e.flds 0 32)))
 else if e.kind=5 then decide (e.ht=0) && (e.fam == [] && (j5Y e.fixd 0 16 && (decide (e.idx=0) && decide (e.flds=0))))
 else if e.kind=2 then j5Y e.ht 1 1048576 && joM e else decide (e.ht=0) && joM e
theorem jeg (e:En) (v:PV) (h:EnP e v):Pf C1 177 [v] [bv (j3O e)]:=by
 obtain ⟨kind,pars,nm,ty,val,ht,fam,fixd,idx,flds,ctors⟩:=e
 obtain ⟨tk,tn,ts,tb,tz',txs,tc,ty',tys,vk,vn,vs,vb,vz,vxs,vc,vy,vys,b,z,rfl,hty,hval,hz,hnm,hfam,hct,hcs⟩:=h
 dsimp only at hty hval hz hnm hfam hct hcs ⊢
 have h1:=j2M fam hfam
 have h2:=fun n=>j6C n 0 32
 have h3:=j6C fixd 0 16
 have h4:=j6C ht 1 1048576
 unfold j3O joM
 dsimp only
 refine j00 Tryz.func177 rfl rfl rfl ?_
 repeat' ((conv=>whnf);first|apply gF|refine gA ?_|refine gB ?_|apply gE<;>intro h|refine gC ?_|refine gD ?_|apply gM<;>intro h|refine j04 rfl ?_|refine j01 h1 rfl rfl ?_|refine j01 (h2 _) rfl rfl ?_|refine j01 h3 rfl rfl ?_|refine j01 h4 rfl rfl ?_|refine j3v ?_)
 all_goals (try (conv=>whnf))
 all_goals
  refine j1R ?_
  clear h1 h2 h3 h4
  simp_all
def idxP (p:List UInt8→Bool):List (List UInt8)→Nat→Int
 |[],_=>-1
 |t :: r,i=>if p t=true then i else idxP p r (i + 1)
theorem jh7 (p:List UInt8→Bool):∀ (ts:List (List UInt8)) (i:Nat),decide (0 ≤ idxP p ts i)=ts.any p
 |[],i=>by simp [idxP]
 |t :: r,i=>by
  rw [idxP,List.any_cons]
  by_cases h:p t=true
  ·rw [if_pos h,h]
   simp
  ·rw [if_neg h,jh7 p r,Bool.eq_false_iff.2 h]
   simp
theorem jfh (s:List UInt8) (hs:s.length ≤ 140737488355328):Pf C1 209 [sv s] [bv (!j2G s)]:=by
 have h1:=j2M s hs
 refine j00 Tryz.func209 rfl rfl rfl ?_
 repeat' ((conv=>whnf);first|refine j04 rfl ?_|refine j01 h1 rfl rfl ?_)
 all_goals (try (conv=>whnf))
 all_goals rfl
theorem jca (ts:List (List UInt8)) (b:Bool) (z:Nat) (hz:z=1∨ts=[]) (hbd:ts.length ≤ 1000000) (hs:∀ s ∈ ts,s.length ≤ 140737488355328):Pf C1 243 [.sl b z (svs ts),.fn 209 [] []] [iv (idxP (fun s=>!j2G s) ts 0)]:=by
 have hlen:(svs ts).length=ts.length:=by simp
 refine j00 Tryz.func243 rfl rfl rfl ?_
 skip
 all_goals (try (conv=>whnf))
 refine j09 (G:=Nat) (fun i=>[(8,iv i)]) (fun _=>_) (fun i=>i ≤ ts.length∧idxP (fun s=>!j2G s) (ts.drop i) i=idxP (fun s=>!j2G s) ts 0) (fun i=>ts.length - i) 0 ⟨by omega,rfl⟩ rfl rfl ?_
 rintro i ⟨hi,hall⟩
 dsimp only at hi hall ⊢
 repeat' ((conv=>whnf);first|apply gE<;>intro h|apply gQ|refine j04 rfl ?_)
 all_goals (try (conv=>whnf))
 ·have hi':i < ts.length:=by omega
  obtain ⟨tc,htc⟩:∃ tc,ts[i]? = some tc:=⟨_,List.getElem?_eq_getElem hi'⟩
  have hw:=jfh tc (hs _ (List.mem_of_getElem? htc))
  rw [drop_at htc,idxP] at hall
  repeat' ((conv=>whnf);first|apply gN|apply gM<;>intro h|refine gV ?_|refine j04 rfl ?_|refine VIdx.mk _ (jnG htc) ?_|refine VOk.mk (j07 rfl (jkx hz)) ?_|refine j01 hw rfl rfl ?_)
  all_goals (try (conv=>whnf))
  ·rw [if_neg (by simp_all)] at hall
   exact VAgain.mk _ rfl _ (j0h rfl rfl rfl) ⟨i + 1,⟨hi',hall⟩,by omega,rfl⟩
  ·rw [if_pos (by simp_all)] at hall
   rw [← hall]
 ·rw [List.drop_of_length_le (by omega),idxP] at hall
  rw [← hall]
theorem jcO (ts:List (List UInt8)) (b:Bool) (z:Nat) (hz:z=1∨ts=[]) (hbd:ts.length ≤ 1000000) (hs:∀ s ∈ ts,s.length ≤ 140737488355328):Pf C1 210 [.sl b z (svs ts),.fn 209 [] []] [bv (!ts.all j2G)]:=by
 have hi:=jca ts b z hz hbd hs
 have e:decide (0 ≤ idxP (fun t=>!j2G t) ts 0) = !ts.all j2G:=by
  rw [jh7]
  clear hi hbd hs hz
  induction ts with
  |nil=>rfl
  |cons t r ih =>
   rw [List.any_cons,List.all_cons]
   cases j2G t <;> simp_all
 refine j00 Tryz.func210 rfl rfl rfl ?_
 repeat' ((conv=>whnf);first|refine j04 rfl ?_|refine j01 hi rfl rfl ?_)
 all_goals (try (conv=>whnf))
 rw [← e]
def j9F (e:En):Bool:=if e.kind=5∨e.kind=7 then decide (e.ctors.length ≤ 8) && e.ctors.all j2G else decide (e.ctors.length=0)
theorem jix (e:En) (v:PV) (h:EnP e v):Pf C1 178 [v] [bv (j9F e)]:=by
 obtain ⟨kind,pars,nm,ty,val,ht,fam,fixd,idx,flds,ctors⟩:=e
 obtain ⟨tk,tn,ts,tb,tz',txs,tc,ty',tys,vk,vn,vs,vb,vz,vxs,vc,vy,vys,b,z,rfl,hty,hval,hz,hnm,hfam,hct,hcs⟩:=h
 dsimp only at hty hval hz hnm hfam hct hcs ⊢
 have hz:z=1∨ctors=[]:=hz.imp (·.1) (·.1)
 have h1:=jcO ctors b z hz hct hcs
 have hlen:(svs ctors).length=ctors.length:=by simp
 unfold j9F
 dsimp only
 refine j00 Tryz.func178 rfl rfl rfl ?_
 repeat' ((conv=>whnf);first|apply gF|apply gN|refine gA ?_|refine gB ?_|apply gE<;>intro h|refine j04 rfl ?_|refine j01 h1 rfl rfl ?_)
 all_goals (try (conv=>whnf))
 all_goals
  refine j1R ?_
  clear h1
  first
   |(simp_all; done)
   |(simp_all; intro _; omega)
   |(simp_all; intro _; exfalso; omega)
def j2a (e:En):Bool:=j5Y e.kind 1 7 && (j2G e.nm && (j5Y e.pars 0 4 && (j0L e.ty e.pars 0 && (j9H e && (j3O e && j9F e)))))
theorem j4d (e:En) (v:PV) (h:EnP e v):Pf C1 125 [v] [bv (j2a e)]:=by
 have hv:=fun a b=>jik e v h a b
 have hn:=jeg e v h
 have hl:=jix e v h
 have e0:j2a e=(j5Y e.kind 1 7 && (j2G e.nm && (j5Y e.pars 0 4 && (j0L e.ty e.pars 0 && (j9H e && (j3O e && j9F e)))))):=rfl
 rw [e0]
 clear e0
 generalize j9H e=q1 at *
 generalize j3O e=q2 at *
 generalize j9F e=q3 at *
 obtain ⟨kind,pars,nm,ty,val,ht,fam,fixd,idx,flds,ctors⟩:=e
 obtain ⟨tk,tn,ts,tb,tz',txs,tc,ty',tys,vk,vn,vs,vb,vz,vxs,vc,vy,vys,b,z,rfl,hty,hval,hz,hnm,hfam,hct,hcs⟩:=h
 dsimp only at hty hval hz hnm hfam hct hcs hv ⊢
 have h1:=j6C kind 1 7
 have h2:=j2M nm hnm
 have h3:=j6C pars 0 4
 have h4:=j0P ty _ hty pars 0
 by_cases c3:j5Y pars 0 4=true
 ·have hv:=hv (by simp [j5Y] at c3; omega) (by simp [j5Y] at c3; omega)
  rw [c3] at h3 ⊢
  refine j00 Tryz.func125 rfl rfl rfl ?_
  repeat' ((conv=>whnf);first|apply gT|apply gF|refine gC ?_|refine gD ?_|apply gM<;>intro h|refine j04 rfl ?_|refine j01 h1 rfl rfl ?_|refine j01 h2 rfl rfl ?_|refine j01 h3 rfl rfl ?_|refine j01 h4 rfl rfl ?_|refine j01 hv rfl rfl ?_|refine j01 hn rfl rfl ?_|refine j01 hl rfl rfl ?_)
  all_goals (try (conv=>whnf))
  all_goals
   refine j1R ?_
   clear h1 h2 h3 h4 hv hn hl
   simp_all
 ·rw [Bool.not_eq_true] at c3
  rw [c3] at h3 ⊢
  refine j00 Tryz.func125 rfl rfl rfl ?_
  repeat' ((conv=>whnf);first|apply gF|refine gC ?_|refine gD ?_|apply gM<;>intro h|refine j04 rfl ?_|refine j01 h1 rfl rfl ?_|refine j01 h2 rfl rfl ?_|refine j01 h3 rfl rfl ?_)
  all_goals (try (conv=>whnf))
  all_goals
   refine j1R ?_
   clear h1 h2 h3 h4 hv hn hl
   simp_all
open Go Go.Am Go.Gw
def errV (o:Except Int Tm):List PV:=match o with
 | .ok x=>[encT x,iv 0]
 | .error e=>[.ag zTm,iv e]
theorem jj5 (l:Lv) (v:PV) (h:LvP l v):Pf C1 230 [v] [bv (!j0w l 4)]:=by
 have h1:=j2c l v h 4
 obtain ⟨k1,n1,l1,b1,z1,x1,rfl,rfl,hz1,hxs1,hlen1,hbd1⟩:=h.open
 refine j00 Tryz.func230 rfl rfl rfl ?_
 repeat' ((conv=>whnf);first|refine j04 rfl ?_|refine j01 h1 rfl rfl ?_)
 all_goals (try (conv=>whnf))
 all_goals rfl
def idxL (p:Lv→Bool):List Lv→Nat→Int
 |[],_=>-1
 |t :: r,i=>if p t=true then i else idxL p r (i + 1)
theorem jga (p:Lv→Bool):∀ (ts:List Lv) (i:Nat),decide (0 ≤ idxL p ts i)=ts.any p
 |[],i=>by simp [idxL]
 |t :: r,i=>by
  rw [idxL,List.any_cons]
  by_cases h:p t=true
  ·rw [if_pos h,h]
   simp
  ·rw [if_neg h,jga p r,Bool.eq_false_iff.2 h]
   simp
theorem jbH (ts:List Lv) (b:Bool) (z:Nat) (xs:List PV) (hz:z=3∨xs=[]) (hxs:LvsP ts xs) (hbd:ts.length ≤ 1000000):Pf C1 261 [.sl b z xs,.fn 230 [] []] [iv (idxL (fun l=>!j0w l 4) ts 0)]:=by
 have hlen:=hxs.len
 refine j00 Tryz.func261 rfl rfl rfl ?_
 skip
 all_goals (try (conv=>whnf))
 refine j09 (G:=Nat) (fun i=>[(8,iv i)]) (fun _=>_) (fun i=>i ≤ ts.length∧idxL (fun l=>!j0w l 4) (ts.drop i) i=idxL (fun l=>!j0w l 4) ts 0) (fun i=>ts.length - i) 0 ⟨by omega,rfl⟩ rfl rfl ?_
 rintro i ⟨hi,hall⟩
 dsimp only at hi hall ⊢
 repeat' ((conv=>whnf);first|apply gE<;>intro h|apply gQ|refine j04 rfl ?_)
 all_goals (try (conv=>whnf))
 ·have hi':i < ts.length:=by omega
  obtain ⟨tc,htc⟩:∃ tc,ts[i]? = some tc:=⟨_,List.getElem?_eq_getElem hi'⟩
  obtain ⟨v,hv,hl⟩:=hxs.at htc
  have hw:=jj5 tc v hl
  obtain ⟨k1,n1,l1,b1,z1,x1,rfl,rfl,hz1,hxs1,hlen1,hbd1⟩:=hl.open
  rw [drop_at htc,idxL] at hall
  repeat' ((conv=>whnf);first|apply gN|apply gM<;>intro h|refine gV ?_|refine j04 rfl ?_|refine VIdx.mk _ hv ?_|refine VOk.mk (j07 rfl hz) ?_|refine j01 hw rfl rfl ?_)
  all_goals (try (conv=>whnf))
  ·rw [if_neg (by simp_all)] at hall
   exact VAgain.mk _ rfl _ (j0h rfl rfl rfl) ⟨i + 1,⟨hi',hall⟩,by omega,rfl⟩
  ·rw [if_pos (by simp_all)] at hall
   rw [← hall]
 ·rw [List.drop_of_length_le (by omega),idxL] at hall
  rw [← hall]
theorem jbB (ts:List Lv) (b:Bool) (z:Nat) (xs:List PV) (hz:z=3∨xs=[]) (hxs:LvsP ts xs) (hbd:ts.length ≤ 1000000):Pf C1 229 [.sl b z xs,.fn 230 [] []] [bv (ts.any fun l=>!j0w l 4)]:=by
 have hi:=jbH ts b z xs hz hxs hbd
 refine j00 Tryz.func229 rfl rfl rfl ?_
 repeat' ((conv=>whnf);first|refine j04 rfl ?_|refine j01 hi rfl rfl ?_)
 all_goals (try (conv=>whnf))
 rw [← jga _ ts 0]
def atF (pars:Int) (t:Tm) (bys:List Lv):Except Int Tm:=if (bys.length:Int) ≠ pars∨(bys.any fun l=>!j0w l 4)=true then .error 16 else match j1x t bys with
 |none=>.error 15
 |some x=>.ok x
theorem jnF (e:En) (v:PV) (h:EnP e v) (t:Tm) (w:PV) (ht:TmP t w) (bys:List Lv) (b:Bool) (z:Nat) (xs:List PV) (hz:z=3∨xs=[]) (hxs:LvsP bys xs) (hbd:bys.length ≤ 1000000):Pf C1 198 [v,w,.sl b z xs] (errV (atF e.pars t bys)):=by
 have hlen:=hxs.len
 have h1:=jbB bys b z xs hz hxs hbd
 have h2:=jbd bys b z xs hz hxs hbd t w ht
 have e0:atF e.pars t bys=if (bys.length:Int) ≠ e.pars∨(bys.any fun l=>!j0w l 4)=true then .error 16 else match j1x t bys with
  |none=>.error 15
  |some x=>.ok x:=rfl
 generalize (bys.any fun l=>!j0w l 4)=q at *
 obtain ⟨kind,pars,nm,ty,val,hgt,fam,fixd,idx,flds,ctors⟩:=e
 obtain ⟨tk,tn,ts,tb,tz',txs,tc,ty',tys,vk,vn,vs,vb,vz,vxs,vc,vy,vys,b',z',rfl,-⟩:=h
 dsimp only at e0 ⊢
 obtain ⟨k1,n1,s1,l1,t1,b1,z1,x1,c1,y1,ys1,rfl,rfl,-⟩:=ht.open
 by_cases c1:(bys.length:Int) ≠ pars∨q=true
 ·rw [if_pos c1] at e0
  rw [e0]
  refine j00 Tryz.func198 rfl rfl rfl ?_
  repeat' ((conv=>whnf);first|apply gT|apply gN|refine gA ?_|refine gB ?_|apply gE<;>intro h|apply gM<;>intro h|apply gO|refine j04 rfl ?_|refine j01 h1 rfl rfl ?_)
  all_goals (try (conv=>whnf))
  all_goals first|rfl|(exfalso; simp_all; done)|(exfalso; omega)
 ·rw [if_neg c1] at e0
  rw [e0]
  have c2:(bys.length:Int)=pars:=by omega
  have c3:q=false:=by cases q <;> simp_all
  subst c3
  cases h0:j1x (.mk k1 n1 s1 l1 t1) bys with
  |none =>
   rw [h0] at h2
   simp only [putV] at h2
   refine j00 Tryz.func198 rfl rfl rfl ?_
   repeat' ((conv=>whnf);first|apply gT|apply gF|apply gN|refine gA ?_|refine gB ?_|apply gE<;>intro h|apply gO|refine j04 rfl ?_|refine j01 h1 rfl rfl ?_|refine j01 h2 rfl rfl ?_)
   all_goals (try (conv=>whnf))
   all_goals first|rfl|(exfalso; omega)
  |some x =>
   rw [h0] at h2
   simp only [putV,errV] at h2 ⊢
   obtain ⟨k2,n2,s2,b2,z2,x2,c2,y2,ys2,he⟩:=j0a x
   rw [he] at h2 ⊢
   refine j00 Tryz.func198 rfl rfl rfl ?_
   repeat' ((conv=>whnf);first|apply gT|apply gF|apply gN|refine gA ?_|refine gB ?_|apply gE<;>intro h|apply gO|refine j04 rfl ?_|refine j01 h1 rfl rfl ?_|refine j01 h2 rfl rfl ?_)
   all_goals (try (conv=>whnf))
   all_goals first|rfl|(exfalso; omega)
theorem j4Q (o:Except Int Tm):∃ k n s b z xs c y ys e,errV o=[.ag [iv k,iv n,sv s,.sl b z xs,.sl c y ys],iv e]:=by
 cases o with
 |error e=>exact ⟨_,_,_,_,_,_,_,_,_,e,rfl⟩
 |ok x =>
  obtain ⟨k2,n2,s2,b2,z2,x2,c2,y2,ys2,he⟩:=j0a x
  exact ⟨k2,n2,s2,b2,z2,x2,c2,y2,ys2,0,by simp only [errV,he]⟩
def jf3 (e:En) (bys:List Lv):Except Int Tm:=if j2a e=true then atF e.pars e.ty bys else .error 10
def j9L (e:En) (bys:List Lv):Except Int Tm:=if j2a e=true then (if e.kind=2 then atF e.pars e.val bys else .error 13) else .error 10
theorem jdl (e:En) (v:PV) (h:EnP e v) (bys:List Lv) (b:Bool) (z:Nat) (xs:List PV) (hz:z=3∨xs=[]) (hxs:LvsP bys xs) (hbd:bys.length ≤ 1000000):Pf C1 162 [v,.sl b z xs] (errV (jf3 e bys)):=by
 have hr:=j4d e v h
 have h0:=h
 have e0:jf3 e bys=if j2a e=true then atF e.pars e.ty bys else .error 10:=rfl
 rw [e0]
 clear e0
 generalize j2a e=q at *
 obtain ⟨kind,pars,nm,ty,val,hgt,fam,fixd,idx,flds,ctors⟩:=e
 obtain ⟨tk,tn,ts,tb,tz',txs,tc,ty',tys,vk,vn,vs,vb,vz,vxs,vc,vy,vys,b',z',rfl,hty,-⟩:=h
 have ha:=jnF _ _ h0 _ _ hty bys b z xs hz hxs hbd
 dsimp only at ha ⊢
 obtain ⟨k2,n2,s2,b2,z2,x2,c2,y2,ys2,ee,he⟩:=j4Q (atF pars ty bys)
 cases q with
 |true =>
  rw [if_pos rfl]
  rw [he] at ha ⊢
  refine j00 Tryz.func162 rfl rfl rfl ?_
  repeat' ((conv=>whnf);first|apply gF|apply gO|refine j04 rfl ?_|refine j01 hr rfl rfl ?_|refine j01 ha rfl rfl ?_)
  all_goals (try (conv=>whnf))
  all_goals rfl
 |false =>
  rw [if_neg (by simp)]
  refine j00 Tryz.func162 rfl rfl rfl ?_
  repeat' ((conv=>whnf);first|apply gT|apply gO|refine j04 rfl ?_|refine j01 hr rfl rfl ?_)
  all_goals (try (conv=>whnf))
  all_goals rfl
theorem jbI (e:En) (v:PV) (h:EnP e v) (bys:List Lv) (b:Bool) (z:Nat) (xs:List PV) (hz:z=3∨xs=[]) (hxs:LvsP bys xs) (hbd:bys.length ≤ 1000000):Pf C1 313 [v,.sl b z xs] (errV (j9L e bys)):=by
 have hr:=j4d e v h
 have h0:=h
 have e0:j9L e bys=if j2a e=true then (if e.kind=2 then atF e.pars e.val bys else .error 13) else .error 10:=rfl
 rw [e0]
 clear e0
 generalize j2a e=q at *
 obtain ⟨kind,pars,nm,ty,val,hgt,fam,fixd,idx,flds,ctors⟩:=e
 obtain ⟨tk,tn,ts,tb,tz',txs,tc,ty',tys,vk,vn,vs,vb,vz,vxs,vc,vy,vys,b',z',rfl,hty,hval,-⟩:=h
 have ha:=jnF _ _ h0 _ _ hval bys b z xs hz hxs hbd
 dsimp only at ha ⊢
 obtain ⟨k2,n2,s2,b2,z2,x2,c2,y2,ys2,ee,he⟩:=j4Q (atF pars val bys)
 cases q with
 |true =>
  rw [if_pos rfl]
  by_cases hk:kind=2
  ·rw [if_pos hk]
   rw [he] at ha ⊢
   refine j00 Tryz.func313 rfl rfl rfl ?_
   repeat' ((conv=>whnf);first|apply gF|apply gN|refine gA ?_|apply gO|refine j04 rfl ?_|refine j01 hr rfl rfl ?_|refine j01 ha rfl rfl ?_)
   all_goals (try (conv=>whnf))
   all_goals first|rfl|(exfalso; omega)
  ·rw [if_neg hk]
   refine j00 Tryz.func313 rfl rfl rfl ?_
   repeat' ((conv=>whnf);first|apply gF|apply gN|refine gB ?_|apply gO|refine j04 rfl ?_|refine j01 hr rfl rfl ?_)
   all_goals (try (conv=>whnf))
   all_goals first|rfl|(exfalso; omega)
 |false =>
  rw [if_neg (by simp)]
  refine j00 Tryz.func313 rfl rfl rfl ?_
  repeat' ((conv=>whnf);first|apply gT|apply gO|refine j04 rfl ?_|refine j01 hr rfl rfl ?_)
  all_goals (try (conv=>whnf))
  all_goals rfl
open Go Go.Am Go.Gw
def jn6 (l:List (List UInt8)):PV:=match l with
 |[]=>.sl true 0 []
 |s :: r=>.sl false 1 (svs (s :: r))
theorem jqK {x y:Operand}:j0l C1.P .eql 47 x y (.sl true 0 []) (.sl true 0 [])=some (bv true):=by kernel_rfl
theorem jqx {x y:Operand} {b:Bool} {z:Nat} {c:PV} {cs:List PV}:j0l C1.P .eql 47 x y (.sl b z (c :: cs)) (.sl true 0 [])=some (bv false):=by kernel_rfl
theorem jhJ (l:List (List UInt8)) (b:Bool) (z:Nat) (hz:z=1∨(l=[]∧b=true∧z=0)) (hn:l=[]→b=true∧z=0) (hl:l.length ≤ 1000000):Pf C1 180 [.sl b z (svs l)] [jn6 l]:=by
 cases l with
 |nil =>
  obtain ⟨rfl,rfl⟩:=hn rfl
  refine j00 Tryz.func180 rfl rfl rfl ?_
  repeat' ((conv=>whnf);first|apply gT|refine j04 rfl ?_|refine VRes.mk _ jqK ?_)
  all_goals (try (conv=>whnf))
  all_goals rfl
 |cons s r =>
  have hz1:z=1:=by simpa using hz
  subst hz1
  have hp6:(svs (s :: r)).all (pur 6)=true:=jkq _
  refine j00 Tryz.func180 rfl rfl rfl ?_
  repeat' ((conv=>whnf);first|apply gF|apply gO|refine VRes.mk _ jqx ?_|refine VOk.mk (jcv (w:=16) (r:=140737488355328) rfl rfl (by simp at hl ⊢; omega) (by simp at hl ⊢; omega)) ?_)
  all_goals (try (conv=>whnf))
  exact j0s rfl (j08 (j0E rfl (by simp) hp6) j0n) rfl rfl
def encE (e:En):PV:=match encT e.ty,encT e.val with
 | .ag tc,.ag vc=>.ag ([iv e.kind,iv e.pars,sv e.nm] ++ tc ++ vc ++ [iv e.ht,sv e.fam,iv e.fixd,iv e.idx,iv e.flds,jn6 e.ctors])
 |_,_=>.un
theorem jdS (e:En) (v:PV) (h:EnP e v):Pf C1 127 [v] [encE e]:=by
 obtain ⟨kind,pars,nm,ty,val,hgt,fam,fixd,idx,flds,ctors⟩:=e
 obtain ⟨tk,tn,ts,tb,tz',txs,tc,ty',tys,vk,vn,vs,vb,vz,vxs,vc,vy,vys,b,z,rfl,hty,hval,hz,hnm,hfam,hct,hcs⟩:=h
 dsimp only at hty hval hz hct ⊢
 have h1:=j4L ty _ hty true 0
 have h2:=j4L val _ hval true 0
 obtain ⟨k2,n2,s2,b2,z2,x2,c2,y2,ys2,he⟩:=j0a ty
 obtain ⟨k3,n3,s3,b3,z3,x3,c3,y3,ys3,he'⟩:=j0a val
 unfold encE
 dsimp only
 rw [he] at h1
 rw [he'] at h2
 rw [he,he']
 have h3:Pf C1 180 [.sl b z (svs ctors)] [jn6 ctors]:=jhJ ctors b z (hz.imp (·.1) id) (fun e=>by
  rcases hz with hz|hz
  ·exact absurd e hz.2
  ·exact hz.2) hct
 have e4:∃ b z xs,jn6 ctors = .sl b z xs:=by cases ctors <;> exact ⟨_,_,_,rfl⟩
 obtain ⟨b4,z4,x4,e4⟩:=e4
 rw [e4] at h3 ⊢
 refine j00 Tryz.func127 rfl rfl rfl ?_
 repeat' ((conv=>whnf);first|apply gO|apply gP|refine j04 rfl ?_|refine j05 h1 (fun _=>?_)|refine j05 h2 (fun _=>?_)|refine j05 h3 (fun _=>?_)|apply gK)
 all_goals (try (conv=>whnf))
 all_goals rfl
theorem j7A {e:En} {v:PV} (h:EnP e v):EnP e (encE e):=by
 obtain ⟨kind,pars,nm,ty,val,hgt,fam,fixd,idx,flds,ctors⟩:=e
 obtain ⟨tk,tn,ts,tb,tz',txs,tc,ty',tys,vk,vn,vs,vb,vz,vxs,vc,vy,vys,b,z,rfl,hty,hval,hz,hnm,hfam,hct,hcs⟩:=h
 dsimp only at hty hval hz hnm hfam hct hcs
 have h1:=hty.w
 have h2:=hval.w
 unfold TmW at h1 h2
 obtain ⟨k2,n2,s2,b2,z2,x2,c2,y2,ys2,he⟩:=j0a ty
 obtain ⟨k3,n3,s3,b3,z3,x3,c3,y3,ys3,he'⟩:=j0a val
 unfold encE
 dsimp only
 rw [he] at h1
 rw [he'] at h2
 rw [he,he']
 cases ctors with
 |nil=>exact ⟨_,_,_,_,_,_,_,_,_,_,_,_,_,_,_,_,_,_,_,_,rfl,h1,h2,.inr ⟨rfl,rfl,rfl⟩,hnm,hfam,hct,hcs⟩
 |cons s r=>exact ⟨_,_,_,_,_,_,_,_,_,_,_,_,_,_,_,_,_,_,_,_,rfl,h1,h2,.inl ⟨rfl,by simp⟩,hnm,hfam,hct,hcs⟩
open Go Go.Am Go.Gw
structure Nv where
 tr:Tr
 es:List En
def EnsP:List En→List PV→Prop
 |[],xs=>xs=[]
 |e :: r,xs=>∃ v xs',xs=v :: xs'∧EnP e v∧EnsP r xs'
theorem EnsP.len:∀ {es:List En} {xs:List PV},EnsP es xs→xs.length=es.length
 |[],xs,h=>by
  simp only [EnsP] at h
  subst h
  rfl
 |e :: r,xs,h=>by
  simp only [EnsP] at h
  obtain ⟨v,xs',rfl,-,h2⟩:=h
  simp [EnsP.len h2]
theorem EnsP.at:∀ {es:List En} {xs:List PV},EnsP es xs→∀ {i:Nat} {e:En},es[i]? = some e→∃ v,xs[i]? = some v∧EnP e v
 |[],xs,h,i,e,hi=>by simp at hi
 |a :: r,xs,h,i,e,hi=>by
  simp only [EnsP] at h
  obtain ⟨v,xs',rfl,h1,h2⟩:=h
  cases i with
  |zero=>simp at hi; subst hi; exact ⟨v,rfl,h1⟩
  |succ i=>simpa using EnsP.at h2 (i:=i) (by simpa using hi)
theorem EnsP.snoc:∀ {es:List En} {xs:List PV} {e:En} {v:PV},EnsP es xs→EnP e v→EnsP (es ++ [e]) (xs ++ [v])
 |[],xs,e,v,h,h'=>by
  simp only [EnsP] at h
  subst h
  exact ⟨v,[],rfl,h',rfl⟩
 |a :: r,xs,e,v,h,h'=>by
  simp only [EnsP] at h
  obtain ⟨w,xs',rfl,h1,h2⟩:=h
  exact ⟨w,xs' ++ [v],rfl,h1,EnsP.snoc h2 h'⟩
structure NvOk (E:Nv):Prop where
 idx:∀ s i,getR s E.tr=some i→0 ≤ i∧i < E.es.length
 right:∀ e ∈ E.es,j2a e=true
 len:E.es.length ≤ 100000
def NvP (E:Nv) (v:PV):Prop:=∃ b z xs,v = .cp [j5X E.tr,.sl b z xs]∧((z=19∧E.es ≠ [])∨(E.es=[]∧b=true∧z=0))∧EnsP E.es xs∧NvOk E
def zEn:List PV:=[iv 0,iv 0,sv [],iv 0,iv 0,sv [],.sl true 0 [],.sl true 0 [],iv 0,iv 0,sv [],.sl true 0 [],.sl true 0 [],iv 0,sv [],iv 0,iv 0,iv 0,.sl true 0 []]
def enz:En:=⟨0,0,[],tz,tz,0,[],0,0,0,[]⟩
theorem jqh:EnP enz (.ag zEn):=⟨_,_,_,_,_,_,_,_,_,_,_,_,_,_,_,_,_,_,_,_,rfl,j5i,j5i,.inr ⟨rfl,rfl,rfl⟩,by simp [enz],by simp [enz],by simp [enz],by simp [enz]⟩
def j0O (E:Nv) (s:List UInt8):Option En:=match getR s E.tr with
 |none=>none
 |some i=>E.es[i.toNat]?
theorem NvP.zok {E:Nv} {z:Nat} {b:Bool} {xs:List PV} (hz:(z=19∧E.es ≠ [])∨(E.es=[]∧b=true∧z=0)) (hx:EnsP E.es xs):z=19∨xs=[]:=by
 rcases hz with hz|hz
 ·exact .inl hz.1
 ·refine .inr ?_
  have:=hx.len
  rw [hz.1] at this
  exact List.eq_nil_of_length_eq_zero this
theorem j6A (E:Nv) (v:PV) (h:NvP E v) (s:List UInt8):∃ w,EnP ((j0O E s).getD enz) w∧Pf C1 197 [v,sv s] [w,bv (j0O E s).isSome]:=by
 obtain ⟨b,z,xs,rfl,hz,hx,hok⟩:=h
 have hg:=jlN s E.tr
 have hz':=NvP.zok hz hx
 unfold j0O
 cases hG:getR s E.tr with
 |none =>
  rw [hG] at hg
  refine ⟨.ag zEn,jqh,?_⟩
  refine j00 Tryz.func197 rfl rfl rfl ?_
  repeat' ((conv=>whnf);first|apply gT|apply gO|refine j04 rfl ?_|refine j01 hg rfl rfl ?_)
  all_goals (try (conv=>whnf))
  all_goals rfl
 |some i =>
  rw [hG] at hg
  obtain ⟨i0,i1⟩:=hok.idx s i hG
  obtain ⟨n,rfl⟩:∃ n:Nat,i=n:=⟨i.toNat,by omega⟩
  obtain ⟨e,he⟩:∃ e,E.es[n]? = some e:=⟨_,List.getElem?_eq_getElem (by omega)⟩
  obtain ⟨w,hw,hP⟩:=hx.at he
  have he':E.es[((n:Nat):Int).toNat]? = some e:=by simpa using he
  refine ⟨w,?_,?_⟩
  ·dsimp only
   rw [he']
   exact hP
  dsimp only
  rw [he']
  obtain ⟨tk,tn,ts,tb,tz',txs,tc,ty',tys,vk,vn,vs,vb,vz,vxs,vc,vy,vys,b',z',rfl,-⟩:=hP
  refine j00 Tryz.func197 rfl rfl rfl ?_
  repeat' ((conv=>whnf);first|apply gF|apply gO|apply gQ|refine j04 rfl ?_|refine j01 hg rfl rfl ?_|refine VIdx.mk _ hw ?_|refine VOk.mk (j07 rfl hz') ?_)
  all_goals (try (conv=>whnf))
  all_goals rfl
theorem jep {e:En} {v:PV} (h:EnP e v):∃ tk tn ts tb tz txs tc ty tys vk vn vs vb vz vxs vc vy vys b z,encE e = .ag [iv e.kind,iv e.pars,sv e.nm,iv tk,iv tn,sv ts,.sl tb tz txs,.sl tc ty tys,iv vk,iv vn,sv vs,.sl vb vz vxs,.sl vc vy vys,iv e.ht,sv e.fam,iv e.fixd,iv e.idx,iv e.flds,.sl b z (svs e.ctors)]:=by
 obtain ⟨a1,a2,a3,a4,a5,a6,a7,a8,a9,a10,a11,a12,a13,a14,a15,a16,a17,a18,a19,a20,h,-⟩:=j7A h
 exact ⟨a1,a2,a3,a4,a5,a6,a7,a8,a9,a10,a11,a12,a13,a14,a15,a16,a17,a18,a19,a20,h⟩
theorem jaT (E:Nv) (v:PV) (h:NvP E v) (s:List UInt8):Pf C1 296 [v,sv s] [encE ((j0O E s).getD enz),bv (j0O E s).isSome]:=by
 obtain ⟨w,hw,he⟩:=j6A E v h s
 have hc:=jdS _ _ hw
 obtain ⟨b,z,xs,rfl,-⟩:=h
 obtain ⟨tk,tn,ts,tb,tz',txs,tc,ty',tys,vk,vn,vs,vb,vz,vxs,vc,vy,vys,b',z',hE⟩:=jep hw
 rw [hE] at hc ⊢
 obtain ⟨a1,a2,a3,a4,a5,a6,a7,a8,a9,a10,a11,a12,a13,a14,a15,a16,a17,a18,a19,a20,rfl,-⟩:=hw
 refine j00 Tryz.func296 rfl rfl rfl ?_
 repeat' ((conv=>whnf);first|apply gO|refine j04 rfl ?_|refine j01 he rfl rfl ?_|refine j01 hc rfl rfl ?_)
 all_goals (try (conv=>whnf))
 all_goals rfl
def jas (E:Nv) (s:List UInt8) (by_:En→Except Int Tm):Except Int Tm:=match j0O E s with
 |none=>.error 13
 |some e=>by_ e
theorem jhh (E:Nv) (v:PV) (h:NvP E v) (s:List UInt8) (b:Bool) (z:Nat) (xs:List PV) (f:FuncId) (hcl:callable C1.P f=true) (F:En→Except Int Tm) (hF:∀ e w,EnP e w→Pf C1 f [w,.sl b z xs] (errV (F e))):Pf C1 161 [v,sv s,.sl b z xs,.fn f [] []] (errV (jas E s F)):=by
 obtain ⟨w,hw,he⟩:=j6A E v h s
 have hf:=hF _ _ hw
 obtain ⟨b',z',xs',rfl,-⟩:=h
 unfold jas
 cases hE:j0O E s with
 |none =>
  rw [hE] at he
  obtain ⟨a1,a2,a3,a4,a5,a6,a7,a8,a9,a10,a11,a12,a13,a14,a15,a16,a17,a18,a19,a20,rfl,-⟩:=hw
  refine j00 Tryz.func161 rfl rfl rfl ?_
  repeat' ((conv=>whnf);first|apply gT|apply gO|refine j04 rfl ?_|refine j01 he rfl rfl ?_)
  all_goals (try (conv=>whnf))
  all_goals rfl
 |some e =>
  rw [hE] at he hf
  obtain ⟨k2,n2,s2,b2,z2,x2,c2,y2,ys2,ee,hee⟩:=j4Q (F e)
  simp only [Option.getD_some] at hf
  rw [hee] at hf
  dsimp only
  rw [hee]
  obtain ⟨a1,a2,a3,a4,a5,a6,a7,a8,a9,a10,a11,a12,a13,a14,a15,a16,a17,a18,a19,a20,rfl,-⟩:=hw
  refine j00 Tryz.func161 rfl rfl rfl ?_
  repeat' ((conv=>whnf);first|apply gF|apply gO|refine j01 he rfl rfl ?_)
  all_goals (try (conv=>whnf))
  simp only [hcl]
  repeat' ((conv=>whnf);first|apply gO|refine j04 rfl ?_|refine j01 hf rfl rfl ?_)
  all_goals (try (conv=>whnf))
  all_goals rfl
def typeAt (E:Nv) (s:List UInt8) (bys:List Lv):Except Int Tm:=jas E s fun e=>jf3 e bys
def j2d (E:Nv) (s:List UInt8) (bys:List Lv):Except Int Tm:=jas E s fun e=>j9L e bys
theorem jfE (E:Nv) (v:PV) (h:NvP E v) (s:List UInt8) (bys:List Lv) (b:Bool) (z:Nat) (xs:List PV) (hz:z=3∨xs=[]) (hxs:LvsP bys xs) (hbd:bys.length ≤ 1000000):Pf C1 112 [v,sv s,.sl b z xs] (errV (typeAt E s bys)):=by
 have ht:=jhh E v h s b z xs 162 rfl (fun e=>jf3 e bys) (fun e w he=>jdl e w he bys b z xs hz hxs hbd)
 unfold typeAt
 obtain ⟨k2,n2,s2,b2,z2,x2,c2,y2,ys2,ee,hee⟩:=j4Q (jas E s fun e=>jf3 e bys)
 rw [hee] at ht ⊢
 obtain ⟨b',z',xs',rfl,-⟩:=h
 refine j00 Tryz.func112 rfl rfl rfl ?_
 repeat' ((conv=>whnf);first|apply gO|refine j04 rfl ?_|refine j01 ht rfl rfl ?_)
 all_goals (try (conv=>whnf))
 all_goals rfl
theorem jdN (E:Nv) (v:PV) (h:NvP E v) (s:List UInt8) (bys:List Lv) (b:Bool) (z:Nat) (xs:List PV) (hz:z=3∨xs=[]) (hxs:LvsP bys xs) (hbd:bys.length ≤ 1000000):Pf C1 308 [v,sv s,.sl b z xs] (errV (j2d E s bys)):=by
 have ht:=jhh E v h s b z xs 313 rfl (fun e=>j9L e bys) (fun e w he=>jbI e w he bys b z xs hz hxs hbd)
 unfold j2d
 obtain ⟨k2,n2,s2,b2,z2,x2,c2,y2,ys2,ee,hee⟩:=j4Q (jas E s fun e=>j9L e bys)
 rw [hee] at ht ⊢
 obtain ⟨b',z',xs',rfl,-⟩:=h
 refine j00 Tryz.func308 rfl rfl rfl ?_
 repeat' ((conv=>whnf);first|apply gO|refine j04 rfl ?_|refine j01 ht rfl rfl ?_)
 all_goals (try (conv=>whnf))
 all_goals rfl
def addF (E:Nv) (e:En):Except Int Nv:=if j2a e=true then match getR e.nm E.tr with
  |some _=>.error 14
  |none=>.ok ⟨putR e.nm E.es.length E.tr,E.es ++ [e]⟩
 else .error 10
end Go.Proofs.YtljnahbgfmflaaaGreatDoor
