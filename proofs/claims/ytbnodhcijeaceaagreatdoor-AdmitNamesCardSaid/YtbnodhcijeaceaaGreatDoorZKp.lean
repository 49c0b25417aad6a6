/- Entries at levels (package decl). -/
import Derived.Test.YtbnodhcijeaceaaGreatDoorZKk
set_option linter.all false
set_option maxHeartbeats 1000000
set_option maxRecDepth 100000
namespace Go.Proofs.YtbnodhcijeaceaaGreatDoor
open Go Go.Am Go.Gw
def errV(o:Except Int Tm):List PV:=match o with
 | .ok x=>[encT x,iv 0]
 | .error e=>[.ag zTm,iv e]
theorem jm1(l:Lv)(v:PV)(h:LvP l v):Pf C1 296 [v] [bv (!j0x l 4)]:=by
 have h1:=j2D l v h 4;obtain⟨k1,n1,l1,b1,z1,x1,rfl,rfl,hz1,hxs1,hlen1,hbd1⟩:=h.open;refine j00 Tryz.func296 rfl rfl rfl ?_;repeat'(first|refine gU ?_|refine gX h1 ?_)<;>conv=>whnf
 all_goals rfl
def idxL(p:Lv→Bool):List Lv→Nat→Int
 |[],_=>-1
 |t::r,i=>if p t=true then i else idxL p r (i+1)
theorem jj9(p:Lv→Bool):∀(ts:List Lv) (i:Nat),decide (0≤idxL p ts i)=ts.any p
 |[],i=>by simp[idxL]
 |t::r,i=>by
  rw[idxL,List.any_cons]
  by_cases h:p t=true
  ·rw[if_pos h,h];simp
  ·rw[if_neg h,jj9 p r,Bool.eq_false_iff.2 h];simp
theorem jeg(ts:List Lv)(b:Bool)(z:Nat)(xs:List PV)(hz:z=3∨xs=[])(hxs:LvsP ts xs)(hbd:ts.length≤1000000):Pf C1 328 [.sl b z xs,.fn 296 [] []] [iv (idxL (fun l=>!j0x l 4) ts 0)]:=by
 have hlen:=hxs.len;refine j00 Tryz.func328 rfl rfl rfl ?_;all_goals try conv=>whnf
 refine j03 (G:=Nat) (fun i=>[(8,iv i)]) (fun _=>_) (fun i=>i≤ts.length∧idxL (fun l=>!j0x l 4) (ts.drop i) i=idxL (fun l=>!j0x l 4) ts 0) (fun i=>ts.length-i) 0 ⟨by omega,rfl⟩ rfl rfl ?_
 rintro i ⟨hi,hall⟩;dsimp only at hi hall⊢;repeat'(first|refine gU ?_|apply gE<;>intro h)<;>conv=>whnf
 ·have hi':i<ts.length:=by omega
  obtain⟨tc,htc⟩:∃tc,ts[i]?=some tc:=⟨_,List.getElem?_eq_getElem hi'⟩;obtain⟨v,hv,hl⟩:=hxs.at htc;have hw:=jm1 tc v hl;obtain⟨k1,n1,l1,b1,z1,x1,rfl,rfl,hz1,hxs1,hlen1,hbd1⟩:=hl.open;rw[drop_at htc,idxL] at hall;repeat'(first|refine gU ?_|apply gM<;>intro h|refine VIdx.mk _ hv ?_|refine gZ hz ?_|refine gX hw ?_)<;>conv=>whnf
  ·rw[if_neg (by simp_all)] at hall
   exact VAgain.mk _ rfl _ (j0a rfl rfl rfl) ⟨i+1,⟨hi',hall⟩,by omega,rfl⟩
  ·rw[if_pos (by simp_all)] at hall
   rw[←hall]
 ·rw[List.drop_of_length_le (by omega),idxL] at hall
  rw[←hall]
theorem jdO(ts:List Lv)(b:Bool)(z:Nat)(xs:List PV)(hz:z=3∨xs=[])(hxs:LvsP ts xs)(hbd:ts.length≤1000000):Pf C1 295 [.sl b z xs,.fn 296 [] []] [bv (ts.any fun l=>!j0x l 4)]:=by
 have hi:=jeg ts b z xs hz hxs hbd;refine j00 Tryz.func295 rfl rfl rfl ?_;repeat'(first|refine gU ?_|refine gX hi ?_)<;>conv=>whnf
 rw[←jj9 _ ts 0]
def atF(pars:Int)(t:Tm)(bys:List Lv):Except Int Tm:=if(bys.length:Int)≠pars∨(bys.any fun l=>!j0x l 4)=true then .error 16 else match j1L t bys with
 |none=>.error 15
 |some x=>.ok x
theorem jrd(e:En)(v:PV)(h:EnP e v)(t:Tm)(w:PV)(ht:TmP t w)(bys:List Lv)(b:Bool)(z:Nat)(xs:List PV)(hz:z=3∨xs=[])(hxs:LvsP bys xs)(hbd:bys.length≤1000000):Pf C1 258 [v,w,.sl b z xs] (errV (atF e.pars t bys)):=by
 have hlen:=hxs.len;have h1:=jdO bys b z xs hz hxs hbd;have h2:=jcu bys b z xs hz hxs hbd t w ht;have e0:atF e.pars t bys=if(bys.length:Int)≠e.pars∨(bys.any fun l=>!j0x l 4)=true then .error 16 else match j1L t bys with
  |none=>.error 15
  |some x=>.ok x:=rfl
 generalize(bys.any fun l=>!j0x l 4)=q at *
 obtain⟨kind,pars,nm,ty,val,hgt,fam,fixd,idx,flds,ctors⟩:=e;obtain⟨tk,tn,ts,tb,tz',txs,tc,ty',tys,vk,vn,vs,vb,vz,vxs,vc,vy,vys,b',z',rfl,-⟩:=h;dsimp only at e0⊢;obtain⟨k1,n1,s1,l1,t1,b1,z1,x1,c1,y1,ys1,rfl,rfl,-⟩:=ht.open
 by_cases c1:(bys.length:Int)≠pars∨q=true
 ·rw[if_pos c1] at e0;rw[e0];refine j00 Tryz.func258 rfl rfl rfl ?_;repeat'(first|refine gU ?_|apply gE<;>intro h|apply gM<;>intro h|refine gX h1 ?_)<;>conv=>whnf
  all_goals first|rfl|(exfalso;simp_all;done)|(exfalso;omega)
 ·rw[if_neg c1] at e0;rw[e0];have c2:(bys.length:Int)=pars:=by omega
  have c3:q=false:=by cases q<;>simp_all
  subst c3;cases h0:j1L (.mk k1 n1 s1 l1 t1) bys with
  |none=>
   rw[h0] at h2;simp only[putV] at h2;refine j00 Tryz.func258 rfl rfl rfl ?_;repeat'(first|refine gU ?_|apply gE<;>intro h|refine gX h1 ?_|refine gX h2 ?_)<;>conv=>whnf
   all_goals first|rfl|(exfalso;omega)
  |some x=>
   rw[h0] at h2;simp only[putV,errV] at h2⊢;obtain⟨k2,n2,s2,b2,z2,x2,c2,y2,ys2,he⟩:=j07 x;rw[he] at h2⊢;refine j00 Tryz.func258 rfl rfl rfl ?_;repeat'(first|refine gU ?_|apply gE<;>intro h|refine gX h1 ?_|refine gX h2 ?_)<;>conv=>whnf
   all_goals first|rfl|(exfalso;omega)
theorem j6c(o:Except Int Tm):∃k n s b z xs c y ys e,errV o=[.ag [iv k,iv n,sv s,.sl b z xs,.sl c y ys],iv e]:=by
 cases o with
 |error e=>exact⟨_,_,_,_,_,_,_,_,_,e,rfl⟩
 |ok x=>
  obtain⟨k2,n2,s2,b2,z2,x2,c2,y2,ys2,he⟩:=j07 x;exact⟨k2,n2,s2,b2,z2,x2,c2,y2,ys2,0,by simp only[errV,he]⟩
def jio(e:En)(bys:List Lv):Except Int Tm:=if j1u e=true then atF e.pars e.ty bys else .error 10
def jbX(e:En)(bys:List Lv):Except Int Tm:=if j1u e=true then(if e.kind=2 then atF e.pars e.val bys else .error 13) else .error 10
theorem jfL(e:En)(v:PV)(h:EnP e v)(bys:List Lv)(b:Bool)(z:Nat)(xs:List PV)(hz:z=3∨xs=[])(hxs:LvsP bys xs)(hbd:bys.length≤1000000):Pf C1 211 [v,.sl b z xs] (errV (jio e bys)):=by
 have hr:=j5l e v h;have h0:=h;have e0:jio e bys=if j1u e=true then atF e.pars e.ty bys else .error 10:=rfl
 rw[e0];clear e0;generalize j1u e=q at *;obtain⟨kind,pars,nm,ty,val,hgt,fam,fixd,idx,flds,ctors⟩:=e;obtain⟨tk,tn,ts,tb,tz',txs,tc,ty',tys,vk,vn,vs,vb,vz,vxs,vc,vy,vys,b',z',rfl,hty,-⟩:=h;have ha:=jrd _ _ h0 _ _ hty bys b z xs hz hxs hbd;dsimp only at ha⊢;obtain⟨k2,n2,s2,b2,z2,x2,c2,y2,ys2,ee,he⟩:=j6c (atF pars ty bys);cases q with
 |true=>
  rw[if_pos rfl];rw[he] at ha⊢;refine j00 Tryz.func211 rfl rfl rfl ?_;repeat'(first|refine gU ?_|refine gX hr ?_|refine gX ha ?_)<;>conv=>whnf
  all_goals rfl
 |false=>
  rw[if_neg (by simp)]
  refine j00 Tryz.func211 rfl rfl rfl ?_;repeat'(first|refine gU ?_|refine gX hr ?_)<;>conv=>whnf
  all_goals rfl
theorem je1(e:En)(v:PV)(h:EnP e v)(bys:List Lv)(b:Bool)(z:Nat)(xs:List PV)(hz:z=3∨xs=[])(hxs:LvsP bys xs)(hbd:bys.length≤1000000):Pf C1 391 [v,.sl b z xs] (errV (jbX e bys)):=by
 have hr:=j5l e v h;have h0:=h;have e0:jbX e bys=if j1u e=true then(if e.kind=2 then atF e.pars e.val bys else .error 13) else .error 10:=rfl
 rw[e0];clear e0;generalize j1u e=q at *;obtain⟨kind,pars,nm,ty,val,hgt,fam,fixd,idx,flds,ctors⟩:=e;obtain⟨tk,tn,ts,tb,tz',txs,tc,ty',tys,vk,vn,vs,vb,vz,vxs,vc,vy,vys,b',z',rfl,hty,hval,-⟩:=h;have ha:=jrd _ _ h0 _ _ hval bys b z xs hz hxs hbd;dsimp only at ha⊢;obtain⟨k2,n2,s2,b2,z2,x2,c2,y2,ys2,ee,he⟩:=j6c (atF pars val bys);cases q with
 |true=>
  rw[if_pos rfl]
  by_cases hk:kind=2
  ·rw[if_pos hk];rw[he] at ha⊢;refine j00 Tryz.func391 rfl rfl rfl ?_;repeat'(first|refine gU ?_|refine gX hr ?_|refine gX ha ?_)<;>conv=>whnf
   all_goals first|rfl|(exfalso;omega)
  ·rw[if_neg hk];refine j00 Tryz.func391 rfl rfl rfl ?_;repeat'(first|refine gU ?_|refine gX hr ?_)<;>conv=>whnf
   all_goals first|rfl|(exfalso;omega)
 |false=>
  rw[if_neg (by simp)]
  refine j00 Tryz.func391 rfl rfl rfl ?_;repeat'(first|refine gU ?_|refine gX hr ?_)<;>conv=>whnf
  all_goals rfl
open Go Go.Am Go.Gw
def jkI(l:List (List UInt8)):PV:=match l with
 |[]=>.sl true 0 []
 |s::r=>.sl false 1 (svs (s::r))
variable{e:En}{b f k n:Int}{bys ls:List Lv}{ts us:List Tm}{s:List UInt8}{z:Nat}{y:Operand}{v:PV}{t x:Tm}
theorem juc{x:Operand}:j0j C1.P .eql 49 x y (.sl true 0 []) (.sl true 0 [])=some (bv true):=by kernel_rfl
theorem jud{x:Operand}{b:Bool}{c:PV}{cs:List PV}:j0j C1.P .eql 49 x y (.sl b z (c::cs)) (.sl true 0 [])=some (bv false):=by kernel_rfl
theorem jko(l:List (List UInt8))(b:Bool)(z:Nat)(hz:z=1∨(l=[]∧b=true∧z=0))(hn:l=[]→b=true∧z=0)(hl:l.length≤1000000):Pf C1 187 [.sl b z (svs l)] [jkI l]:=by
 cases l with
 |nil=>
  obtain⟨rfl,rfl⟩:=hn rfl;refine j00 Tryz.func187 rfl rfl rfl ?_;repeat'(first|refine gU ?_|refine VRes.mk _ juc ?_)<;>conv=>whnf
  all_goals rfl
 |cons s r=>
  have hz1:z=1:=by simpa using hz
  subst hz1;have hp6:(svs (s::r)).all (pur 6)=true:=j8B _;refine j00 Tryz.func187 rfl rfl rfl ?_;repeat'(first|refine gU ?_|refine VRes.mk _ jud ?_|refine VOk.mk (jed (w:=16) (r:=140737488355328) rfl rfl (by simp at hl⊢;omega) (by simp at hl⊢;omega)) ?_)<;>conv=>whnf
  exact j0n rfl (j04 (j0D rfl (by simp) hp6) j0m) rfl rfl
def encE(e:En):PV:=match encT e.ty,encT e.val with
 | .ag tc,.ag vc=>.ag ([iv e.kind,iv e.pars,sv e.nm]++tc++vc++[iv e.ht,sv e.fam,iv e.fixd,iv e.idx,iv e.flds,jkI e.ctors])
 |_,_=>.un
theorem jau(e:En)(v:PV)(h:EnP e v):Pf C1 126 [v] [encE e]:=by
 obtain⟨kind,pars,nm,ty,val,hgt,fam,fixd,idx,flds,ctors⟩:=e;obtain⟨tk,tn,ts,tb,tz',txs,tc,ty',tys,vk,vn,vs,vb,vz,vxs,vc,vy,vys,b,z,rfl,hty,hval,hz,hnm,hfam,hct,hcs⟩:=h;dsimp only at hty hval hz hct⊢;have h1:=j5R ty _ hty true 0;have h2:=j5R val _ hval true 0;obtain⟨k2,n2,s2,b2,z2,x2,c2,y2,ys2,he⟩:=j07 ty;obtain⟨k3,n3,s3,b3,z3,x3,c3,y3,ys3,he'⟩:=j07 val;unfold encE;dsimp only;rw[he] at h1;rw[he'] at h2;rw[he,he'];have h3:Pf C1 187 [.sl b z (svs ctors)] [jkI ctors]:=jko ctors b z (hz.imp (·.1) id) (fun e=>by
  rcases hz with hz|hz
  ·exact absurd e hz.2
  ·exact hz.2) hct
 have e4:∃b z xs,jkI ctors=.sl b z xs:=by cases ctors<;>exact⟨_,_,_,rfl⟩
 obtain⟨b4,z4,x4,e4⟩:=e4;rw[e4] at h3⊢;refine j00 Tryz.func126 rfl rfl rfl ?_;repeat'(first|refine gU ?_|refine j01 h1 fun _=>?_|refine j01 h2 fun _=>?_|refine j01 h3 fun _=>?_|apply gK)<;>conv=>whnf
 all_goals rfl
theorem j5Z(h:EnP e v):EnP e (encE e):=by
 obtain⟨kind,pars,nm,ty,val,hgt,fam,fixd,idx,flds,ctors⟩:=e;obtain⟨tk,tn,ts,tb,tz',txs,tc,ty',tys,vk,vn,vs,vb,vz,vxs,vc,vy,vys,b,z,rfl,hty,hval,hz,hnm,hfam,hct,hcs⟩:=h;dsimp only at hty hval hz hnm hfam hct hcs;have h1:=hty.w;have h2:=hval.w;unfold TmW at h1 h2;obtain⟨k2,n2,s2,b2,z2,x2,c2,y2,ys2,he⟩:=j07 ty;obtain⟨k3,n3,s3,b3,z3,x3,c3,y3,ys3,he'⟩:=j07 val;unfold encE;dsimp only;rw[he] at h1;rw[he'] at h2;rw[he,he'];cases ctors with
 |nil=>exact⟨_,_,_,_,_,_,_,_,_,_,_,_,_,_,_,_,_,_,_,_,rfl,h1,h2,.inr ⟨rfl,rfl,rfl⟩,hnm,hfam,hct,hcs⟩
 |cons s r=>exact⟨_,_,_,_,_,_,_,_,_,_,_,_,_,_,_,_,_,_,_,_,rfl,h1,h2,.inl ⟨rfl,by simp⟩,hnm,hfam,hct,hcs⟩
open Go Go.Am Go.Gw
structure Nv where
 tr:Tr
 es:List En
def EnsP:List En→List PV→Prop
 |[],xs=>xs=[]
 |e::r,xs=>∃v xs',xs=v::xs'∧EnP e v∧EnsP r xs'
theorem EnsP.len:∀{es:List En}{xs:List PV},EnsP es xs→xs.length=es.length
 |[],xs,h=>by
  simp only[EnsP] at h;subst h;rfl
 |e::r,xs,h=>by
  simp only[EnsP] at h;obtain⟨v,xs',rfl,-,h2⟩:=h;simp[EnsP.len h2]
theorem EnsP.at:∀{es:List En}{xs:List PV},EnsP es xs→∀{i:Nat}{e:En},es[i]?=some e→∃v,xs[i]?=some v∧EnP e v
 |[],xs,h,i,e,hi=>by simp at hi
 |a::r,xs,h,i,e,hi=>by
  simp only[EnsP] at h;obtain⟨v,xs',rfl,h1,h2⟩:=h;cases i with
  |zero=>simp at hi;subst hi;exact⟨v,rfl,h1⟩
  |succ i=>simpa using EnsP.at h2 (i:=i) (by simpa using hi)
theorem EnsP.snoc:∀{es:List En}{xs:List PV}{e:En}{v:PV},EnsP es xs→EnP e v→EnsP (es++[e]) (xs++[v])
 |[],xs,e,v,h,h'=>by
  simp only[EnsP] at h;subst h;exact⟨v,[],rfl,h',rfl⟩
 |a::r,xs,e,v,h,h'=>by
  simp only[EnsP] at h;obtain⟨w,xs',rfl,h1,h2⟩:=h;exact⟨w,xs'++[v],rfl,h1,EnsP.snoc h2 h'⟩
structure NvOk (E:Nv):Prop where
 idx:∀s i,getR s E.tr=some i→0≤i∧i<E.es.length
 right:∀e∈E.es,j1u e=true
 len:E.es.length≤100000
def NvP(E:Nv)(v:PV):Prop:=∃b z xs,v=.cp [j8D E.tr,.sl b z xs]∧((z=19∧E.es≠[])∨(E.es=[]∧b=true∧z=0))∧EnsP E.es xs∧NvOk E
def zEn:List PV:=[iv 0,iv 0,sv [],iv 0,iv 0,sv [],.sl true 0 [],.sl true 0 [],iv 0,iv 0,sv [],.sl true 0 [],.sl true 0 [],iv 0,sv [],iv 0,iv 0,iv 0,.sl true 0 []]
def enz:En:=⟨0,0,[],tz,tz,0,[],0,0,0,[]⟩
theorem jtj:EnP enz (.ag zEn):=⟨_,_,_,_,_,_,_,_,_,_,_,_,_,_,_,_,_,_,_,_,rfl,j5P,j5P,.inr ⟨rfl,rfl,rfl⟩,by simp[enz],by simp[enz],by simp[enz],by simp[enz]⟩
def j0E(E:Nv)(s:List UInt8):Option En:=match getR s E.tr with
 |none=>none
 |some i=>E.es[i.toNat]?
theorem NvP.zok{E:Nv}{b:Bool}{xs:List PV}(hz:(z=19∧E.es≠[])∨(E.es=[]∧b=true∧z=0))(hx:EnsP E.es xs):z=19∨xs=[]:=by
 rcases hz with hz|hz
 ·exact .inl hz.1
 ·refine .inr ?_;have:=hx.len;rw[hz.1] at this;exact List.eq_nil_of_length_eq_zero this
theorem j6b(E:Nv)(v:PV)(h:NvP E v)(s:List UInt8):∃w,EnP ((j0E E s).getD enz) w∧Pf C1 117 [v,sv s] [w,bv (j0E E s).isSome]:=by
 obtain⟨b,z,xs,rfl,hz,hx,hok⟩:=h;have hg:=jh9 s E.tr;have hz':=NvP.zok hz hx;unfold j0E;cases hG:getR s E.tr with
 |none=>
  rw[hG] at hg;refine⟨.ag zEn,jtj,?_⟩;refine j00 Tryz.func117 rfl rfl rfl ?_;repeat'(first|refine gU ?_|refine gX hg ?_)<;>conv=>whnf
  all_goals rfl
 |some i=>
  rw[hG] at hg;obtain⟨i0,i1⟩:=hok.idx s i hG;obtain⟨n,rfl⟩:∃n:Nat,i=n:=⟨i.toNat,by omega⟩
  obtain⟨e,he⟩:∃e,E.es[n]?=some e:=⟨_,List.getElem?_eq_getElem (by omega)⟩
  obtain⟨w,hw,hP⟩:=hx.at he;have he':E.es[((n:Nat):Int).toNat]?=some e:=by simpa using he
  refine⟨w,?_,?_⟩
  ·dsimp only;rw[he'];exact hP
  dsimp only;rw[he'];obtain⟨tk,tn,ts,tb,tz',txs,tc,ty',tys,vk,vn,vs,vb,vz,vxs,vc,vy,vys,b',z',rfl,-⟩:=hP;refine j00 Tryz.func117 rfl rfl rfl ?_;repeat'(first|refine gU ?_|refine gX hg ?_|refine VIdx.mk _ hw ?_|refine gZ hz' ?_)<;>conv=>whnf
  all_goals rfl
theorem j4z(h:EnP e v):∃tk tn ts tb tz txs tc ty tys vk vn vs vb vz vxs vc vy vys b z,encE e=.ag [iv e.kind,iv e.pars,sv e.nm,iv tk,iv tn,sv ts,.sl tb tz txs,.sl tc ty tys,iv vk,iv vn,sv vs,.sl vb vz vxs,.sl vc vy vys,iv e.ht,sv e.fam,iv e.fixd,iv e.idx,iv e.flds,.sl b z (svs e.ctors)]:=by
 obtain⟨a1,a2,a3,a4,a5,a6,a7,a8,a9,a10,a11,a12,a13,a14,a15,a16,a17,a18,a19,a20,h,-⟩:=j5Z h;exact⟨a1,a2,a3,a4,a5,a6,a7,a8,a9,a10,a11,a12,a13,a14,a15,a16,a17,a18,a19,a20,h⟩
theorem jcK(E:Nv)(v:PV)(h:NvP E v)(s:List UInt8):Pf C1 368 [v,sv s] [encE ((j0E E s).getD enz),bv (j0E E s).isSome]:=by
 obtain⟨w,hw,he⟩:=j6b E v h s;have hc:=jau _ _ hw;obtain⟨b,z,xs,rfl,-⟩:=h;obtain⟨tk,tn,ts,tb,tz',txs,tc,ty',tys,vk,vn,vs,vb,vz,vxs,vc,vy,vys,b',z',hE⟩:=j4z hw;rw[hE] at hc⊢;obtain⟨a1,a2,a3,a4,a5,a6,a7,a8,a9,a10,a11,a12,a13,a14,a15,a16,a17,a18,a19,a20,rfl,-⟩:=hw;refine j00 Tryz.func368 rfl rfl rfl ?_;repeat'(first|refine gU ?_|refine gX he ?_|refine gX hc ?_)<;>conv=>whnf
 all_goals rfl
def jbO(E:Nv)(s:List UInt8)(by_:En→Except Int Tm):Except Int Tm:=match j0E E s with
 |none=>.error 13
 |some e=>by_ e
theorem jjX(E:Nv)(v:PV)(h:NvP E v)(s:List UInt8)(b:Bool)(z:Nat)(xs:List PV)(f:FuncId)(hcl:callable C1.P f=true)(F:En→Except Int Tm)(hF:∀e w,EnP e w→Pf C1 f [w,.sl b z xs] (errV (F e))):Pf C1 210 [v,sv s,.sl b z xs,.fn f [] []] (errV (jbO E s F)):=by
 obtain⟨w,hw,he⟩:=j6b E v h s;have hf:=hF _ _ hw;obtain⟨b',z',xs',rfl,-⟩:=h;unfold jbO;cases hE:j0E E s with
 |none=>
  rw[hE] at he;obtain⟨a1,a2,a3,a4,a5,a6,a7,a8,a9,a10,a11,a12,a13,a14,a15,a16,a17,a18,a19,a20,rfl,-⟩:=hw;refine j00 Tryz.func210 rfl rfl rfl ?_;repeat'(first|refine gU ?_|refine gX he ?_)<;>conv=>whnf
  all_goals rfl
 |some e=>
  rw[hE] at he hf;obtain⟨k2,n2,s2,b2,z2,x2,c2,y2,ys2,ee,hee⟩:=j6c (F e);simp only[Option.getD_some] at hf;rw[hee] at hf;dsimp only;rw[hee];obtain⟨a1,a2,a3,a4,a5,a6,a7,a8,a9,a10,a11,a12,a13,a14,a15,a16,a17,a18,a19,a20,rfl,-⟩:=hw;refine j00 Tryz.func210 rfl rfl rfl ?_;repeat'(first|refine gU ?_|refine gX he ?_)<;>conv=>whnf
  simp only[hcl];repeat'(first|refine gU ?_|refine gX hf ?_)<;>conv=>whnf
  all_goals rfl
def typeAt(E:Nv)(s:List UInt8)(bys:List Lv):Except Int Tm:=jbO E s fun e=>jio e bys
def j2E(E:Nv)(s:List UInt8)(bys:List Lv):Except Int Tm:=jbO E s fun e=>jbX e bys
theorem jhx(E:Nv)(v:PV)(h:NvP E v)(s:List UInt8)(bys:List Lv)(b:Bool)(z:Nat)(xs:List PV)(hz:z=3∨xs=[])(hxs:LvsP bys xs)(hbd:bys.length≤1000000):Pf C1 156 [v,sv s,.sl b z xs] (errV (typeAt E s bys)):=by
 have ht:=jjX E v h s b z xs 211 rfl (fun e=>jio e bys) (fun e w he=>jfL e w he bys b z xs hz hxs hbd)
 unfold typeAt;obtain⟨k2,n2,s2,b2,z2,x2,c2,y2,ys2,ee,hee⟩:=j6c (jbO E s fun e=>jio e bys)
 rw[hee] at ht⊢;obtain⟨b',z',xs',rfl,-⟩:=h;refine j00 Tryz.func156 rfl rfl rfl ?_;repeat'(first|refine gU ?_|refine gX ht ?_)<;>conv=>whnf
 all_goals rfl
theorem jfY(E:Nv)(v:PV)(h:NvP E v)(s:List UInt8)(bys:List Lv)(b:Bool)(z:Nat)(xs:List PV)(hz:z=3∨xs=[])(hxs:LvsP bys xs)(hbd:bys.length≤1000000):Pf C1 386 [v,sv s,.sl b z xs] (errV (j2E E s bys)):=by
 have ht:=jjX E v h s b z xs 391 rfl (fun e=>jbX e bys) (fun e w he=>je1 e w he bys b z xs hz hxs hbd)
 unfold j2E;obtain⟨k2,n2,s2,b2,z2,x2,c2,y2,ys2,ee,hee⟩:=j6c (jbO E s fun e=>jbX e bys)
 rw[hee] at ht⊢;obtain⟨b',z',xs',rfl,-⟩:=h;refine j00 Tryz.func386 rfl rfl rfl ?_;repeat'(first|refine gU ?_|refine gX ht ?_)<;>conv=>whnf
 all_goals rfl
def addF(E:Nv)(e:En):Except Int Nv:=if j1u e=true then match getR e.nm E.tr with
  |some _=>.error 14
  |none=>.ok ⟨putR e.nm E.es.length E.tr,E.es++[e]⟩
 else .error 10
open Go Go.Am Go.Gw
mutual
def shT:Tm→Bool
 | .mk k n _ ls ts=>(decide (1≤k)&&decide (k≤7))&&(decide ((ts.length:Int)=j1f k)&&(if k=3 then decide (ls.length≤4) else decide ((ls.length:Int)=j0O k))&&(shTs ts&&(!decide (k=1)||decide (0≤n))))
def shTs:List Tm→Bool
 |[]=>true
 |t::r=>shT t&&shTs r
end
theorem jeU:∀ts:List Tm,shTs ts=ts.all shT
 |[]=>rfl
 |t::r=>by rw[shTs,List.all_cons,jeU r]
theorem j0s(h:shT (.mk k n s ls ts)=true):(1≤k∧k≤7)∧(ts.length:Int)=j1f k∧(k=3→ls.length≤4)∧(¬k=3→(ls.length:Int)=j0O k)∧(∀t∈ts,shT t=true)∧(k=1→0≤n):=by
 rw[shT,jeU] at h;simp only[Bool.and_eq_true,decide_eq_true_eq,List.all_eq_true] at h;obtain⟨h1,⟨h2,h3⟩,h4,h5⟩:=h;refine⟨h1,h2,fun e=>?_,fun e=>?_,h4,fun e=>by simpa[e] using h5⟩
 ·rw[if_pos e] at h3;simpa using h3
 ·rw[if_neg e] at h3;simpa using h3
theorem j9W(h1:1≤k∧k≤7)(h2:(ts.length:Int)=j1f k)(h3:k=3→ls.length≤4)(h4:¬k=3→(ls.length:Int)=j0O k)(h5:∀t∈ts,shT t=true)(h6:k=1→0≤n):shT (.mk k n s ls ts)=true:=by
 rw[shT,jeU];simp only[Bool.and_eq_true,decide_eq_true_eq,List.all_eq_true];refine⟨h1,⟨h2,?_⟩,h5,by by_cases e:k=1<;>simp[e,h6]⟩
 split
 ·rename_i e;simpa using h3 e
 ·rename_i e;simpa using h4 e
mutual
theorem jdl:∀(t:Tm) (p kk:Int),allT t p kk=true→shT t=true
 | .mk k n s ls ts,p,kk,h=>by
  obtain⟨h1,h2,h3,h4,h5⟩:=j0r h;refine j9W h1 h2 (fun e=>?_) (fun e=>?_) (jbJ ts k 0 p kk h5) (fun e=>(j1E h3 e).1)
  ·simp only[j3W] at h3;rw[if_neg (by omega),if_pos e] at h3
   simp at h3;omega
  ·simp only[j3W] at h3;split at h3
   ·rename_i e1;simp at h3;subst e1;simp[j0O,h3.2.2.2]
   ·simp[e] at h3;omega
theorem jbJ:∀(ts:List Tm) (k i p kk:Int),j0T ts k i p kk=true→∀t∈ts,shT t=true
 |[],_,_,_,_,_,t,ht=>by cases ht
 |a::r,k,i,p,kk,h,t,ht=>by
  simp only[j0T,Bool.and_eq_true] at h;rcases List.mem_cons.1 ht with ht|ht
  ·rw[ht];exact jdl a _ _ h.1
  ·exact jbJ r k (i+1) p kk h.2 t ht
end
theorem j6z{p kk:Int}(h:j0w t p kk=true):shT t=true:=jdl _ _ _ (j3k h).2.2.2
theorem jid(h:anyT t=true):shT t=true:=j6z h
theorem jjS:∀(t:Tm),shT t=true→shT (spF t).1=true∧(∀a∈(spF t).2,shT a=true)∧¬(spF t).1.kind=4
 | .mk k n s ls ts,h=>by
  obtain⟨h1,h2,h3,h4,h5,h6⟩:=j0s h
  by_cases hk:k=4
  ·subst hk;have hl:ts.length=2:=by
    have:j1f 4=2:=rfl;omega
   match ts,hl,h5 with
   |[f,a],_,h5=>
    obtain⟨a1,a2,a3⟩:=jjS f (h5 f (by simp))
    rw[jeY];refine⟨a1,?_,a3⟩
    intro x hx;rcases List.mem_cons.1 hx with rfl|hx
    ·exact h5 _ (by simp)
    ·exact a2 x hx
  ·rw[jeZ (fun e=>hk e.1)]
   exact⟨h,by simp,hk⟩
theorem j9z:∀(t:Tm),sizT (spF t).1+(spF t).2.length≤sizT t∧(∀a∈(spF t).2,sizT a<sizT t)
 | .mk k n s ls ts=>by
  by_cases hk:k=4∧ts.length=2
  ·obtain⟨rfl,hl⟩:=hk;match ts,hl with
   |[f,a],_=>
    obtain⟨a1,a2⟩:=j9z f;rw[jeY];have e:sizT (.mk 4 n s ls [f,a])=1+j0c ls+(sizT f+(sizT a+0)):=by simp[sizT,j0t]
    have ha:=jjO a;refine⟨by simp only[List.length_cons];omega,?_⟩
    intro x hx;rcases List.mem_cons.1 hx with rfl|hx
    ·omega
    ·have:=a2 x hx;omega
  ·rw[jeZ hk];exact⟨by simp,by simp⟩
theorem jqL:∀(t:Tm),TmW t→TmW (spF t).1∧∀a∈(spF t).2,TmW a
 | .mk k n s ls ts,h=>by
  by_cases hk:k=4∧ts.length=2
  ·obtain⟨rfl,hl⟩:=hk;match ts,hl,h with
   |[f,a],_,h=>
    obtain⟨a1,a2⟩:=jqL f (h.args.1 f (by simp))
    rw[jeY];refine⟨a1,?_⟩
    intro x hx;rcases List.mem_cons.1 hx with rfl|hx
    ·exact h.args.1 _ (by simp)
    ·exact a2 x hx
  ·rw[jeZ hk];exact⟨h,by simp⟩
theorem j3a{a:Tm}:a∈j1c t↔a∈(spF t).2:=by simp[j1c]
theorem jhf:∀(ts:List Tm) (f:Tm),shT f=true→(∀a∈ts,shT a=true)→shT (appF f ts)=true
 |[],f,h,_=>h
 |a::r,f,h,hs=>by
  rw[appF];refine jhf r _ (j9W (by omega) rfl (by omega) (fun _=>rfl) ?_ (by omega)) fun x hx=>hs x (by simp[hx])
  intro x hx;rcases List.mem_cons.1 hx with rfl|hx
  ·exact h
  ·rcases List.mem_cons.1 hx with rfl|hx
   ·exact hs _ (by simp)
   ·cases hx
mutual
theorem jrZ{put:Tm→Int→Option Tm}:∀(t:Tm) (d left:Int),(bldF put t d left).2≤left
 | .mk k n s ls ts,d,left=>by
  rw[bldF]
  by_cases h0:left<0
  ·rw[j4h h0];exact Int.le_refl _
  ·cases hp:put (.mk k n s ls ts) d with
   |some x=>
    rw[j5e h0 hp];have:=j2A x;dsimp only;omega
   |none=>
    by_cases hl:ts.length=0
    ·rw[j3K h0 hp hl];have:=j2A (.mk k n s ls ts);dsimp only;omega
    ·rw[j3L h0 hp hl];have:=jdT (put:=put) ts k 0 d (left-1);dsimp only;omega
theorem jdT{put:Tm→Int→Option Tm}:∀(ts:List Tm) (k i d left:Int),(j1x put ts k i d left).2≤left
 |[],_,_,_,left=>by
  rw[j1x];exact Int.le_refl _
 |t::r,k,i,d,left=>by
  rw[j1x];have h1:=jrZ (put:=put) t (j0k (j0g k) i d) left;have h2:=jdT (put:=put) r k (i+1) d (bldF put t (j0k (j0g k) i d) left).2;dsimp only;omega
end
mutual
theorem jmy{put:Tm→Int→Option Tm}(hput:∀t d x,shT t=true→0≤d→put t d=some x→shT x=true):∀(t:Tm) (d left:Int),shT t=true→0≤d→0≤(bldF put t d left).2→shT (bldF put t d left).1=true
 | .mk k n s ls ts,d,left,h,hd0,hl0=>by
  rw[bldF] at hl0 ⊢
  by_cases h0:left<0
  ·rw[j4h h0] at hl0;dsimp only at hl0;omega
  ·cases hp:put (.mk k n s ls ts) d with
   |some x=>
    rw[j5e h0 hp];exact hput _ _ _ h hd0 hp
   |none=>
    by_cases hl:ts.length=0
    ·rw[j3K h0 hp hl];exact h
    ·rw[j3L h0 hp hl] at hl0⊢;obtain⟨h1,h2,h3,h4,h5,h6⟩:=j0s h;have h4k:¬k=3:=fun e=>by
      subst e;have:j1f 3=0:=rfl;omega
     have h2k:¬k=2:=fun e=>by
      subst e;have:j1f 2=0:=rfl;omega
     refine j9W h1 (by rw[j5W];exact h2) (fun e=>absurd e h4k) (fun _=>?_) ?_ (fun _=>Int.le_refl 0)
     ·unfold j0O;rw[if_neg (by simpa[Tm.kind] using h2k)]
      rfl
     ·exact jiO hput ts k 0 d (left-1) h5 hd0 hl0
theorem jiO{put:Tm→Int→Option Tm}(hput:∀t d x,shT t=true→0≤d→put t d=some x→shT x=true):∀(ts:List Tm) (k i d left:Int),(∀t∈ts,shT t=true)→0≤d→0≤(j1x put ts k i d left).2→∀x∈(j1x put ts k i d left).1,shT x=true
 |[],_,_,_,_,_,_,_,x,hx=>by
  rw[j1x] at hx;cases hx
 |t::r,k,i,d,left,h,hd0,hl0,x,hx=>by
  have hi:=j2e (j0g k) i d;rw[j1x] at hx hl0;dsimp only at hx hl0;have h2:=jdT (put:=put) r k (i+1) d (bldF put t (j0k (j0g k) i d) left).2;rcases List.mem_cons.1 hx with rfl|hx
  ·exact jmy hput t _ left (h t (by simp)) (by omega) (by omega)
  ·exact jiO hput r k (i+1) d _ (fun y hy=>h y (by simp[hy])) hd0 hl0 x hx
end
theorem jet{put:Tm→Int→Option Tm}(hput:∀t d x,shT t=true→0≤d→put t d=some x→shT x=true)(h:shT t=true)(hx:j3u put t=some x):shT x=true:=by
 unfold j3u at hx;split at hx
 ·cases hx
 ·cases hx;exact jmy hput t 0 2000 h (by omega) (by omega)
theorem jie(h:0≤n):shT (.mk 1 n [] [] [])=true:=j9W (by omega) rfl (by omega) (fun _=>rfl) (by simp) (fun _=>h)
theorem joE(h:shT t=true)(hk:t.kind=1):0≤t.num:=by
 obtain⟨k,n,s,ls,ts⟩:=t;exact(j0s h).2.2.2.2.2 hk
theorem jo5(hb:0≤b):∀t d x,shT t=true→0≤d→movF b f t d=some x→shT x=true:=fun t d x hs hd h=>by
 unfold movF at h;split at h
 ·rename_i hc;cases h;have:=joE hs hc.1;exact jie (by omega)
 ·cases h
theorem jlv(h:anyT t=true){d:Int}(hd:0≤d):shT (j4b t d)=true:=by
 have hm:=jq3 (put:=movF d 0) (jq7 d 0) (jdP h);have:=jet (jo5 hd) (jid h) hm;unfold j4b;rw[hm];exact this
theorem jsn(hu:∀u∈us,anyT u=true):∀t d x,shT t=true→0≤d→insF us t d=some x→shT x=true:=fun t d x _ hd h=>by
 unfold insF at h;split at h
 ·rename_i hc;cases h;split
  ·exact jie (by omega)
  ·rename_i h3;have hq:((us.length:Int)-1-(t.num-d)).toNat<us.length:=by omega
   have hm:us.getD ((us.length:Int)-1-(t.num-d)).toNat tz∈us:=by
    rw[List.getD_eq_getElem?_getD,List.getElem?_eq_getElem hq];exact List.getElem_mem hq
   exact jlv (hu _ hm) hd
 ·cases h
theorem jav(h:InstF t us=some x):anyT t=true∧us.length≤1048576∧us.all anyT=true∧j3u (insF us) t=some x:=by
 unfold InstF at h;split at h
 ·rename_i hc;exact⟨hc.1,hc.2.1,hc.2.2,h⟩
 ·cases h
theorem j6J(h:InstF t us=some x):shT x=true:=by
 obtain⟨h1,h2,h3,h4⟩:=jav h;exact jet (jsn (List.all_eq_true.1 h3)) (jid h1) h4
theorem j8O(hu:∀u∈us,TmW u)(ht:TmW t)(h:InstF t us=some x):TmW x:=by
 obtain⟨h1,h2,h3,h4⟩:=jav h;exact jes (jje hu (List.all_eq_true.1 h3) h2) ht (j2u h1).2 (by omega) (by have:=j5b h1;omega) (j5b h1) h4
theorem jax(h:j7c t b f=some x):anyT t=true∧(0≤b∧b≤1048576)∧(0≤f∧f≤1048576)∧j3u (movF b f) t=some x:=by
 unfold j7c at h;split at h
 ·rename_i hc;exact⟨hc.1,hc.2.1,hc.2.2,h⟩
 ·cases h
theorem jiB(h:j7c t b f=some x):shT x=true:=by
 obtain⟨h1,h2,h3,h4⟩:=jax h;exact jet (jo5 h2.1) (jid h1) h4
theorem jiC(ht:TmW t)(h:j7c t b f=some x):TmW x:=by
 obtain⟨h1,h2,h3,h4⟩:=jax h;exact jes (jjx (by omega)) ht (j2u h1).2 (by omega) (by have:=j5b h1;omega) (j5b h1) h4
theorem jcY:∀{ls bys xs:List Lv},j1C ls bys=some xs→xs.length=ls.length
 |[],bys,xs,h=>by
  simp[j1C] at h;subst h;rfl
 |l::r,bys,xs,h=>by
  rw[j1C] at h;split at h
  ·cases h
  ·cases h1:j1C r bys with
   |none=>rw[h1] at h;cases h
   |some ys=>
    rw[h1] at h;cases h;simp[jcY h1]
theorem jjq:∀{ts:List Tm}{bys:List Lv}{xs:List Tm},lvTs ts bys=some xs→xs.length=ts.length
 |[],bys,xs,h=>by
  simp[lvTs] at h;subst h;rfl
 |t::r,bys,xs,h=>by
  rw[lvTs] at h;split at h
  ·cases h
  ·cases h1:lvTs r bys with
   |none=>rw[h1] at h;cases h
   |some ys=>
    rw[h1] at h;cases h;simp[jjq h1]
mutual
theorem jro{bys:List Lv}:∀{t x:Tm},shT t=true→lvT t bys=some x→shT x=true
 | .mk k n s ls ts,x,h,hx=>by
  obtain⟨h1,h2,h3,h4,h5,h6⟩:=j0s h;rw[lvT] at hx;cases e1:j1C ls bys with
  |none=>rw[e1] at hx;cases hx
  |some ls'=>
   rw[e1] at hx;cases e2:lvTs ts bys with
   |none=>rw[e2] at hx;cases hx
   |some ts'=>
    rw[e2] at hx;cases hx;have a1:=jcY e1;have a2:=jjq e2;exact j9W h1 (by rw[a2];exact h2) (fun e=>by rw[a1];exact h3 e) (fun e=>by rw[a1];exact h4 e) (jnX h5 e2) h6
theorem jnX{bys:List Lv}:∀{ts xs:List Tm},(∀t∈ts,shT t=true)→lvTs ts bys=some xs→∀t∈xs,shT t=true
 |[],xs,h,hx,t,ht=>by
  simp[lvTs] at hx;subst hx;cases ht
 |a::r,xs,h,hx,t,ht=>by
  rw[lvTs] at hx;split at hx
  ·cases hx
  ·rename_i y e1;cases e2:lvTs r bys with
   |none=>rw[e2] at hx;cases hx
   |some ys=>
    rw[e2] at hx;cases hx;rcases List.mem_cons.1 ht with rfl|ht
    ·exact jro (h a (by simp)) e1
    ·exact jnX (fun x hx=>h x (by simp[hx])) e2 t ht
end
theorem j4Y(h:j1L t bys=some x):j0w t bys.length 1125899906842624=true∧lvT t bys=some x∧j0v x≤2000:=by
 unfold j1L at h;split at h
 ·rename_i h1;split at h
  ·cases h
  ·rename_i y h2;split at h
   ·rename_i h3;cases h;exact⟨h1,h2,h3⟩
   ·cases h
 ·cases h
theorem j8P(h:j1L t bys=some x):shT x=true:=by
 obtain⟨h1,h2,h3⟩:=j4Y h;exact jro (j6z h1) h2
theorem jaw(hb:∀l∈bys,LvW l)(ht:TmW t)(h:j1L t bys=some x):TmW x:=jsw hb ht (j4Y h).2.1
theorem jfy{pars:Int}(h:atF pars t bys=.ok x):j1L t bys=some x:=by
 unfold atF at h;split at h
 ·cases h
 ·split at h
  ·cases h
  ·rename_i y h2;cases h;exact h2
end Go.Proofs.YtbnodhcijeaceaaGreatDoor
namespace Go.Gw
def Tm.arg(t:Tm)(i:Nat):Tm:=t.args.getD i (.mk 0 0 [] [] [])
def Tm.lv(t:Tm):Lv:=t.levels.getD 0 (.mk 0 0 [])
end Go.Gw
namespace Go.Proofs.YtbnodhcijeaceaaGreatDoor
open Go Go.Am Go.Gw
abbrev M(α:Type):Type:=Int→Option (Except Int α×Int)
section
variable{α β:Type}
def mok(a:α):M α:=fun l=>some (.ok a,l)
def mno(e:Int):M α:=fun l=>some (.error e,l)
def bnd(x:M α)(f:α→M β):M β:=fun l=>match x l with
 |none=>none
 |some (.error e,l')=>some (.error e,l')
 |some (.ok a,l')=>f a l'
def j3h(b:Bool)(e:Int):M Unit:=match b with
 |true=>mok ()
 |false=>mno e
def j5G:M Unit:=fun l=>match decide (1≤l) with
 |true=>some (.ok (),l-1)
 |false=>some (.error 22,l)
def optF(o:Option α)(e:Int):M α:=match o with
 |some a=>mok a
 |none=>mno e
def exF(o:Except Int α):M α:=fun l=>some (o,l)
variable{b:Bool}{r:Except Int Unit}{e l l':Int}
theorem j09{x:M α}{f:α→M β}{r:Except Int β}(h:bnd x f l=some (r,l')):(∃e,x l=some (.error e,l')∧r=.error e)∨∃a l1,x l=some (.ok a,l1)∧f a l1=some (r,l'):=by
 unfold bnd at h;split at h
 ·cases h
 ·rename_i e l1 hx;cases h;exact .inl ⟨e,hx,rfl⟩
 ·rename_i a l1 hx;exact .inr ⟨a,l1,hx,h⟩
theorem j1q(h:j3h b e l=some (r,l')):l'=l∧((b=true∧r=.ok ())∨(b=false∧r=.error e)):=by
 cases b<;>cases h<;>simp
theorem j1d(h:j5G l=some (r,l')):(1≤l∧l'=l-1∧r=.ok ())∨(l<1∧l'=l∧r=.error 22):=by
 unfold j5G at h
 by_cases c:1≤l
 ·rw[decide_eq_true c] at h;cases h;exact .inl ⟨c,rfl,rfl⟩
 ·rw[decide_eq_false c] at h;cases h;exact .inr ⟨by omega,rfl,rfl⟩
structure Fine (x:M α):Prop where
 dn:∀l r l',0≤l→x l=some (r,l')→0≤l'∧l'≤l
 more:∀l r l' k,0≤l→0≤k→x l=some (r,l')→r≠.error 22→x (l+k)=some (r,l'+k)
 out:∀l l' k,0≤l→0≤k→x l=some (.error 22,l')→l'=0∧∀r2 l2,x (l+k)=some (r2,l2)→l2≤k
 nz:∀l l',x l≠some (.error 0,l')
theorem j0o(a:α):Fine (mok a):=⟨fun l r l' h0 h=>by cases h;exact⟨h0,Int.le_refl _⟩,fun l r l' k h0 hk h hr=>by cases h;rfl,fun l l' k h0 hk h=>(by cases h),fun l l' h=>by cases h⟩
theorem jnb(he:e≠22∧e≠0):Fine (mno (α:=α) e):=⟨fun l r l' h0 h=>by cases h;exact⟨h0,Int.le_refl _⟩,fun l r l' k h0 hk h hr=>by cases h;rfl,fun l l' k h0 hk h=>(by cases h;exact absurd rfl he.1),fun l l' h=>by cases h;exact absurd rfl he.2⟩
theorem j0u(he:e≠22∧e≠0):Fine (j3h b e):=by
 cases b with
 |true=>exact j0o _
 |false=>exact jnb he
theorem jj4{o:Option α}(he:e≠22∧e≠0):Fine (optF o e):=by
 cases o with
 |some a=>exact j0o _
 |none=>exact jnb he
theorem jsd{o:Except Int α}(he:o≠.error 22∧o≠.error 0):Fine (exF o):=⟨fun l r l' h0 h=>by cases h;exact⟨h0,Int.le_refl _⟩,fun l r l' k h0 hk h hr=>by cases h;rfl,fun l l' k h0 hk h=>(by cases h;exact absurd rfl he.1),fun l l' h=>by cases h;exact absurd rfl he.2⟩
theorem j3Q:Fine j5G:=by
 refine⟨fun l r l' h0 h=>?_,fun l r l' k h0 hk h hr=>?_,fun l l' k h0 hk h=>?_,fun l l' h=>?_⟩
 ·rcases j1d h with⟨h1,h2,h3⟩|⟨h1,h2,h3⟩<;>omega
 ·rcases j1d h with⟨h1,h2,h3⟩|⟨h1,h2,h3⟩
  ·unfold j5G;rw[decide_eq_true (by omega:1≤l+k),h3,h2]
   simp only[Option.some.injEq,Prod.mk.injEq,true_and];omega
  ·exact absurd h3 hr
 ·rcases j1d h with⟨h1,h2,h3⟩|⟨h1,h2,h3⟩
  ·cases h3
  ·refine⟨by omega,fun r2 l2 h'=>?_⟩
   rcases j1d h' with⟨a1,a2,a3⟩|⟨a1,a2,a3⟩<;>omega
 ·rcases j1d h with⟨h1,h2,h3⟩|⟨h1,h2,h3⟩<;>cases h3
theorem j06{x:M α}{f:α→M β}(hx:Fine x)(hf:∀a,Fine (f a)):Fine (bnd x f):=by
 refine⟨fun l r l' h0 h=>?_,fun l r l' k h0 hk h hr=>?_,fun l l' k h0 hk h=>?_,fun l l' h=>?_⟩
 ·rcases j09 h with⟨e,h1,h2⟩|⟨a,l1,h1,h2⟩
  ·exact hx.dn l _ l' h0 h1
  ·have:=hx.dn l _ l1 h0 h1;have:=(hf a).dn l1 r l' this.1 h2;omega
 ·rcases j09 h with⟨e,h1,h2⟩|⟨a,l1,h1,h2⟩
  ·subst h2;have:=hx.more l _ l' k h0 hk h1 (fun e'=>hr (by cases e';rfl))
   simp only[bnd,this]
  ·have h3:=hx.dn l _ l1 h0 h1;have h4:=hx.more l _ l1 k h0 hk h1 (by simp)
   have h5:=(hf a).more l1 r l' k h3.1 hk h2 hr;simp only[bnd,h4,h5]
 ·rcases j09 h with⟨e,h1,h2⟩|⟨a,l1,h1,h2⟩
  ·cases h2;obtain⟨a1,a2⟩:=hx.out l l' k h0 hk h1;refine⟨a1,fun r2 l2 h'=>?_⟩
   rcases j09 h' with⟨e,b1,b2⟩|⟨a,l1,b1,b2⟩
   ·exact a2 _ _ b1
   ·have c1:=a2 _ _ b1;have c2:=hx.dn (l+k) _ l1 (by omega) b1
    have c3:=(hf a).dn l1 _ l2 c2.1 b2;omega
  ·have h3:=hx.dn l _ l1 h0 h1;have h4:=hx.more l _ l1 k h0 hk h1 (by simp)
   obtain⟨a1,a2⟩:=(hf a).out l1 l' k h3.1 hk h2;refine⟨a1,fun r2 l2 h'=>?_⟩
   simp only[bnd,h4] at h';exact a2 r2 l2 h'
 ·rcases j09 h with⟨e,h1,h2⟩|⟨a,l1,h1,h2⟩
  ·cases h2;exact hx.nz _ _ h1
  ·exact(hf a).nz _ _ h2
def Le(x y:M α):Prop:=∀l r l',x l=some (r,l')→y l=some (r,l')
theorem Le.refl(x:M α):Le x x:=fun _ _ _ h=>h
theorem Le.bnd{x y:M α}{f g:α→M β}(h:Le x y)(hf:∀a,Le (f a) (g a)):Le (bnd x f) (Go.Proofs.YtbnodhcijeaceaaGreatDoor.bnd y g):=fun l r l' h'=>by
 rcases j09 h' with⟨e,h1,h2⟩|⟨a,l1,h1,h2⟩
 ·subst h2;have:=h _ _ _ h1;simp only[Go.Proofs.YtbnodhcijeaceaaGreatDoor.bnd,this]
 ·have h3:=h _ _ _ h1;have h4:=hf a _ _ _ h2;simp only[Go.Proofs.YtbnodhcijeaceaaGreatDoor.bnd,h3,h4]
end
def appO(o:Option Tm)(ts:List Tm):Option Tm:=match o with
 |none=>none
 |some b=>some (appF b ts)
def okO(o:Except Int Tm):Option Tm:=match o with
 | .ok x=>some x
 | .error _=>none
theorem j7O(o:Option Tm)(ts:List Tm):(appO o ts).isSome=o.isSome:=by cases o<;>rfl
def jaN(E:Nv)(t:Tm)(ofs:List (List UInt8)):Option (En×List Tm):=
 if(spF t).1.kind=3∧(spF t).1.name∈ofs then
  match j0E E (spF t).1.name with
  |none=>none
  |some e=>if e.kind=6∧¬e.val.kind=0∧((j1c t).length:Int)=e.fixd+e.flds then some (e,j1c t) else none
 else none
def j4D(e:En):Int:=e.fixd+1+e.ctors.length
abbrev Rdx:Type:=Option (Int×Option Tm)
def jhO(E:Nv)(hd:Tm→M Tm)(c:Tm)(e:En)(args:List Tm):M Rdx:=
 if(args.length:Int)≤j4D e+e.idx then mok none
 else bnd (hd (args.getD (j4D e+e.idx).toNat tz)) fun x=>match jaN E x e.ctors with
  |none=>mok none
  |some (k,fs)=>mok (some (4,appO (j1L k.val c.levels) (args.take (j4D e).toNat++(fs.drop k.fixd.toNat++args.drop (j4D e+e.idx+1).toNat))))
def j2c(E:Nv)(hd:Tm→M Tm)(c:Tm)(args:List Tm):M Rdx:=match j0E E c.name with
 |none=>mok none
 |some e=>if ¬(c.levels.length:Int)=e.pars then mok none else if e.kind=2 then mok (some (3,appO (okO (j2E E c.name c.levels)) args)) else if e.kind=7 then jhO E hd c e args else mok none
def jn9(E:Nv)(hd:Tm→M Tm)(h:Tm)(args:List Tm):M Rdx:=
 if h.kind=5∧¬args.length=0 then mok (some (1,appO (InstF (h.arg 1) [args.getD 0 tz]) (args.drop 1)))
 else if h.kind=7 then mok (some (2,appO (InstF (h.arg 2) [h.arg 1]) args))
 else if h.kind=3 then j2c E hd h args else mok none
def ja2(E:Nv)(hd:Tm→M Tm)(t:Tm):M Rdx:=jn9 E hd (spF t).1 (j1c t)
def j7B(o:Option Tm):M Tm:=bnd j5G fun _=>bnd (optF o 15) fun out=>bnd (j3h (decide (j0v out≤2000)) 15) fun _=>mok out
def headB(E:Nv)(hd:Tm→M Tm)(t:Tm):M Tm:=bnd (ja2 E hd t) fun r=>match r with
 |none=>mok t
 |some (_,o)=>bnd (j7B o) hd
noncomputable def j7y(E:Nv)(n:Nat):Tm→M Tm:=Nat.rec (motive:=fun _=>Tm→M Tm) (fun _ _=>none) (fun _ hd t=>headB E hd t) n
theorem jcS(E:Nv)(n:Nat)(t:Tm):j7y E (n+1) t=headB E (j7y E n) t:=rfl
noncomputable def j3w(E:Nv)(n:Nat)(t:Tm):M Tm:=bnd (j3h (jbs t) 10) fun _=>j7y E n t
section
variable{E:Nv}
variable{m n:Nat}{hd hd':Tm→M Tm}
theorem jna(h:∀t,Fine (hd t))(c:Tm)(e:En)(args:List Tm):Fine (jhO E hd c e args):=by
 unfold jhO;split
 ·exact j0o _
 ·refine j06 (h _) fun x=>?_
  split<;>exact j0o _
theorem jkP(h:∀t,Fine (hd t))(c:Tm)(args:List Tm):Fine (j2c E hd c args):=by
 unfold j2c;split
 ·exact j0o _
 ·(repeat' split)<;>first|exact j0o _|exact jna h _ _ _
theorem j8c(h:∀t,Fine (hd t))(t:Tm):Fine (ja2 E hd t):=by
 unfold ja2 jn9;split
 ·exact j0o _
 ·split
  ·exact j0o _
  ·split
   ·exact jkP h _ _
   ·exact j0o _
theorem jg2(o:Option Tm):Fine (j7B o):=j06 j3Q fun _=>j06 (jj4 (by omega)) fun _=>j06 (j0u (by omega)) fun _=>j0o _
theorem jkQ(h:∀t,Fine (hd t))(t:Tm):Fine (headB E hd t):=by
 refine j06 (j8c h t) fun r=>?_
 split
 ·exact j0o _
 ·exact j06 (jg2 _) h
theorem j8d{α:Type}:Fine (α:=α) (fun _=>none):=⟨fun l r l' h0 h=>(by cases h),fun l r l' k h0 hk h hr=>(by cases h),fun l l' k h0 hk h=>(by cases h),fun l l' h=>(by cases h)⟩
theorem j6d:∀(n:Nat) (t:Tm),Fine (j7y E n t)
 |0,_=>j8d
 |n+1,t=>jkQ (j6d n) t
theorem j0B(n:Nat)(t:Tm):Fine (j3w E n t):=j06 (j0u (by omega)) fun _=>j6d n t
theorem jnL(h:∀t,Le (hd t) (hd' t))(t:Tm):Le (ja2 E hd t) (ja2 E hd' t):=by
 unfold ja2 jn9;split
 ·exact Le.refl _
 ·split
  ·exact Le.refl _
  ·split
   ·unfold j2c;split
    ·exact Le.refl _
    ·split
     ·exact Le.refl _
     ·split
      ·exact Le.refl _
      ·split
       ·unfold jhO;split
        ·exact Le.refl _
        ·exact Le.bnd (h _) fun _=>Le.refl _
       ·exact Le.refl _
   ·exact Le.refl _
theorem jpX(h:∀t,Le (hd t) (hd' t))(t:Tm):Le (headB E hd t) (headB E hd' t):=by
 refine Le.bnd (jnL h t) fun r=>?_
 split
 ·exact Le.refl _
 ·exact Le.bnd (Le.refl _) h
theorem jjl:∀(n:Nat) (t:Tm),Le (j7y E n t) (j7y E (n+1) t)
 |0,_=>fun _ _ _ h=>by cases h
 |n+1,t=>jpX (jjl n) t
theorem jem(h:n≤m)(t:Tm):Le (j7y E n t) (j7y E m t):=by
 induction m with
 |zero=>
  obtain rfl:n=0:=by omega
  exact Le.refl _
 |succ m ih=>
  by_cases e:n=m+1
  ·subst e;exact Le.refl _
  ·exact fun l r l' h'=>jjl m t _ _ _ (ih (by omega) _ _ _ h')
theorem j6k(h:n≤m)(t:Tm):Le (j3w E n t) (j3w E m t):=Le.bnd (Le.refl _) fun _=>jem h t
end
end Go.Proofs.YtbnodhcijeaceaaGreatDoor
