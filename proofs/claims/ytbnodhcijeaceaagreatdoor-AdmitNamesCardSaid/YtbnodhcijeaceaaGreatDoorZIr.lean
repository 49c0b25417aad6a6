/- Environments: an entry more (package env). -/
import Derived.Test.YtbnodhcijeaceaaGreatDoorZIm
set_option linter.all false
set_option maxHeartbeats 2000000
set_option maxRecDepth 100000
namespace Go.Proofs.YtbnodhcijeaceaaGreatDoor
open Go Go.Am Go.Gw
theorem EnP.pure6{e:En}{v:PV}(h:EnP e v):pur 6 v=true:=by
 obtain⟨a1,a2,a3,a4,a5,a6,a7,a8,a9,a10,a11,a12,a13,a14,a15,a16,a17,a18,a19,a20,rfl,-⟩:=h;rfl
theorem EnsP.pure6:∀{es:List En}{xs:List PV},EnsP es xs→xs.all (pur 6)=true
 |[],xs,h=>by
  simp only[EnsP] at h;subst h;rfl
 |e::r,xs,h=>by
  simp only[EnsP] at h;obtain⟨v,xs',rfl,h1,h2⟩:=h;rw[List.all_cons,h1.pure6,EnsP.pure6 h2];rfl
theorem jjF{C:Cfg}{n i:Nat}{T T2:TypeId}{cs cs' c2:List PV}{st st':Sto}(hst:st[i]?=some (.box T cs))(hfz:C.fz T=true)(h:mapS (pubV C n) cs st=some (cs',st'))(h':st'[i]?=some (.box T2 c2)):pubV C (n+1) (.bp i 0) st=some (frzV cs',st'.set i (.frz cs')):=by
 simp only[pubV,hst,hfz,h,h']
theorem jt6(E:Nv)(v:PV)(h:NvP E v)(e:En)(w:PV)(hw:EnP e w)(hr:j1u e=true)(hg:getR e.nm E.tr=none)(hput:jeL e.nm E.es.length E.tr)(hlen:E.es.length<100000)(hok:NvOk ⟨putR e.nm E.es.length E.tr,E.es++[e]⟩):∃v',NvP ⟨putR e.nm E.es.length E.tr,E.es++[e]⟩ v'∧Pf C1 105 [v,w] [v',iv 0]:=by
 have hR:=j5l e w hw;have hC:=jau e w hw;have hG:=jh9 e.nm E.tr;rw[hr] at hR;rw[hg] at hG;obtain⟨b,z,xs,rfl,hz,hx,hok0⟩:=h;have hP:=jrN e.nm E.es.length E.tr hput;have hl:=hx.len;have hsn:=hx.snoc (j5Z hw);have hp6:=hsn.pure6;have ho1:(xs.length.ble xs.length&&Nat.ble 0 xs.length)=true:=by simp
 have ho2:Nat.beq xs.length xs.length=true:=by simp
 refine⟨.cp [j8D (putR e.nm E.es.length E.tr),.sl false 19 (xs++[encE e])],⟨false,19,_,rfl,.inl ⟨rfl,by simp⟩,hsn,hok⟩,?_⟩
 have hP:Pf C1 174 [j8D E.tr,sv e.nm,iv xs.length] [j8D (putR e.nm E.es.length E.tr)]:=by
  rw[hl];exact hP
 obtain⟨tk,tn,ts,tb,tz',txs,tc,ty',tys,vk,vn,vs,vb,vz,vxs,vc,vy,vys,b',z',hE⟩:=j4z hw;rw[hE] at hC hp6⊢;obtain⟨a1,a2,a3,a4,a5,a6,a7,a8,a9,a10,a11,a12,a13,a14,a15,a16,a17,a18,a19,a20,rfl,-⟩:=hw;rcases hz with⟨rfl,-⟩|⟨he,rfl,rfl⟩
 ·refine j00 Tryz.func105 rfl rfl rfl ?_;repeat'(first|refine gU ?_|refine gX hR ?_|refine j01 hG fun _=>?_|refine j01 hC fun _=>?_|refine VOk.mk ho1 ?_|refine VOk.mk ho2 ?_|refine VOk.mk (jec (w:=264) (r:=140737488355328) rfl rfl rfl (by simp;omega) (by simp;omega)) ?_|refine j01 hP fun _=>?_|apply gK)<;>conv=>whnf
  have hx:(xs.take xs.length).drop 0++[.ag [iv e.kind,iv e.pars,sv e.nm,iv tk,iv tn,sv ts,.sl tb tz' txs,.sl tc ty' tys,iv vk,iv vn,sv vs,.sl vb vz vxs,.sl vc vy vys,iv e.ht,sv e.fam,iv e.fixd,iv e.idx,iv e.flds,.sl b' z' (svs e.ctors)]]=xs++[.ag [iv e.kind,iv e.pars,sv e.nm,iv tk,iv tn,sv ts,.sl tb tz' txs,.sl tc ty' tys,iv vk,iv vn,sv vs,.sl vb vz vxs,.sl vc vy vys,iv e.ht,sv e.fam,iv e.fixd,iv e.idx,iv e.flds,.sl b' z' (svs e.ctors)]]:=by rw[List.take_length];rfl
  refine j0n rfl (j04 (jjF rfl rfl (j04 rfl (j04 (j0D rfl (by simp) (by rw[←hx] at hp6;exact hp6)) j0m)) rfl) (j04 rfl j0m)) rfl ?_
  rw[←hx];rfl
 ·obtain rfl:xs=[]:=List.eq_nil_of_length_eq_zero (by rw[hl,he];rfl)
  refine j00 Tryz.func105 rfl rfl rfl ?_;repeat'(first|refine gU ?_|refine gX hR ?_|refine j01 hG fun _=>?_|refine j01 hC fun _=>?_|refine j01 hP fun _=>?_|apply gK)<;>conv=>whnf
  exact j0n rfl (j04 (jjF rfl rfl (j04 rfl (j04 (j0D rfl rfl hp6) j0m)) rfl) (j04 rfl j0m)) rfl rfl
open Go Go.Am Go.Gw
theorem Finds.out{f:FuncId}{args:List PV}{α:Type}{P:α→Prop}{R:α→AEnd}(h:Finds C1 f args [] fun r _=>∃x,P x∧r=R x):∃x,P x∧Finds C1 f args [] fun r _=>r=R x:=by
 obtain⟨r,st,⟨x,h1,h2⟩,N,hN⟩:=h;exact⟨x,h1,r,st,h2,N,hN⟩
def nv0:Nv:=⟨.nil,[]⟩
def Nv.push(E:Nv)(e:En):Nv:=⟨putR e.nm E.es.length E.tr,E.es++[e]⟩
def jfl:Nv→List En→Nv
 |E,[]=>E
 |E,e::r=>jfl (E.push e) r
def jfm:Nv→List En→Prop
 |_,[]=>True
 |E,e::r=>(j1u e=true∧getR e.nm E.tr=none∧jeL e.nm E.es.length E.tr∧E.es.length<100000∧NvOk (E.push e))∧jfm (E.push e) r
theorem jui:NvP nv0 (.cp [j8D .nil,.sl true 0 []]):=⟨true,0,[],rfl,.inr ⟨rfl,rfl,rfl⟩,rfl,⟨fun s i h=>(by cases h),fun e h=>(by cases h),by simp[nv0]⟩⟩
theorem jkL:Pf C1 55 [] [.cp [j8D .nil,.sl true 0 []]]:=by
 have ht:=jil;refine j00 Tryz.func55 rfl rfl rfl ?_;repeat'(first|refine gX ht ?_)<;>conv=>whnf
 exact j0n rfl rfl rfl rfl
theorem jm3(E:Nv)(v:PV)(h:NvP E v)(es:List En)(b:Bool)(ws:List PV)(hws:EnsP es ws)(hok:jfm E es)(hbd:es.length≤100000):∃v',NvP (jfl E es) v'∧Pf C1 56 [v,.sl b 19 ws] [v',iv 0]:=by
 have hlen:=hws.len;refine Finds.out (P:=fun v'=>NvP (jfl E es) v') (R:=fun v'=>.ret [v',iv 0]) ?_
 have h0:=h;obtain⟨b0,z0,xs0,rfl,-⟩:=h0;refine j00 Tryz.func56 rfl rfl rfl ?_;all_goals try conv=>whnf
 refine j03 (G:=Nat×Nv×PV) (fun g=>[(6,g.2.2),(14,iv g.1)]) (fun _=>_) (fun g=>g.1≤es.length∧jfl g.2.1 (es.drop g.1)=jfl E es∧jfm g.2.1 (es.drop g.1)∧NvP g.2.1 g.2.2) (fun g=>es.length-g.1) (0,E,_) ⟨by omega,rfl,hok,h⟩ rfl rfl ?_
 rintro⟨i,Ei,vi⟩ ⟨hi,hall,hoki,hv⟩;dsimp only at hi hall hoki hv⊢;have hv':=hv;obtain⟨b1,z1,xs1,rfl,-⟩:=hv';repeat'(first|refine gU ?_|apply gE<;>intro h)<;>conv=>whnf
 ·have hi':i<es.length:=by omega
  obtain⟨e,he⟩:∃e,es[i]?=some e:=⟨_,List.getElem?_eq_getElem hi'⟩;obtain⟨w,hw,hP⟩:=hws.at he;have hd:es.drop i=e::es.drop (i+1):=by
   rw[List.drop_eq_getElem_cons hi'];congr 1;rw[List.getElem?_eq_getElem hi'] at he;exact Option.some.inj he
  rw[hd] at hall hoki;obtain⟨⟨o1,o2,o3,o4,o5⟩,o6⟩:=hoki;obtain⟨v2,hv2,ha⟩:=jt6 Ei _ hv e w hP o1 o2 o3 o4 o5;have hv2':=hv2;obtain⟨b2,z2,xs2,rfl,-⟩:=hv2';obtain⟨a1,a2,a3,a4,a5,a6,a7,a8,a9,a10,a11,a12,a13,a14,a15,a16,a17,a18,a19,a20,rfl,-⟩:=hP;repeat'(first|refine gU ?_|refine VIdx.mk _ hw ?_|refine gX ha ?_)<;>conv=>whnf
  exact VAgain.mk _ rfl _ (j0a rfl rfl rfl) ⟨(i+1,Ei.push e,_),⟨hi',hall,o6,hv2⟩,by dsimp only;omega,rfl⟩
 ·have hl:i=es.length:=by omega
  subst hl;rw[List.drop_length] at hall;refine⟨_,?_,rfl⟩;rw[←hall];exact hv
theorem jiy(cs:List PV)(n:Int)(h0:0≤n)(h1:n≤1048576):Finds C1 57 [.cp cs,iv n] [] fun r st=>r=.ret [.bp 0 0,iv 0]∧st=[runB cs n n]:=by
 refine j00 Tryz.func57 rfl rfl rfl ?_;repeat'(first|refine gU ?_|apply gE<;>intro h)<;>conv=>whnf
 all_goals first|(exfalso;omega)|skip
 show VRet C1 _ 0 [.bp 0 0,iv 0] [.box 104 [.cp cs,iv 0,iv n]] _
 have e:runB cs n n=.box 104 [.cp cs,iv 0,iv n]:=by
  unfold runB;rw[Int.sub_self]
 rw[e];exact j1j (.inr ⟨rfl,rfl⟩) rfl rfl rfl ⟨rfl,rfl⟩
theorem jhq(cs:List PV)(tot l:Int):Fr 58 [.bp 0 0] cs tot l (.ret [.ci [.bp 0 0]]) l:=by
 refine j00 Tryz.func58 rfl rfl rfl ?_;all_goals try conv=>whnf
 show VRet C1 _ 1 [.bp 1 0] [.box 104 [.cp cs,iv (tot-l),iv l],.box 102 [.bp 0 0]] _
 exact j1j (.inr ⟨rfl,rfl⟩) rfl rfl rfl ⟨rfl,rfl⟩
theorem j7t(cs:List PV)(tot l:Int):Fr 13 [.ci [.bp 0 0]] cs tot l (.ret [.bp 0 0]) l:=by
 refine j00 Tryz.func13 rfl rfl rfl ?_;all_goals try conv=>whnf
 all_goals first|exact⟨rfl,rfl⟩|skip
 show VRet C1 _ 1 [.bp 0 0] [.box 104 [.cp cs,iv (tot-l),iv l]] _
 exact j1j (.inr ⟨rfl,rfl⟩) rfl rfl rfl ⟨rfl,rfl⟩
theorem jqS(cs:List PV)(tot l:Int):Fr 14 [.bp 0 0] cs tot l (.ret [iv (tot-l)]) l:=by
 refine j00 Tryz.func14 rfl rfl rfl ?_;repeat'(refine gU ?_)<;>conv=>whnf
 all_goals exact gJ
open Go Go.Am Go.Gw
def stB(cs:List PV)(tot l:Int)(cv v:PV)(o:SO):Sto:=[runB cs tot l,.box 28 [.ci [.bp 0 0]],.box 22 [cv],.box 25 v.cells,o]
def byA(cv:PV)(ts:List PV)(F:FuncId):List PV:=[.ci [.bp 0 0],cv,.sl true 5 ts,.fn F [] [.bp 1 0,.bp 2 0,.bp 3 0,.bp 4 0]]
theorem jhn(cs:List PV)(tot l:Int)(b:Bool)(z:Nat)(xs:List PV)(k1 n1:Int)(s1:List UInt8)(b1:Bool)(z1:Nat)(x1:List PV)(c1:Bool)(y1:Nat)(ys1:List PV)(hfo:Pf C1 142 [.sl b z xs,.sl true 5 [.ag [iv k1,iv n1,sv s1,.sl b1 z1 x1,.sl c1 y1 ys1]]] [bv false]):Finds C1 87 (byA (.sl b z xs) [.ag [iv k1,iv n1,sv s1,.sl b1 z1 x1,.sl c1 y1 ys1]] 90) (stB cs tot l (.sl b z xs) (.ag [iv k1,iv n1,sv s1,.sl b1 z1 x1,.sl c1 y1 ys1]) (.box 25 zTm)) fun r st=>r=.ret [iv 10]∧st=stB cs tot l (.sl b z xs) (.ag [iv k1,iv n1,sv s1,.sl b1 z1 x1,.sl c1 y1 ys1]) (.box 25 zTm):=by
 refine j0J Tryz.func87 rfl rfl rfl ?_;repeat'(first|refine gX hfo ?_|refine j0y (j2w 10) rfl rfl ?_)<;>conv=>whnf
 refine⟨_,_,_,_,_,_,rfl,rfl,rfl,rfl,?_⟩;repeat'(first|refine gU ?_|refine gX (j1y _) ?_)<;>conv=>whnf
 all_goals exact gJ
theorem jmC(cs:List PV)(tot l l' e:Int)(he:¬e=0)(b:Bool)(z:Nat)(xs:List PV)(k1 n1:Int)(s1:List UInt8)(b1:Bool)(z1:Nat)(x1:List PV)(c1:Bool)(y1:Nat)(ys1:List PV)(hfo:Pf C1 142 [.sl b z xs,.sl true 5 [.ag [iv k1,iv n1,sv s1,.sl b1 z1 x1,.sl c1 y1 ys1]]] [bv true])
  (hc:Finds C1 90 [.bp 0 0,.bp 1 0,.bp 2 0,.bp 3 0] (stC cs tot l (.sl b z xs) (.ag [iv k1,iv n1,sv s1,.sl b1 z1 x1,.sl c1 y1 ys1]) (.box 25 zTm)) fun r st=>r=.pan (j0f e)∧st=stC cs tot l' (.sl b z xs) (.ag [iv k1,iv n1,sv s1,.sl b1 z1 x1,.sl c1 y1 ys1]) (.box 25 zTm)):Finds C1 87 (byA (.sl b z xs) [.ag [iv k1,iv n1,sv s1,.sl b1 z1 x1,.sl c1 y1 ys1]] 90) (stB cs tot l (.sl b z xs) (.ag [iv k1,iv n1,sv s1,.sl b1 z1 x1,.sl c1 y1 ys1]) (.box 25 zTm)) fun r st=>r=.ret [iv e]∧st=stB cs tot l' (.sl b z xs) (.ag [iv k1,iv n1,sv s1,.sl b1 z1 x1,.sl c1 y1 ys1]) (.box 25 zTm):=by
 refine j0J Tryz.func87 rfl rfl rfl ?_;repeat'(first|refine gX hfo ?_|refine gX (j2i 10) ?_|refine j9E hc rfl rfl rfl rfl rfl rfl rfl ?_)<;>conv=>whnf
 refine⟨_,_,_,_,_,_,rfl,rfl,rfl,rfl,?_⟩;repeat'(first|refine gU ?_|refine gX (j1y _) ?_)<;>conv=>whnf
 all_goals exact gJ
theorem jmD(cs:List PV)(tot l l':Int)(k9 n9:Int)(s9:List UInt8)(b9:Bool)(z9:Nat)(x9:List PV)(c9:Bool)(y9:Nat)(ys9:List PV)(b:Bool)(z:Nat)(xs:List PV)(k1 n1:Int)(s1:List UInt8)(b1:Bool)(z1:Nat)(x1:List PV)(c1:Bool)(y1:Nat)(ys1:List PV)(hfo:Pf C1 142 [.sl b z xs,.sl true 5 [.ag [iv k1,iv n1,sv s1,.sl b1 z1 x1,.sl c1 y1 ys1]]] [bv true])
  (hc:Finds C1 90 [.bp 0 0,.bp 1 0,.bp 2 0,.bp 3 0] (stC cs tot l (.sl b z xs) (.ag [iv k1,iv n1,sv s1,.sl b1 z1 x1,.sl c1 y1 ys1]) (.box 25 zTm)) fun r st=>r=.ret []∧st=stC cs tot l' (.sl b z xs) (.ag [iv k1,iv n1,sv s1,.sl b1 z1 x1,.sl c1 y1 ys1]) (.box 25 [iv k9,iv n9,sv s9,.sl b9 z9 x9,.sl c9 y9 ys9])):Finds C1 87 (byA (.sl b z xs) [.ag [iv k1,iv n1,sv s1,.sl b1 z1 x1,.sl c1 y1 ys1]] 90) (stB cs tot l (.sl b z xs) (.ag [iv k1,iv n1,sv s1,.sl b1 z1 x1,.sl c1 y1 ys1]) (.box 25 zTm)) fun r st=>r=.ret [iv 0]∧st=stB cs tot l' (.sl b z xs) (.ag [iv k1,iv n1,sv s1,.sl b1 z1 x1,.sl c1 y1 ys1]) (.box 25 [iv k9,iv n9,sv s9,.sl b9 z9 x9,.sl c9 y9 ys9]):=by
 refine j0J Tryz.func87 rfl rfl rfl ?_;repeat'(first|refine gU ?_|refine gX hfo ?_|refine gX (j2i 10) ?_|refine j9E hc rfl rfl rfl rfl rfl rfl rfl ?_)<;>conv=>whnf
 refine⟨_,_,_,_,_,_,rfl,rfl,rfl,rfl,?_⟩;repeat'(first|refine gU ?_|refine gX j5f ?_)<;>conv=>whnf
 all_goals exact gJ
theorem j8U(cs:List PV)(tot l l':Int)(b:Bool)(z:Nat)(xs:List PV)(k1 n1:Int)(s1:List UInt8)(b1:Bool)(z1:Nat)(x1:List PV)(c1:Bool)(y1:Nat)(ys1:List PV)(e:Int)(k9 n9:Int)(s9:List UInt8)(b9:Bool)(z9:Nat)(x9:List PV)(c9:Bool)(y9:Nat)(ys9:List PV)
  (hb:Finds C1 87 (byA (.sl b z xs) [.ag [iv k1,iv n1,sv s1,.sl b1 z1 x1,.sl c1 y1 ys1]] 90) (stB cs tot l (.sl b z xs) (.ag [iv k1,iv n1,sv s1,.sl b1 z1 x1,.sl c1 y1 ys1]) (.box 25 zTm)) fun r st=>r=.ret [iv e]∧st=stB cs tot l' (.sl b z xs) (.ag [iv k1,iv n1,sv s1,.sl b1 z1 x1,.sl c1 y1 ys1]) (.box 25 [iv k9,iv n9,sv s9,.sl b9 z9 x9,.sl c9 y9 ys9])) :
  Fr 44 [.ci [.bp 0 0],.sl b z xs,.ag [iv k1,iv n1,sv s1,.sl b1 z1 x1,.sl c1 y1 ys1]] cs tot l (.ret [.ag [iv k9,iv n9,sv s9,.sl b9 z9 x9,.sl c9 y9 ys9],iv e]) l':=by
 refine j00 Tryz.func44 rfl rfl rfl ?_;repeat'(first|refine gU ?_|refine j9E hb rfl rfl rfl rfl rfl rfl rfl ?_)<;>conv=>whnf
 all_goals exact gJ
theorem jmO:∀(ctx:List Tm) (i:Int),ctxF ctx i=true→∀t∈ctx,shT t=true
 |[],_,_,_,h=>by cases h
 |a::r,i,h,t,ht=>by
  rw[ctxF,Bool.and_eq_true] at h;rcases List.mem_cons.1 ht with rfl|ht
  ·exact j6z h.1
  ·exact jmO r _ h.2 t ht
theorem j5s{ctx ts:List Tm}(h:j1A ctx ts=true){b:Bool}{z:Nat}{xs:List PV}(hz:z=5∨(xs=[]∧b=true∧z=0))(hxs:TmsP ctx xs):CtxP ctx (.sl b z xs)∧∀t∈ts,shT t=true∧sizT t≤2000:=by
 unfold j1A at h;rw[Bool.and_eq_true,Bool.and_eq_true,decide_eq_true_iff] at h;refine⟨⟨b,z,xs,rfl,hz,hxs,h.1,jmO ctx _ h.2.1⟩,fun t ht=>?_⟩
 have hr:=List.all_eq_true.1 h.2.2 t ht;exact⟨j6z hr,j3i (j3k hr).2.2.1⟩
theorem jmE(E:Nv)(cs:List PV)(hE:NvP E (.cp cs))(tot:Int)(ht:tot≤1048576)(n:Nat)(ctx:List Tm)(b:Bool)(z:Nat)(xs:List PV)(hz:z=5∨(xs=[]∧b=true∧z=0))(hxs:TmsP ctx xs)(hbd:ctx.length≤1759218604441)(t:Tm)(v:PV)(h:TmP t v)(l:Int)(r:Except Int Tm)(l':Int)(h0:0≤l)(h1:l≤tot)(hx:j9G E n ctx t l=some (r,l')):(∀x,r=.ok x→shT x=true∧sizT x≤2000∧TmW x)∧Fr 44 [.ci [.bp 0 0],.sl b z xs,v] cs tot l (.ret (errV r)) l':=by
 have hz':z=5∨xs=[]:=hz.imp_right fun q=>q.1
 have hfo:=jaK ctx [t] b z xs hz' hxs true 5 [v] (.inl rfl) ⟨v,[],rfl,h,rfl⟩ hbd (by simp)
 have hv:=h;cases h.c;unfold j9G at hx;rcases j09 hx with⟨e,q1,rfl⟩|⟨u0,la,q1,q2⟩
 ·obtain⟨rfl,d2⟩:=j1q q1;rcases d2 with⟨-,d2⟩|⟨d1,d2⟩
  ·cases d2
  ·cases d2;rw[d1] at hfo;exact⟨fun x hx=>(by cases hx),j8U cs tot l' l' b z xs _ _ _ _ _ _ _ _ _ 10 _ _ _ _ _ _ _ _ _ (jhn cs tot l' b z xs _ _ _ _ _ _ _ _ _ hfo)⟩
 obtain⟨rfl,d2⟩:=j1q q1;rcases d2 with⟨d1,-⟩|⟨-,d2⟩
 rotate_left
 ·cases d2
 rw[d1] at hfo;obtain⟨hc,hsh⟩:=j5s d1 hz hxs;obtain⟨hs,hf⟩:=T_ok E cs hE tot ht n ctx _ hc t _ hv (hsh t (List.mem_singleton.2 rfl)).1 la r l' h0 h1 q2;cases r with
 |error e=>
  have he:¬e=0:=fun e0=>by
   subst e0;exact(j1z n ctx t).nz _ _ q2
  exact⟨fun x hx=>(by cases hx),j8U cs tot la l' b z xs _ _ _ _ _ _ _ _ _ e _ _ _ _ _ _ _ _ _ (jmC cs tot la l' e he b z xs _ _ _ _ _ _ _ _ _ hfo (jqP cs tot la l' e b z xs t _ hv hf))⟩
 |ok x=>
  obtain⟨w,hw,hf⟩:=hf;refine⟨fun y hy=>?_,?_⟩
  ·cases hy;exact⟨(hs x rfl).1,(hs x rfl).2,hw.w⟩
  ·have ho:=jqQ cs tot la l' b z xs t _ hv x w hw hf;unfold errV;obtain⟨k9,n9,s9,b9,z9,x9,c9,y9,ys9,he9⟩:=j07 x;dsimp only;rw[he9] at ho⊢;exact j8U cs tot la l' b z xs _ _ _ _ _ _ _ _ _ 0 _ _ _ _ _ _ _ _ _ (jmD cs tot la l' _ _ _ _ _ _ _ _ _ b z xs _ _ _ _ _ _ _ _ _ hfo ho)
open Go Go.Am Go.Gw
def errB(o:Except Int Bool):List PV:=match o with
 | .ok x=>[bv x,iv 0]
 | .error e=>[bv false,iv e]
def errL(o:Except Int Lv):List PV:=match o with
 | .ok x=>[encL x,iv 0]
 | .error e=>[.ag zLv,iv e]
open Go Go.Am Go.Gw
def stC2(cs:List PV)(tot l:Int)(cv v w:PV)(o:SO):Sto:=[.box 28 [.ci [.bp 5 0]],.box 22 [cv],.box 25 v.cells,.box 25 w.cells,o,runB cs tot l]
def stB2(cs:List PV)(tot l:Int)(cv v w:PV)(o:SO):Sto:=[runB cs tot l,.box 28 [.ci [.bp 0 0]],.box 22 [cv],.box 25 v.cells,.box 25 w.cells,o]
def byA2(cv:PV)(ts:List PV)(F:FuncId):List PV:=[.ci [.bp 0 0],cv,.sl true 5 ts,.fn F [] [.bp 1 0,.bp 2 0,.bp 3 0,.bp 4 0,.bp 5 0]]
theorem jqD(cs:List PV)(tot l l' e:Int)(b:Bool)(z:Nat)(xs:List PV)(t:Tm)(v:PV)(h:TmP t v)(t2:Tm)(v2:PV)(h2:TmP t2 v2)(hf:Fr 89 [.ci [.bp 0 0],.sl b z xs,v,v2] cs tot l (.pan (j0f e)) l'):Finds C1 88 [.bp 0 0,.bp 1 0,.bp 2 0,.bp 3 0,.bp 4 0] (stC2 cs tot l (.sl b z xs) v v2 (.box 4 [bv false])) fun r st=>r=.pan (j0f e)∧st=stC2 cs tot l' (.sl b z xs) v v2 (.box 4 [bv false]):=by
 cases h.c;cases h2.c;refine j00 Tryz.func88 rfl rfl rfl ?_;repeat'(first|refine j1w (i:=5) hf rfl rfl rfl rfl rfl rfl rfl ?_)<;>conv=>whnf
 all_goals exact gJ
theorem jqE(cs:List PV)(tot l l':Int)(b:Bool)(z:Nat)(xs:List PV)(t:Tm)(v:PV)(h:TmP t v)(t2:Tm)(v2:PV)(h2:TmP t2 v2)(q:Bool)(hf:Fr 89 [.ci [.bp 0 0],.sl b z xs,v,v2] cs tot l (.ret [bv q]) l'):Finds C1 88 [.bp 0 0,.bp 1 0,.bp 2 0,.bp 3 0,.bp 4 0] (stC2 cs tot l (.sl b z xs) v v2 (.box 4 [bv false])) fun r st=>r=.ret []∧st=stC2 cs tot l' (.sl b z xs) v v2 (.box 4 [bv q]):=by
 cases h.c;cases h2.c;refine j00 Tryz.func88 rfl rfl rfl ?_;repeat'(first|refine gU ?_|refine j1w (i:=5) hf rfl rfl rfl rfl rfl rfl rfl ?_)<;>conv=>whnf
 all_goals exact gJ
theorem jhm(cs:List PV)(tot l:Int)(b:Bool)(z:Nat)(xs:List PV)(k1 n1:Int)(s1:List UInt8)(b1:Bool)(z1:Nat)(x1:List PV)(c1:Bool)(y1:Nat)(ys1:List PV)(k2 n2:Int)(s2:List UInt8)(b2:Bool)(z2:Nat)(x2:List PV)(c2:Bool)(y2:Nat)(ys2:List PV)(hfo:Pf C1 142 [.sl b z xs,.sl true 5 [.ag [iv k1,iv n1,sv s1,.sl b1 z1 x1,.sl c1 y1 ys1],.ag [iv k2,iv n2,sv s2,.sl b2 z2 x2,.sl c2 y2 ys2]]] [bv false]):Finds C1 87 (byA2 (.sl b z xs) [.ag [iv k1,iv n1,sv s1,.sl b1 z1 x1,.sl c1 y1 ys1],.ag [iv k2,iv n2,sv s2,.sl b2 z2 x2,.sl c2 y2 ys2]] 88) (stB2 cs tot l (.sl b z xs) (.ag [iv k1,iv n1,sv s1,.sl b1 z1 x1,.sl c1 y1 ys1]) (.ag [iv k2,iv n2,sv s2,.sl b2 z2 x2,.sl c2 y2 ys2]) (.box 4 [bv false])) fun r st=>r=.ret [iv 10]∧st=stB2 cs tot l (.sl b z xs) (.ag [iv k1,iv n1,sv s1,.sl b1 z1 x1,.sl c1 y1 ys1]) (.ag [iv k2,iv n2,sv s2,.sl b2 z2 x2,.sl c2 y2 ys2]) (.box 4 [bv false]):=by
 refine j0J Tryz.func87 rfl rfl rfl ?_;repeat'(first|refine gX hfo ?_|refine j0y (j2w 10) rfl rfl ?_)<;>conv=>whnf
 refine⟨_,_,_,_,_,_,rfl,rfl,rfl,rfl,?_⟩;repeat'(first|refine gU ?_|refine gX (j1y _) ?_)<;>conv=>whnf
 all_goals exact gJ
theorem jmA(cs:List PV)(tot l l' e:Int)(he:¬e=0)(b:Bool)(z:Nat)(xs:List PV)(k1 n1:Int)(s1:List UInt8)(b1:Bool)(z1:Nat)(x1:List PV)(c1:Bool)(y1:Nat)(ys1:List PV)(k2 n2:Int)(s2:List UInt8)(b2:Bool)(z2:Nat)(x2:List PV)(c2:Bool)(y2:Nat)(ys2:List PV)(hfo:Pf C1 142 [.sl b z xs,.sl true 5 [.ag [iv k1,iv n1,sv s1,.sl b1 z1 x1,.sl c1 y1 ys1],.ag [iv k2,iv n2,sv s2,.sl b2 z2 x2,.sl c2 y2 ys2]]] [bv true])
  (hc:Finds C1 88 [.bp 0 0,.bp 1 0,.bp 2 0,.bp 3 0,.bp 4 0] (stC2 cs tot l (.sl b z xs) (.ag [iv k1,iv n1,sv s1,.sl b1 z1 x1,.sl c1 y1 ys1]) (.ag [iv k2,iv n2,sv s2,.sl b2 z2 x2,.sl c2 y2 ys2]) (.box 4 [bv false])) fun r st=>r=.pan (j0f e)∧st=stC2 cs tot l' (.sl b z xs) (.ag [iv k1,iv n1,sv s1,.sl b1 z1 x1,.sl c1 y1 ys1]) (.ag [iv k2,iv n2,sv s2,.sl b2 z2 x2,.sl c2 y2 ys2]) (.box 4 [bv false])):Finds C1 87 (byA2 (.sl b z xs) [.ag [iv k1,iv n1,sv s1,.sl b1 z1 x1,.sl c1 y1 ys1],.ag [iv k2,iv n2,sv s2,.sl b2 z2 x2,.sl c2 y2 ys2]] 88) (stB2 cs tot l (.sl b z xs) (.ag [iv k1,iv n1,sv s1,.sl b1 z1 x1,.sl c1 y1 ys1]) (.ag [iv k2,iv n2,sv s2,.sl b2 z2 x2,.sl c2 y2 ys2]) (.box 4 [bv false])) fun r st=>r=.ret [iv e]∧st=stB2 cs tot l' (.sl b z xs) (.ag [iv k1,iv n1,sv s1,.sl b1 z1 x1,.sl c1 y1 ys1]) (.ag [iv k2,iv n2,sv s2,.sl b2 z2 x2,.sl c2 y2 ys2]) (.box 4 [bv false]):=by
 refine j0J Tryz.func87 rfl rfl rfl ?_;repeat'(first|refine gX hfo ?_|refine gX (j2i 10) ?_|refine j9E hc rfl rfl rfl rfl rfl rfl rfl ?_)<;>conv=>whnf
 refine⟨_,_,_,_,_,_,rfl,rfl,rfl,rfl,?_⟩;repeat'(first|refine gU ?_|refine gX (j1y _) ?_)<;>conv=>whnf
 all_goals exact gJ
theorem jmB(cs:List PV)(tot l l':Int)(q:Bool)(b:Bool)(z:Nat)(xs:List PV)(k1 n1:Int)(s1:List UInt8)(b1:Bool)(z1:Nat)(x1:List PV)(c1:Bool)(y1:Nat)(ys1:List PV)(k2 n2:Int)(s2:List UInt8)(b2:Bool)(z2:Nat)(x2:List PV)(c2:Bool)(y2:Nat)(ys2:List PV)(hfo:Pf C1 142 [.sl b z xs,.sl true 5 [.ag [iv k1,iv n1,sv s1,.sl b1 z1 x1,.sl c1 y1 ys1],.ag [iv k2,iv n2,sv s2,.sl b2 z2 x2,.sl c2 y2 ys2]]] [bv true])
  (hc:Finds C1 88 [.bp 0 0,.bp 1 0,.bp 2 0,.bp 3 0,.bp 4 0] (stC2 cs tot l (.sl b z xs) (.ag [iv k1,iv n1,sv s1,.sl b1 z1 x1,.sl c1 y1 ys1]) (.ag [iv k2,iv n2,sv s2,.sl b2 z2 x2,.sl c2 y2 ys2]) (.box 4 [bv false])) fun r st=>r=.ret []∧st=stC2 cs tot l' (.sl b z xs) (.ag [iv k1,iv n1,sv s1,.sl b1 z1 x1,.sl c1 y1 ys1]) (.ag [iv k2,iv n2,sv s2,.sl b2 z2 x2,.sl c2 y2 ys2]) (.box 4 [bv q])):Finds C1 87 (byA2 (.sl b z xs) [.ag [iv k1,iv n1,sv s1,.sl b1 z1 x1,.sl c1 y1 ys1],.ag [iv k2,iv n2,sv s2,.sl b2 z2 x2,.sl c2 y2 ys2]] 88) (stB2 cs tot l (.sl b z xs) (.ag [iv k1,iv n1,sv s1,.sl b1 z1 x1,.sl c1 y1 ys1]) (.ag [iv k2,iv n2,sv s2,.sl b2 z2 x2,.sl c2 y2 ys2]) (.box 4 [bv false])) fun r st=>r=.ret [iv 0]∧st=stB2 cs tot l' (.sl b z xs) (.ag [iv k1,iv n1,sv s1,.sl b1 z1 x1,.sl c1 y1 ys1]) (.ag [iv k2,iv n2,sv s2,.sl b2 z2 x2,.sl c2 y2 ys2]) (.box 4 [bv q]):=by
 refine j0J Tryz.func87 rfl rfl rfl ?_;repeat'(first|refine gU ?_|refine gX hfo ?_|refine gX (j2i 10) ?_|refine j9E hc rfl rfl rfl rfl rfl rfl rfl ?_)<;>conv=>whnf
 refine⟨_,_,_,_,_,_,rfl,rfl,rfl,rfl,?_⟩;repeat'(first|refine gU ?_|refine gX j5f ?_)<;>conv=>whnf
 all_goals exact gJ
theorem j8T(cs:List PV)(tot l l':Int)(b:Bool)(z:Nat)(xs:List PV)(k1 n1:Int)(s1:List UInt8)(b1:Bool)(z1:Nat)(x1:List PV)(c1:Bool)(y1:Nat)(ys1:List PV)(k2 n2:Int)(s2:List UInt8)(b2:Bool)(z2:Nat)(x2:List PV)(c2:Bool)(y2:Nat)(ys2:List PV)(e:Int)(q:Bool)
  (hb:Finds C1 87 (byA2 (.sl b z xs) [.ag [iv k1,iv n1,sv s1,.sl b1 z1 x1,.sl c1 y1 ys1],.ag [iv k2,iv n2,sv s2,.sl b2 z2 x2,.sl c2 y2 ys2]] 88) (stB2 cs tot l (.sl b z xs) (.ag [iv k1,iv n1,sv s1,.sl b1 z1 x1,.sl c1 y1 ys1]) (.ag [iv k2,iv n2,sv s2,.sl b2 z2 x2,.sl c2 y2 ys2]) (.box 4 [bv false])) fun r st=>r=.ret [iv e]∧st=stB2 cs tot l' (.sl b z xs) (.ag [iv k1,iv n1,sv s1,.sl b1 z1 x1,.sl c1 y1 ys1]) (.ag [iv k2,iv n2,sv s2,.sl b2 z2 x2,.sl c2 y2 ys2]) (.box 4 [bv q])) :
  Fr 42 [.ci [.bp 0 0],.sl b z xs,.ag [iv k1,iv n1,sv s1,.sl b1 z1 x1,.sl c1 y1 ys1],.ag [iv k2,iv n2,sv s2,.sl b2 z2 x2,.sl c2 y2 ys2]] cs tot l (.ret [bv q,iv e]) l':=by
 refine j00 Tryz.func42 rfl rfl rfl ?_;repeat'(first|refine gU ?_|refine j9E hb rfl rfl rfl rfl rfl rfl rfl ?_)<;>conv=>whnf
 all_goals exact gJ
theorem j7U(E:Nv)(cs:List PV)(hE:NvP E (.cp cs))(tot:Int)(ht:tot≤1048576)(n:Nat)(ctx:List Tm)(b:Bool)(z:Nat)(xs:List PV)(hz:z=5∨(xs=[]∧b=true∧z=0))(hxs:TmsP ctx xs)(hbd:ctx.length≤1759218604441)(t:Tm)(v:PV)(h:TmP t v)(u:Tm)(w:PV)(hu:TmP u w)(l:Int)(r:Except Int Bool)(l':Int)(h0:0≤l)(h1:l≤tot)(hx:j7T E n ctx t u l=some (r,l')):Fr 42 [.ci [.bp 0 0],.sl b z xs,v,w] cs tot l (.ret (errB r)) l':=by
 have hz':z=5∨xs=[]:=hz.imp_right fun q=>q.1
 have hfo:=jaK ctx [t,u] b z xs hz' hxs true 5 [v,w] (.inl rfl) ⟨v,[w],rfl,h,w,[],rfl,hu,rfl⟩ hbd (by simp)
 have hv:=h;have hw:=hu;cases h.c;cases hu.c;unfold j7T at hx;rcases j09 hx with⟨e,q1,rfl⟩|⟨u0,la,q1,q2⟩
 ·obtain⟨rfl,d2⟩:=j1q q1;rcases d2 with⟨-,d2⟩|⟨d1,d2⟩
  ·cases d2
  ·cases d2;rw[d1] at hfo;exact j8T cs tot l' l' b z xs _ _ _ _ _ _ _ _ _ _ _ _ _ _ _ _ _ _ 10 _ (jhm cs tot l' b z xs _ _ _ _ _ _ _ _ _ _ _ _ _ _ _ _ _ _ hfo)
 obtain⟨rfl,d2⟩:=j1q q1;rcases d2 with⟨d1,-⟩|⟨-,d2⟩
 rotate_left
 ·cases d2
 rw[d1] at hfo;obtain⟨hc,hsh⟩:=j5s d1 hz hxs;obtain⟨i1,i2⟩:=hsh t (by simp)
 obtain⟨j1,j2⟩:=hsh u (by simp)
 have hf:=S_ok E cs hE tot ht n ctx _ hc t _ hv i1 i2 u _ hw j1 j2 la r l' h0 h1 q2;cases r with
 |error e=>
  have hf:Fr _ _ _ _ _ (.pan (j0f e)) l':=hf;have he:¬e=0:=fun e0=>by
   subst e0;exact(j3e n ctx t u).nz _ _ q2
  exact j8T cs tot la l' b z xs _ _ _ _ _ _ _ _ _ _ _ _ _ _ _ _ _ _ e _ (jmA cs tot la l' e he b z xs _ _ _ _ _ _ _ _ _ _ _ _ _ _ _ _ _ _ hfo (jqD cs tot la l' e b z xs t _ hv u _ hw hf))
 |ok q=>
  have hf:Fr _ _ _ _ _ (.ret [bv q]) l':=hf;exact j8T cs tot la l' b z xs _ _ _ _ _ _ _ _ _ _ _ _ _ _ _ _ _ _ 0 _ (jmB cs tot la l' q b z xs _ _ _ _ _ _ _ _ _ _ _ _ _ _ _ _ _ _ hfo (jqE cs tot la l' b z xs t _ hv u _ hw q hf))
end Go.Proofs.YtbnodhcijeaceaaGreatDoor
