/- Environments: an entry more (package env). -/
import Derived.Test.YtbnodhcijeaceaaGreatDoorXIn
set_option linter.all false
set_option maxHeartbeats 2000000
set_option maxRecDepth 1000000
namespace Go.Proofs.YtbnodhcijeaceaaGreatDoor
open Go Go.Am Go.Gw
variable{e:En}{f:FuncId}{args:List PV}{n:Nat}{v:PV}
theorem EnP.pure6(h:EnP e v):pur 6 v=true:=by
 obtain⟨a1,a2,a3,a4,a5,a6,a7,a8,a9,a10,a11,a12,a13,a14,a15,a16,a17,a18,a19,a20,rfl,-⟩:=h;rfl
theorem EnsP.pure6:∀{es:List En}{xs:List PV},EnsP es xs→xs.all (pur 6)=true
 |[],xs,h=>by
  simp only[EnsP] at h;subst h;rfl
 |e::r,xs,h=>by
  simp only[EnsP] at h;obtain⟨v,xs',rfl,h1,h2⟩:=h;rw[List.all_cons,h1.pure6,EnsP.pure6 h2];rfl
theorem jjz{C:Cfg}{i:Nat}{T T2:TypeId}{cs cs' c2:List PV}{st st':Sto}(hst:st[i]?=some (.box T cs))(hfz:C.fz T=true)(h:mapS (pubV C n) cs st=some (cs',st'))(h':st'[i]?=some (.box T2 c2)):pubV C (n+1) (.bp i 0) st=some (frzV cs',st'.set i (.frz cs')):=by
 simp only[pubV,hst,hfz,h,h']
theorem jsT(E:Nv)(v:PV)(h:NvP E v)(e:En)(w:PV)(hw:EnP e w)(hr:j1s e=true)(hg:getR e.nm E.tr=none)(hput:jeA e.nm E.es.length E.tr)(hlen:E.es.length<100000)(hok:NvOk ⟨putR e.nm E.es.length E.tr,E.es++[e]⟩):∃v',NvP ⟨putR e.nm E.es.length E.tr,E.es++[e]⟩ v'∧Pf C1 105 [v,w] [v',iv 0]:=by
 have hR:=j5l e w hw;have hC:=jap e w hw;have hG:=jgY e.nm E.tr;rw[hr] at hR;rw[hg] at hG;obtain⟨b,z,xs,rfl,hz,hx,hok0⟩:=h;have hP:=jrA e.nm E.es.length E.tr hput;have hl:=hx.len;have hsn:=hx.snoc (j5n hw);have hp6:=hsn.pure6;have ho1:(xs.length.ble xs.length&&Nat.ble 0 xs.length)=true:=by simp
 have ho2:Nat.beq xs.length xs.length=true:=by simp
 refine⟨.cp [j8z (putR e.nm E.es.length E.tr),.sl false 19 (xs++[encE e])],⟨false,19,_,rfl,.inl ⟨rfl,by simp⟩,hsn,hok⟩,?_⟩
 have hP:Pf C1 174 [j8z E.tr,sv e.nm,iv xs.length] [j8z (putR e.nm E.es.length E.tr)]:=by
  rw[hl];exact hP
 obtain⟨tk,tn,ts,tb,tz',txs,tc,ty',tys,vk,vn,vs,vb,vz,vxs,vc,vy,vys,b',z',hE⟩:=j4B hw;rw[hE] at hC hp6⊢;obtain⟨a1,a2,a3,a4,a5,a6,a7,a8,a9,a10,a11,a12,a13,a14,a15,a16,a17,a18,a19,a20,rfl,-⟩:=hw;rcases hz with⟨rfl,-⟩|⟨he,rfl,rfl⟩
 ·refine j00 Tryz.func105 rfl rfl rfl ?_;repeat'(first|refine gU ?_|refine gX hR ?_|refine j01 hG fun _=>?_|refine j01 hC fun _=>?_|refine VOk.mk ho1 ?_|refine VOk.mk ho2 ?_|refine VOk.mk (je1 (w:=264) (r:=140737488355328) rfl rfl rfl (by simp;omega) (by simp;omega)) ?_|refine j01 hP fun _=>?_|apply gK)<;>conv=>whnf
  have hx:(xs.take xs.length).drop 0++[.ag [iv e.kind,iv e.pars,sv e.nm,iv tk,iv tn,sv ts,.sl tb tz' txs,.sl tc ty' tys,iv vk,iv vn,sv vs,.sl vb vz vxs,.sl vc vy vys,iv e.ht,sv e.fam,iv e.fixd,iv e.idx,iv e.flds,.sl b' z' (svs e.ctors)]]=xs++[.ag [iv e.kind,iv e.pars,sv e.nm,iv tk,iv tn,sv ts,.sl tb tz' txs,.sl tc ty' tys,iv vk,iv vn,sv vs,.sl vb vz vxs,.sl vc vy vys,iv e.ht,sv e.fam,iv e.fixd,iv e.idx,iv e.flds,.sl b' z' (svs e.ctors)]]:=by rw[List.take_length];rfl
  refine j0p rfl (j04 (jjz rfl rfl (j04 rfl (j04 (j0E rfl (by simp) (by rw[←hx] at hp6;exact hp6)) j0m)) rfl) (j04 rfl j0m)) rfl ?_
  rw[←hx];rfl
 ·obtain rfl:xs=[]:=List.eq_nil_of_length_eq_zero (by rw[hl,he];rfl)
  refine j00 Tryz.func105 rfl rfl rfl ?_;repeat'(first|refine gU ?_|refine gX hR ?_|refine j01 hG fun _=>?_|refine j01 hC fun _=>?_|refine j01 hP fun _=>?_|apply gK)<;>conv=>whnf
  exact j0p rfl (j04 (jjz rfl rfl (j04 rfl (j04 (j0E rfl rfl hp6) j0m)) rfl) (j04 rfl j0m)) rfl rfl
open Go Go.Am Go.Gw
theorem Finds.out{α:Type}{P:α→Prop}{R:α→AEnd}(h:Finds C1 f args [] fun r _=>∃x,P x∧r=R x):∃x,P x∧Finds C1 f args [] fun r _=>r=R x:=by
 obtain⟨r,st,⟨x,h1,h2⟩,N,hN⟩:=h;exact⟨x,h1,r,st,h2,N,hN⟩
def nv0:Nv:=⟨.nil,[]⟩
def Nv.push(E:Nv)(e:En):Nv:=⟨putR e.nm E.es.length E.tr,E.es++[e]⟩
def jfb:Nv→List En→Nv
 |E,[]=>E
 |E,e::r=>jfb (E.push e) r
def jfc:Nv→List En→Prop
 |_,[]=>True
 |E,e::r=>(j1s e=true∧getR e.nm E.tr=none∧jeA e.nm E.es.length E.tr∧E.es.length<100000∧NvOk (E.push e))∧jfc (E.push e) r
theorem ju3:NvP nv0 (.cp [j8z .nil,.sl true 0 []]):=⟨true,0,[],rfl,.inr ⟨rfl,rfl,rfl⟩,rfl,⟨fun s i h=>(by cases h),fun e h=>(by cases h),by simp[nv0]⟩⟩
theorem jkB:Pf C1 55 [] [.cp [j8z .nil,.sl true 0 []]]:=by
 have ht:=jif;refine j00 Tryz.func55 rfl rfl rfl ?_;repeat'(first|refine gX ht ?_)<;>conv=>whnf
 exact j0p rfl rfl rfl rfl
theorem jlU(E:Nv)(v:PV)(h:NvP E v)(es:List En)(b:Bool)(ws:List PV)(hws:EnsP es ws)(hok:jfc E es)(hbd:es.length≤100000):∃v',NvP (jfb E es) v'∧Pf C1 56 [v,.sl b 19 ws] [v',iv 0]:=by
 have hlen:=hws.len;refine Finds.out (P:=fun v'=>NvP (jfb E es) v') (R:=fun v'=>.ret [v',iv 0]) ?_
 have h0:=h;obtain⟨b0,z0,xs0,rfl,-⟩:=h0;refine j00 Tryz.func56 rfl rfl rfl ?_;all_goals try conv=>whnf
 refine j03 (G:=Nat×Nv×PV) (fun g=>[(6,g.2.2),(14,iv g.1)]) (fun _=>_) (fun g=>g.1≤es.length∧jfb g.2.1 (es.drop g.1)=jfb E es∧jfc g.2.1 (es.drop g.1)∧NvP g.2.1 g.2.2) (fun g=>es.length-g.1) (0,E,_) ⟨by omega,rfl,hok,h⟩ rfl rfl ?_
 rintro⟨i,Ei,vi⟩ ⟨hi,hall,hoki,hv⟩;dsimp only at hi hall hoki hv⊢;have hv':=hv;obtain⟨b1,z1,xs1,rfl,-⟩:=hv';repeat'(first|refine gU ?_|apply gE<;>intro h)<;>conv=>whnf
 ·have hi':i<es.length:=by omega
  obtain⟨e,he⟩:∃e,es[i]?=some e:=⟨_,List.getElem?_eq_getElem hi'⟩;obtain⟨w,hw,hP⟩:=hws.at he;have hd:es.drop i=e::es.drop (i+1):=by
   rw[List.drop_eq_getElem_cons hi'];congr 1;rw[List.getElem?_eq_getElem hi'] at he;exact Option.some.inj he
  rw[hd] at hall hoki;obtain⟨⟨o1,o2,o3,o4,o5⟩,o6⟩:=hoki;obtain⟨v2,hv2,ha⟩:=jsT Ei _ hv e w hP o1 o2 o3 o4 o5;have hv2':=hv2;obtain⟨b2,z2,xs2,rfl,-⟩:=hv2';obtain⟨a1,a2,a3,a4,a5,a6,a7,a8,a9,a10,a11,a12,a13,a14,a15,a16,a17,a18,a19,a20,rfl,-⟩:=hP;repeat'(first|refine gU ?_|refine VIdx.mk _ hw ?_|refine gX ha ?_)<;>conv=>whnf
  exact VAgain.mk _ rfl _ (j0c rfl rfl rfl) ⟨(i+1,Ei.push e,_),⟨hi',hall,o6,hv2⟩,by dsimp only;omega,rfl⟩
 ·have hl:i=es.length:=by omega
  subst hl;rw[List.drop_length] at hall;refine⟨_,?_,rfl⟩;rw[←hall];exact hv
theorem jis(cs:List PV)(n:Int)(h0:0≤n)(h1:n≤1048576):Finds C1 57 [.cp cs,iv n] [] fun r st=>r=.ret [.bp 0 0,iv 0]∧st=[runB cs n n]:=by
 refine j00 Tryz.func57 rfl rfl rfl ?_;repeat'(first|refine gU ?_|apply gE<;>intro h)<;>conv=>whnf
 all_goals first|(exfalso;omega)|skip
 show VRet C1 _ 0 [.bp 0 0,iv 0] [.box 104 [.cp cs,iv 0,iv n]] _
 have e:runB cs n n=.box 104 [.cp cs,iv 0,iv n]:=by
  unfold runB;rw[Int.sub_self]
 rw[e];exact j1i (.inr ⟨rfl,rfl⟩) rfl rfl rfl ⟨rfl,rfl⟩
theorem jhh(cs:List PV)(tot l:Int):Fr 58 [.bp 0 0] cs tot l (.ret [.ci [.bp 0 0]]) l:=by
 refine j00 Tryz.func58 rfl rfl rfl ?_;all_goals try conv=>whnf
 show VRet C1 _ 1 [.bp 1 0] [.box 104 [.cp cs,iv (tot-l),iv l],.box 102 [.bp 0 0]] _
 exact j1i (.inr ⟨rfl,rfl⟩) rfl rfl rfl ⟨rfl,rfl⟩
theorem j7t(cs:List PV)(tot l:Int):Fr 13 [.ci [.bp 0 0]] cs tot l (.ret [.bp 0 0]) l:=by
 refine j00 Tryz.func13 rfl rfl rfl ?_;all_goals try conv=>whnf
 all_goals first|exact⟨rfl,rfl⟩|skip
 show VRet C1 _ 1 [.bp 0 0] [.box 104 [.cp cs,iv (tot-l),iv l]] _
 exact j1i (.inr ⟨rfl,rfl⟩) rfl rfl rfl ⟨rfl,rfl⟩
theorem jqE(cs:List PV)(tot l:Int):Fr 14 [.bp 0 0] cs tot l (.ret [iv (tot-l)]) l:=by
 refine j00 Tryz.func14 rfl rfl rfl ?_;repeat'(refine gU ?_)<;>conv=>whnf
 all_goals exact gJ
open Go Go.Am Go.Gw
def errB(o:Except Int Bool):List PV:=match o with
 | .ok x=>[bv x,iv 0]
 | .error e=>[bv false,iv e]
def errL(o:Except Int Lv):List PV:=match o with
 | .ok x=>[encL x,iv 0]
 | .error e=>[.ag zLv,iv e]
open Go Go.Am Go.Gw
def stC2(cs:List PV)(tot l:Int)(cv v w:PV)(o:SO):Sto:=[.box 28 [.ci [.bp 5 0]],.box 22 [cv],.box 25 v.cells,.box 25 w.cells,o,runB cs tot l]
def stB2(cs:List PV)(tot l:Int)(cv v w:PV)(o:SO):Sto:=[runB cs tot l,.box 28 [.ci [.bp 0 0]],.box 22 [cv],.box 25 v.cells,.box 25 w.cells,o]
def byA2(cv:PV)(ts:List PV)(F:FuncId):List PV:=[.ci [.bp 0 0],cv,.sl true 5 ts,.fn F [] [.bp 1 0,.bp 2 0,.bp 3 0,.bp 4 0,.bp 5 0]]
theorem jqp(cs:List PV)(tot l l' e:Int)(b:Bool)(z:Nat)(xs:List PV)(t:Tm)(v:PV)(h:TmP t v)(t2:Tm)(v2:PV)(h2:TmP t2 v2)(hf:Fr 89 [.ci [.bp 0 0],.sl b z xs,v,v2] cs tot l (.pan (j0f e)) l'):Finds C1 88 [.bp 0 0,.bp 1 0,.bp 2 0,.bp 3 0,.bp 4 0] (stC2 cs tot l (.sl b z xs) v v2 (.box 4 [bv false])) fun r st=>r=.pan (j0f e)∧st=stC2 cs tot l' (.sl b z xs) v v2 (.box 4 [bv false]):=by
 cases h.c;cases h2.c;refine j00 Tryz.func88 rfl rfl rfl ?_;repeat'(first|refine j1u (i:=5) hf rfl rfl rfl rfl rfl rfl rfl ?_)<;>conv=>whnf
 all_goals exact gJ
theorem jqq(cs:List PV)(tot l l':Int)(b:Bool)(z:Nat)(xs:List PV)(t:Tm)(v:PV)(h:TmP t v)(t2:Tm)(v2:PV)(h2:TmP t2 v2)(q:Bool)(hf:Fr 89 [.ci [.bp 0 0],.sl b z xs,v,v2] cs tot l (.ret [bv q]) l'):Finds C1 88 [.bp 0 0,.bp 1 0,.bp 2 0,.bp 3 0,.bp 4 0] (stC2 cs tot l (.sl b z xs) v v2 (.box 4 [bv false])) fun r st=>r=.ret []∧st=stC2 cs tot l' (.sl b z xs) v v2 (.box 4 [bv q]):=by
 cases h.c;cases h2.c;refine j00 Tryz.func88 rfl rfl rfl ?_;repeat'(first|refine gU ?_|refine j1u (i:=5) hf rfl rfl rfl rfl rfl rfl rfl ?_)<;>conv=>whnf
 all_goals exact gJ
theorem jhc(cs:List PV)(tot l:Int)(b:Bool)(z:Nat)(xs:List PV)(k1 n1:Int)(s1:List UInt8)(b1:Bool)(z1:Nat)(x1:List PV)(c1:Bool)(y1:Nat)(ys1:List PV)(k2 n2:Int)(s2:List UInt8)(b2:Bool)(z2:Nat)(x2:List PV)(c2:Bool)(y2:Nat)(ys2:List PV)(hfo:Pf C1 142 [.sl b z xs,.sl true 5 [.ag [iv k1,iv n1,sv s1,.sl b1 z1 x1,.sl c1 y1 ys1],.ag [iv k2,iv n2,sv s2,.sl b2 z2 x2,.sl c2 y2 ys2]]] [bv false]):Finds C1 87 (byA2 (.sl b z xs) [.ag [iv k1,iv n1,sv s1,.sl b1 z1 x1,.sl c1 y1 ys1],.ag [iv k2,iv n2,sv s2,.sl b2 z2 x2,.sl c2 y2 ys2]] 88) (stB2 cs tot l (.sl b z xs) (.ag [iv k1,iv n1,sv s1,.sl b1 z1 x1,.sl c1 y1 ys1]) (.ag [iv k2,iv n2,sv s2,.sl b2 z2 x2,.sl c2 y2 ys2]) (.box 4 [bv false])) fun r st=>r=.ret [iv 10]∧st=stB2 cs tot l (.sl b z xs) (.ag [iv k1,iv n1,sv s1,.sl b1 z1 x1,.sl c1 y1 ys1]) (.ag [iv k2,iv n2,sv s2,.sl b2 z2 x2,.sl c2 y2 ys2]) (.box 4 [bv false]):=by
 refine j0L Tryz.func87 rfl rfl rfl ?_;repeat'(first|refine gX hfo ?_|refine j0z (j2v 10) rfl rfl ?_)<;>conv=>whnf
 refine⟨_,_,_,_,_,_,rfl,rfl,rfl,rfl,?_⟩;repeat'(first|refine gU ?_|refine gX (j1x _) ?_)<;>conv=>whnf
 all_goals exact gJ
theorem jmn(cs:List PV)(tot l l' e:Int)(he:¬e=0)(b:Bool)(z:Nat)(xs:List PV)(k1 n1:Int)(s1:List UInt8)(b1:Bool)(z1:Nat)(x1:List PV)(c1:Bool)(y1:Nat)(ys1:List PV)(k2 n2:Int)(s2:List UInt8)(b2:Bool)(z2:Nat)(x2:List PV)(c2:Bool)(y2:Nat)(ys2:List PV)(hfo:Pf C1 142 [.sl b z xs,.sl true 5 [.ag [iv k1,iv n1,sv s1,.sl b1 z1 x1,.sl c1 y1 ys1],.ag [iv k2,iv n2,sv s2,.sl b2 z2 x2,.sl c2 y2 ys2]]] [bv true])
  (hc:Finds C1 88 [.bp 0 0,.bp 1 0,.bp 2 0,.bp 3 0,.bp 4 0] (stC2 cs tot l (.sl b z xs) (.ag [iv k1,iv n1,sv s1,.sl b1 z1 x1,.sl c1 y1 ys1]) (.ag [iv k2,iv n2,sv s2,.sl b2 z2 x2,.sl c2 y2 ys2]) (.box 4 [bv false])) fun r st=>r=.pan (j0f e)∧st=stC2 cs tot l' (.sl b z xs) (.ag [iv k1,iv n1,sv s1,.sl b1 z1 x1,.sl c1 y1 ys1]) (.ag [iv k2,iv n2,sv s2,.sl b2 z2 x2,.sl c2 y2 ys2]) (.box 4 [bv false])):Finds C1 87 (byA2 (.sl b z xs) [.ag [iv k1,iv n1,sv s1,.sl b1 z1 x1,.sl c1 y1 ys1],.ag [iv k2,iv n2,sv s2,.sl b2 z2 x2,.sl c2 y2 ys2]] 88) (stB2 cs tot l (.sl b z xs) (.ag [iv k1,iv n1,sv s1,.sl b1 z1 x1,.sl c1 y1 ys1]) (.ag [iv k2,iv n2,sv s2,.sl b2 z2 x2,.sl c2 y2 ys2]) (.box 4 [bv false])) fun r st=>r=.ret [iv e]∧st=stB2 cs tot l' (.sl b z xs) (.ag [iv k1,iv n1,sv s1,.sl b1 z1 x1,.sl c1 y1 ys1]) (.ag [iv k2,iv n2,sv s2,.sl b2 z2 x2,.sl c2 y2 ys2]) (.box 4 [bv false]):=by
 refine j0L Tryz.func87 rfl rfl rfl ?_;repeat'(first|refine gX hfo ?_|refine gX (j2g 10) ?_|refine j9B hc rfl rfl rfl rfl rfl rfl rfl ?_)<;>conv=>whnf
 refine⟨_,_,_,_,_,_,rfl,rfl,rfl,rfl,?_⟩;repeat'(first|refine gU ?_|refine gX (j1x _) ?_)<;>conv=>whnf
 all_goals exact gJ
theorem jmo(cs:List PV)(tot l l':Int)(q:Bool)(b:Bool)(z:Nat)(xs:List PV)(k1 n1:Int)(s1:List UInt8)(b1:Bool)(z1:Nat)(x1:List PV)(c1:Bool)(y1:Nat)(ys1:List PV)(k2 n2:Int)(s2:List UInt8)(b2:Bool)(z2:Nat)(x2:List PV)(c2:Bool)(y2:Nat)(ys2:List PV)(hfo:Pf C1 142 [.sl b z xs,.sl true 5 [.ag [iv k1,iv n1,sv s1,.sl b1 z1 x1,.sl c1 y1 ys1],.ag [iv k2,iv n2,sv s2,.sl b2 z2 x2,.sl c2 y2 ys2]]] [bv true])
  (hc:Finds C1 88 [.bp 0 0,.bp 1 0,.bp 2 0,.bp 3 0,.bp 4 0] (stC2 cs tot l (.sl b z xs) (.ag [iv k1,iv n1,sv s1,.sl b1 z1 x1,.sl c1 y1 ys1]) (.ag [iv k2,iv n2,sv s2,.sl b2 z2 x2,.sl c2 y2 ys2]) (.box 4 [bv false])) fun r st=>r=.ret []∧st=stC2 cs tot l' (.sl b z xs) (.ag [iv k1,iv n1,sv s1,.sl b1 z1 x1,.sl c1 y1 ys1]) (.ag [iv k2,iv n2,sv s2,.sl b2 z2 x2,.sl c2 y2 ys2]) (.box 4 [bv q])):Finds C1 87 (byA2 (.sl b z xs) [.ag [iv k1,iv n1,sv s1,.sl b1 z1 x1,.sl c1 y1 ys1],.ag [iv k2,iv n2,sv s2,.sl b2 z2 x2,.sl c2 y2 ys2]] 88) (stB2 cs tot l (.sl b z xs) (.ag [iv k1,iv n1,sv s1,.sl b1 z1 x1,.sl c1 y1 ys1]) (.ag [iv k2,iv n2,sv s2,.sl b2 z2 x2,.sl c2 y2 ys2]) (.box 4 [bv false])) fun r st=>r=.ret [iv 0]∧st=stB2 cs tot l' (.sl b z xs) (.ag [iv k1,iv n1,sv s1,.sl b1 z1 x1,.sl c1 y1 ys1]) (.ag [iv k2,iv n2,sv s2,.sl b2 z2 x2,.sl c2 y2 ys2]) (.box 4 [bv q]):=by
 refine j0L Tryz.func87 rfl rfl rfl ?_;repeat'(first|refine gU ?_|refine gX hfo ?_|refine gX (j2g 10) ?_|refine j9B hc rfl rfl rfl rfl rfl rfl rfl ?_)<;>conv=>whnf
 refine⟨_,_,_,_,_,_,rfl,rfl,rfl,rfl,?_⟩;repeat'(first|refine gU ?_|refine gX j5f ?_)<;>conv=>whnf
 all_goals exact gJ
theorem j8Q(cs:List PV)(tot l l':Int)(b:Bool)(z:Nat)(xs:List PV)(k1 n1:Int)(s1:List UInt8)(b1:Bool)(z1:Nat)(x1:List PV)(c1:Bool)(y1:Nat)(ys1:List PV)(k2 n2:Int)(s2:List UInt8)(b2:Bool)(z2:Nat)(x2:List PV)(c2:Bool)(y2:Nat)(ys2:List PV)(e:Int)(q:Bool)
  (hb:Finds C1 87 (byA2 (.sl b z xs) [.ag [iv k1,iv n1,sv s1,.sl b1 z1 x1,.sl c1 y1 ys1],.ag [iv k2,iv n2,sv s2,.sl b2 z2 x2,.sl c2 y2 ys2]] 88) (stB2 cs tot l (.sl b z xs) (.ag [iv k1,iv n1,sv s1,.sl b1 z1 x1,.sl c1 y1 ys1]) (.ag [iv k2,iv n2,sv s2,.sl b2 z2 x2,.sl c2 y2 ys2]) (.box 4 [bv false])) fun r st=>r=.ret [iv e]∧st=stB2 cs tot l' (.sl b z xs) (.ag [iv k1,iv n1,sv s1,.sl b1 z1 x1,.sl c1 y1 ys1]) (.ag [iv k2,iv n2,sv s2,.sl b2 z2 x2,.sl c2 y2 ys2]) (.box 4 [bv q])) :
  Fr 42 [.ci [.bp 0 0],.sl b z xs,.ag [iv k1,iv n1,sv s1,.sl b1 z1 x1,.sl c1 y1 ys1],.ag [iv k2,iv n2,sv s2,.sl b2 z2 x2,.sl c2 y2 ys2]] cs tot l (.ret [bv q,iv e]) l':=by
 refine j00 Tryz.func42 rfl rfl rfl ?_;repeat'(first|refine gU ?_|refine j9B hb rfl rfl rfl rfl rfl rfl rfl ?_)<;>conv=>whnf
 all_goals exact gJ
theorem j7T(E:Nv)(cs:List PV)(hE:NvP E (.cp cs))(tot:Int)(ht:tot≤1048576)(n:Nat)(ctx:List Tm)(b:Bool)(z:Nat)(xs:List PV)(hz:z=5∨(xs=[]∧b=true∧z=0))(hxs:TmsP ctx xs)(hbd:ctx.length≤1759218604441)(t:Tm)(v:PV)(h:TmP t v)(u:Tm)(w:PV)(hu:TmP u w)(l:Int)(r:Except Int Bool)(l':Int)(h0:0≤l)(h1:l≤tot)(hx:j7S E n ctx t u l=some (r,l')):Fr 42 [.ci [.bp 0 0],.sl b z xs,v,w] cs tot l (.ret (errB r)) l':=by
 have hz':z=5∨xs=[]:=hz.imp_right fun q=>q.1
 have hfo:=jaD ctx [t,u] b z xs hz' hxs true 5 [v,w] (.inl rfl) ⟨v,[w],rfl,h,w,[],rfl,hu,rfl⟩ hbd (by simp)
 have hv:=h;have hw:=hu;cases h.c;cases hu.c;unfold j7S at hx;rcases j0a hx with⟨e,q1,rfl⟩|⟨u0,la,q1,q2⟩
 ·obtain⟨rfl,d2⟩:=j1o q1;rcases d2 with⟨-,d2⟩|⟨d1,d2⟩
  ·cases d2
  ·cases d2;rw[d1] at hfo;exact j8Q cs tot l' l' b z xs _ _ _ _ _ _ _ _ _ _ _ _ _ _ _ _ _ _ 10 _ (jhc cs tot l' b z xs _ _ _ _ _ _ _ _ _ _ _ _ _ _ _ _ _ _ hfo)
 obtain⟨rfl,d2⟩:=j1o q1;rcases d2 with⟨d1,-⟩|⟨-,d2⟩
 rotate_left
 ·cases d2
 rw[d1] at hfo;obtain⟨hc,hsh⟩:=j5u d1 hz hxs;obtain⟨i1,i2⟩:=hsh t (by simp)
 obtain⟨j1,j2⟩:=hsh u (by simp)
 have hf:=S_ok E cs hE tot ht n ctx _ hc t _ hv i1 i2 u _ hw j1 j2 la r l' h0 h1 q2;cases r with
 |error e=>
  have hf:Fr _ _ _ _ _ (.pan (j0f e)) l':=hf;have he:¬e=0:=fun e0=>by
   subst e0;exact(j3f n ctx t u).nz _ _ q2
  exact j8Q cs tot la l' b z xs _ _ _ _ _ _ _ _ _ _ _ _ _ _ _ _ _ _ e _ (jmn cs tot la l' e he b z xs _ _ _ _ _ _ _ _ _ _ _ _ _ _ _ _ _ _ hfo (jqp cs tot la l' e b z xs t _ hv u _ hw hf))
 |ok q=>
  have hf:Fr _ _ _ _ _ (.ret [bv q]) l':=hf;exact j8Q cs tot la l' b z xs _ _ _ _ _ _ _ _ _ _ _ _ _ _ _ _ _ _ 0 _ (jmo cs tot la l' q b z xs _ _ _ _ _ _ _ _ _ _ _ _ _ _ _ _ _ _ hfo (jqq cs tot la l' b z xs t _ hv u _ hw q hf))
open Go Go.Am Go.Gw
mutual
def okLv:Lv→PV→Bool
 | .mk k n ls,.ag [.sc (.int .i64 a),.sc (.int .i64 b),.sl _ z xs]=>decide (a=k)&&(decide (b=n)&&((Nat.beq z 3||xs.isEmpty)&&jhU ls xs))
 |_,_=>false
def jhU:List Lv→List PV→Bool
 |[],[]=>true
 |l::r,x::xs=>okLv l x&&jhU r xs
 |_,_=>false
end
mutual
def okTm:Tm→PV→Bool
 | .mk k n s ls ts,.ag [.sc (.int .i64 a),.sc (.int .i64 b),.sc (.string u),.sl _ z xs,.sl _ y ys]=>decide (a=k)&&(decide (b=n)&&(decide (u.data.toList=s)&&((Nat.beq z 3||xs.isEmpty)&&(jhU ls xs&&((Nat.beq y 5||ys.isEmpty)&&jla ts ys)))))
 |_,_=>false
def jla:List Tm→List PV→Bool
 |[],[]=>true
 |l::r,x::xs=>okTm l x&&jla r xs
 |_,_=>false
end
mutual
def smLv:Lv→Bool
 | .mk _ _ ls=>Nat.ble ls.length 1000&&jot ls
def jot:List Lv→Bool
 |[]=>true
 |l::r=>smLv l&&jot r
end
mutual
def smTm:Tm→Bool
 | .mk _ n s ls ts=>decide (-1000000≤n∧n≤1000000)&&(Nat.ble s.length 1000&&(Nat.ble ls.length 1000&&(jot ls&&(Nat.ble ts.length 1000&&jqv ts))))
def jqv:List Tm→Bool
 |[]=>true
 |l::r=>smTm l&&jqv r
end
theorem emp{xs:List PV}{z:Nat}(h:(Nat.beq z n||xs.isEmpty)=true):z=n∨xs=[]:=by
 rw[Bool.or_eq_true] at h;rcases h with h|h
 ·exact .inl (Nat.eq_of_beq_eq_true h)
 ·exact .inr (by simpa using h)
mutual
theorem jsr:∀{l:Lv}{v:PV},okLv l v=true→smLv l=true→LvP l v
 | .mk k n ls,v,h,hs=>by
  unfold okLv at h;split at h
  ·rename_i a b f z xs heq;cases heq;simp only[Bool.and_eq_true,decide_eq_true_eq] at h;obtain⟨rfl,rfl,h1,h2⟩:=h;simp only[smLv,Bool.and_eq_true] at hs;simp only[LvP];exact⟨_,_,_,rfl,emp h1,jeq h2 hs.2,Nat.le_trans (Nat.le_of_ble_eq_true hs.1) (by omega)⟩
  ·cases h
theorem jeq:∀{ls:List Lv}{xs:List PV},jhU ls xs=true→jot ls=true→LvsP ls xs
 |[],[],_,_=>by simp only[LvsP]
 |[],_::_,h,_=>by simp[jhU] at h
 |_::_,[],h,_=>by simp[jhU] at h
 |l::r,x::xs,h,hs=>by
  simp only[jhU,Bool.and_eq_true] at h;simp only[jot,Bool.and_eq_true] at hs;simp only[LvsP];exact⟨_,_,rfl,jsr h.1 hs.1,jeq h.2 hs.2⟩
end
mutual
theorem jer:∀{t:Tm}{v:PV},okTm t v=true→smTm t=true→TmP t v
 | .mk k n s ls ts,v,h,hs=>by
  unfold okTm at h;split at h
  ·rename_i a b u f z xs f2 y ys heq;cases heq;simp only[Bool.and_eq_true,decide_eq_true_eq] at h;obtain⟨rfl,rfl,rfl,h1,h2,h3,h4⟩:=h;simp only[smTm,Bool.and_eq_true,decide_eq_true_eq] at hs;obtain⟨s1,s2,s3,s4,s5,s6⟩:=hs;simp only[TmP];refine⟨f,z,xs,f2,y,ys,?_,emp h1,jeq h2 s4,Nat.le_trans (Nat.le_of_ble_eq_true s3) (by omega),emp h3,jju h4 s6,Nat.le_trans (Nat.le_of_ble_eq_true s5) (by omega),Nat.le_trans (Nat.le_of_ble_eq_true s2) (by omega),by unfold i64;omega⟩
   rw[jbC u]
  ·cases h
theorem jju:∀{ls:List Tm}{xs:List PV},jla ls xs=true→jqv ls=true→TmsP ls xs
 |[],[],_,_=>by simp only[TmsP]
 |[],_::_,h,_=>by simp[jla] at h
 |_::_,[],h,_=>by simp[jla] at h
 |l::r,x::xs,h,hs=>by
  simp only[jla,Bool.and_eq_true] at h;simp only[jqv,Bool.and_eq_true] at hs;simp only[TmsP];exact⟨_,_,rfl,jer h.1 hs.1,jju h.2 hs.2⟩
end
def isTm(t:Tm)(r:Option (AEnd×Sto)):Bool:=match r with
 |some (.ret [v],_)=>okTm t v&&smTm t
 |_=>false
theorem j3W{t:Tm}(h:isTm t ((ev C1 n).call f args [])=true):∃v,TmP t v∧Pf C1 f args [v]:=by
 unfold isTm at h;split at h
 ·rename_i v st hc;rw[Bool.and_eq_true] at h;exact⟨v,jer h.1 h.2,jo3 n hc⟩
 ·cases h
def isTx(s:List UInt8)(r:Option (AEnd×Sto)):Bool:=match r with
 |some (.ret [.sc (.string u)],_)=>decide (u.data.toList=s)
 |_=>false
def vr(n:Int):Tm:=.mk 1 n [] [] []
def ap(a b:Tm):Tm:=.mk 4 0 [] [] [a,b]
def pi_(a b:Tm):Tm:=.mk 6 0 [] [] [a,b]
def cq(s:List UInt8):Tm:=.mk 3 0 s [] []
def okSs:List (List UInt8)→List PV→Bool
 |[],[]=>true
 |s::r,.sc (.string u)::xs=>decide (u.data.toList=s)&&okSs r xs
 |_,_=>false
theorem jnZ:∀{l:List (List UInt8)}{xs:List PV},okSs l xs=true→xs=svs l
 |[],[],_=>rfl
 |[],_::_,h=>by simp[okSs] at h
 |s::r,xs,h=>by
  unfold okSs at h;split at h
  ·rename_i heq;cases heq
  ·rename_i s' r' u xs' e1;cases e1;rw[Bool.and_eq_true,decide_eq_true_eq] at h;obtain⟨h1,h2⟩:=h;have h3:=jnZ h2;subst h3 h1;show PV.sc (.string u)::svs r=sv u.data.toList::svs r
   rw[jbC u]
  ·cases h
def smEn(e:En):Bool:=smTm e.ty&&(smTm e.val&&(Nat.ble e.nm.length 1000&&(Nat.ble e.fam.length 1000&&(Nat.ble e.ctors.length 1000&&e.ctors.all fun s=>Nat.ble s.length 1000))))
def okEn(e:En):PV→Bool
 | .ag [.sc (.int .i64 a),.sc (.int .i64 p),.sc (.string u),t1,t2,t3,t4,t5,v1,v2,v3,v4,v5,.sc (.int .i64 hh),.sc (.string fa),.sc (.int .i64 fx),.sc (.int .i64 ix),.sc (.int .i64 fl),.sl b z cs]=>decide (a=e.kind∧p=e.pars∧u.data.toList=e.nm∧hh=e.ht∧fa.data.toList=e.fam∧fx=e.fixd∧ix=e.idx∧fl=e.flds)&&(okTm e.ty (.ag [t1,t2,t3,t4,t5])&&(okTm e.val (.ag [v1,v2,v3,v4,v5])&&(okSs e.ctors cs&&((Nat.beq z 1 && !e.ctors.isEmpty)||(e.ctors.isEmpty&&(b&&Nat.beq z 0))))))
 |_=>false
theorem jsq(h:okEn e v=true)(hs:smEn e=true):EnP e v:=by
 unfold okEn at h;split at h
 ·rename_i a p u t1 t2 t3 t4 t5 v1 v2 v3 v4 v5 hh fa fx ix fl b z cs;simp only[Bool.and_eq_true,decide_eq_true_eq] at h;obtain⟨⟨rfl,rfl,h3,rfl,h5,rfl,rfl,rfl⟩,ht,hv,hc,hz⟩:=h;simp only[smEn,Bool.and_eq_true] at hs;obtain⟨s1,s2,s3,s4,s5,s6⟩:=hs;have ht:=jer ht s1;have hv:=jer hv s2;have ht':=ht;have hv':=hv;obtain⟨k1,n1,q1,l1,r1,b1,z1,x1,c1,y1,ys1,-,e1,-⟩:=ht'.open;obtain⟨k2,n2,q2,l2,r2,b2,z2,x2,c2,y2,ys2,-,e2,-⟩:=hv'.open;cases e1;cases e2;have hc:=jnZ hc;subst hc;refine⟨k1,n1,q1,b1,z1,x1,c1,y1,ys1,k2,n2,q2,b2,z2,x2,c2,y2,ys2,b,z,?_,ht,hv,?_,Nat.le_trans (Nat.le_of_ble_eq_true s3) (by omega),Nat.le_trans (Nat.le_of_ble_eq_true s4) (by omega),Nat.le_trans (Nat.le_of_ble_eq_true s5) (by omega),fun s hs=>Nat.le_trans (Nat.le_of_ble_eq_true (List.all_eq_true.1 s6 s hs)) (by omega)⟩
  ·rw[←h3,←h5,jbC u,jbC fa]
  ·rw[Bool.or_eq_true] at hz;simp only[Bool.and_eq_true] at hz;rcases hz with⟨a1,a2⟩|⟨a1,a2,a3⟩
   ·exact .inl ⟨Nat.eq_of_beq_eq_true a1,by simpa using a2⟩
   ·exact .inr ⟨by simpa using a1,a2,Nat.eq_of_beq_eq_true a3⟩
 ·cases h
def jl9:List En→List PV→Bool
 |[],[]=>true
 |e::r,x::xs=>(okEn e x&&smEn e)&&jl9 r xs
 |_,_=>false
theorem jjt:∀{es:List En}{xs:List PV},jl9 es xs=true→EnsP es xs
 |[],[],_=>rfl
 |[],_::_,h=>by simp[jl9] at h
 |_::_,[],h=>by simp[jl9] at h
 |e::r,x::xs,h=>by
  simp only[jl9,Bool.and_eq_true] at h;exact⟨_,_,rfl,jsq h.1.1 h.1.2,jjt h.2⟩
def jse(es:List En)(r:Option (AEnd×Sto)):Bool:=match r with
 |some (.ret [.ms 0 n],[.row false T 19 xs])=>Nat.beq n es.length&&(Nat.beq T 51&&jl9 es xs)
 |_=>false
theorem jpF{es:List En}(h:jse es ((ev C1 n).call f [] [])=true):∃xs,EnsP es xs∧Finds C1 f [] [] fun r st=>r=.ret [.ms 0 es.length]∧st=[.row false 51 19 xs]:=by
 unfold jse at h;split at h
 ·rename_i m T xs hc;rw[Bool.and_eq_true,Bool.and_eq_true] at h;have e1:=Nat.eq_of_beq_eq_true h.1;have e2:=Nat.eq_of_beq_eq_true h.2.1;subst e1 e2;exact⟨xs,jjt h.2.2,jdY n hc ⟨rfl,rfl⟩⟩
 ·cases h
def so_(l:Lv):Tm:=.mk 2 0 [] [l] []
def la_(a b:Tm):Tm:=.mk 5 0 [] [] [a,b]
def cl_(s:List UInt8)(l:Lv):Tm:=.mk 3 0 s [l] []
def lu:Lv:=.mk 2 0 []
def l1:Lv:=.mk 1 1 []
def l0:Lv:=.mk 1 0 []
def nNat:List UInt8:=[110,97,116]
def j6r:List UInt8:=[110,97,116,46,122,101,114,111]
def j7B:List UInt8:=[110,97,116,46,115,117,99,99]
def nRec:List UInt8:=[110,97,116,46,114,101,99]
def nAdd:List UInt8:=[97,100,100]
def nMul:List UInt8:=[109,117,108]
def tNat:Tm:=cq nNat
def jrC:Tm:=ap (ap (ap (ap (cl_ nRec lu) (vr 3)) (vr 2)) (vr 1)) (vr 0)
def jrt:Tm:=la_ tNat (la_ tNat (la_ tNat (vr 1)))
def jrp:Tm:=la_ tNat (la_ tNat (la_ tNat (la_ tNat (ap (ap (vr 1) (vr 0)) jrC))))
def jjq:Tm:=la_ tNat tNat
def jti:Tm:=la_ tNat (la_ tNat (ap (cq j7B) (vr 0)))
def jsS:Tm:=la_ tNat (la_ tNat (ap (ap (ap (ap (cl_ nRec l1) jjq) (vr 1)) jti) (vr 0)))
def jtg:Tm:=la_ tNat (la_ tNat (ap (ap (cq nAdd) (vr 0)) (vr 3)))
def jth:Tm:=la_ tNat (la_ tNat (ap (ap (ap (ap (cl_ nRec l1) jjq) (cq j6r)) jtg) (vr 0)))
def jtd:List En:=[⟨5,0,nNat,so_ l1,tz,0,[],0,0,0,[j6r,j7B]⟩,⟨6,0,j6r,tNat,jrt,0,nNat,0,0,0,[]⟩,⟨6,0,j7B,pi_ tNat tNat,jrp,0,nNat,0,1,1,[]⟩,⟨7,1,nRec,so_ lu,tz,0,nNat,0,0,0,[j6r,j7B]⟩,⟨2,0,nAdd,so_ l1,jsS,1,[],0,0,0,[]⟩,⟨2,0,nMul,so_ l1,jth,2,[],0,0,0,[]⟩,⟨1,0,[107],tNat,tz,0,[],0,0,0,[]⟩]
theorem jpO:jse jtd ((ev C1 60).call 82 [] [])=true:=by kernel_rfl
theorem jnE:∃xs,EnsP jtd xs∧Finds C1 82 [] [] fun r st=>r=.ret [.ms 0 7]∧st=[.row false 51 19 xs]:=jpF jpO
end Go.Proofs.YtbnodhcijeaceaaGreatDoor
