/- Environments: an entry more (package env). -/
import Derived.Test.YtbnodhcijeaceaaGreatDoorXIm
set_option linter.all false
set_option maxHeartbeats 2000000
set_option maxRecDepth 1000000
namespace Go.Proofs.YtbnodhcijeaceaaGreatDoor
open Go Go.Am Go.Gw
variable{e:En}{f:FuncId}{args xs:List PV}{n z:Nat}{v:PV}
def EnP.pure6(h:EnP e v):pur 6 v=true:=by
 obtain⟨a1,a2,a3,a4,a5,a6,a7,a8,a9,a10,a11,a12,a13,a14,a15,a16,a17,a18,a19,a20,rfl,-⟩:=h;rfl
def EnsP.pure6:∀{es:List En}{xs:List PV},EnsP es xs→xs.all (pur 6)=true
 |[],xs,h=>by
  simp only[EnsP] at h;subst h;rfl
 |e::r,xs,h=>by
  simp only[EnsP] at h;obtain⟨v,xs',rfl,h1,h2⟩:=h;rw[BH,h1.pure6,EnsP.pure6 h2];rfl
def jkh{C:Cfg}{i:Nat}{T T2:TypeId}{cs cs' c2:List PV}{st st':Sto}(hA:st[i]?=some (.box T cs))(qA:C.fz T=true)(h:mapS (pubV C n) cs st=some (cs',st'))(h':st'[i]?=some (.box T2 c2)):pubV C (n+1) (.bp i 0) st=some (frzV cs',st'.set i (.frz cs')):=by
 simp only[pubV,hA,qA,h,h']
def jtT(E:Nv)(v:PV)(h:NvP E v)(e:En)(w:PV)(hw:EnP e w)(hr:j1y e=true)(hg:getR e.nm E.tr=none)(qA:jf7 e.nm E.es.length E.tr)(hlen:E.es.length<100000)(hB:NvOk ⟨putR e.nm E.es.length E.tr,E.es++[e]⟩):∃v',NvP ⟨putR e.nm E.es.length E.tr,E.es++[e]⟩ v'∧Pf C1 105 [v,w] [v',iv 0]:=by
 have hR:=j5F e w hw;have hC:=jaZ e w hw;have hG:=jhw e.nm E.tr;rw[hr] at hR;rw[hg] at hG;obtain⟨b,z,xs,rfl,hz,hx,wA⟩:=h;have hP:=jsz e.nm E.es.length E.tr qA;have hl:=hx.len;have gA:=hx.snoc (j5H hw);have hA:=gA.pure6;have gB:(xs.length.ble xs.length&&Nat.ble 0 xs.length)=true:=by simp
 have qB:Nat.beq xs.length xs.length=true:=by simp
 refine⟨.cp [j9c (putR e.nm E.es.length E.tr),.sl false 19 (xs++[encE e])],⟨false,19,_,rfl,.inl ⟨rfl,by simp⟩,gA,hB⟩,?_⟩
 have hP:Pf C1 174 [j9c E.tr,sv e.nm,iv xs.length] [j9c (putR e.nm E.es.length E.tr)]:=by
  rw[hl];exact hP
 obtain⟨tk,tn,ts,tb,tz',txs,tc,ty',tys,vk,vn,vs,vb,vz,vxs,vc,vy,vys,b',z',hE⟩:=j4h hw;rw[hE] at hC hA⊢;obtain⟨a1,a2,a3,a4,a5,a6,a7,a8,a9,a10,a11,a12,a13,a14,a15,a16,a17,a18,a19,a20,rfl,-⟩:=hw;rcases hz with⟨rfl,-⟩|⟨he,rfl,rfl⟩
 ·refine gR Tryz.func105 ?_;repeat'(first|refine gU ?_|refine gX hR ?_|refine j01 hG fun _=>?_|refine j01 hC fun _=>?_|refine VOk.mk gB ?_|refine VOk.mk qB ?_|refine VOk.mk (j8F (w:=264) (r:=140737488355328) rfl rfl rfl (by simp;omega) (by simp;omega)) ?_|refine j01 hP fun _=>?_|apply gK)<;>conv=>whnf
  have hx:(xs.take xs.length).drop 0++[.ag [iv e.kind,iv e.pars,sv e.nm,iv tk,iv tn,sv ts,.sl tb tz' txs,.sl tc ty' tys,iv vk,iv vn,sv vs,.sl vb vz vxs,.sl vc vy vys,iv e.ht,sv e.fam,iv e.fixd,iv e.idx,iv e.flds,.sl b' z' (svs e.ctors)]]=xs++[.ag [iv e.kind,iv e.pars,sv e.nm,iv tk,iv tn,sv ts,.sl tb tz' txs,.sl tc ty' tys,iv vk,iv vn,sv vs,.sl vb vz vxs,.sl vc vy vys,iv e.ht,sv e.fam,iv e.fixd,iv e.idx,iv e.flds,.sl b' z' (svs e.ctors)]]:=by rw[BT];rfl
  refine j0m rfl (j03 (jkh rfl rfl (j03 rfl (j03 (j0p rfl (by simp) (by rw[←hx] at hA;exact hA)) j0h)) rfl) (j03 rfl j0h)) rfl ?_
  rw[←hx];rfl
 ·obtain rfl:xs=[]:=AJ (by rw[hl,he];rfl)
  refine gR Tryz.func105 ?_;repeat'(first|refine gU ?_|refine gX hR ?_|refine j01 hG fun _=>?_|refine j01 hC fun _=>?_|refine j01 hP fun _=>?_|apply gK)<;>conv=>whnf
  exact j0m rfl (j03 (jkh rfl rfl (j03 rfl (j03 (j0p rfl rfl hA) j0h)) rfl) (j03 rfl j0h)) rfl rfl
open Go Go.Am Go.Gw
def Finds.out{α:Type}{P:α→Prop}{R:α→AEnd}(h:Finds C1 f args [] fun r _=>∃x,P x∧r=R x):∃x,P x∧Finds C1 f args [] fun r _=>r=R x:=by
 obtain⟨r,st,⟨x,h1,h2⟩,N,hN⟩:=h;exact⟨x,h1,r,st,h2,N,hN⟩
def nv0:Nv:=⟨.nil,[]⟩
def Nv.push(E:Nv)(e:En):Nv:=⟨putR e.nm E.es.length E.tr,E.es++[e]⟩
def jau:Nv→List En→Nv
 |E,[]=>E
 |E,e::r=>jau (E.push e) r
def jd0:Nv→List En→Prop
 |_,[]=>True
 |E,e::r=>(j1y e=true∧getR e.nm E.tr=none∧jf7 e.nm E.es.length E.tr∧E.es.length<100000∧NvOk (E.push e))∧jd0 (E.push e) r
def jve:NvP nv0 (.cp [j9c .nil,.sl true 0 []]):=⟨true,0,[],rfl,.inr ⟨rfl,rfl,rfl⟩,rfl,⟨fun s i h=>(by cases h),fun e h=>(by cases h),by simp[nv0]⟩⟩
def jli:Pf C1 55 [] [.cp [j9c .nil,.sl true 0 []]]:=by
 have ht:=jiV;refine gR Tryz.func55 ?_;repeat'(first|refine gX ht ?_)<;>conv=>whnf
 exact j0m rfl rfl rfl rfl
def jmI(E:Nv)(v:PV)(h:NvP E v)(es:List En)(b:Bool)(ws:List PV)(hB:EnsP es ws)(wB:jd0 E es)(hC:es.length≤100000):∃v',NvP (jau E es) v'∧Pf C1 56 [v,.sl b 19 ws] [v',iv 0]:=by
 have hlen:=hB.len;refine Finds.out (P:=fun v'=>NvP (jau E es) v') (R:=fun v'=>.ret [v',iv 0]) ?_
 have h0:=h;obtain⟨b0,z0,xs0,rfl,-⟩:=h0;refine gR Tryz.func56 ?_;all_goals try conv=>whnf
 refine j04 (G:=Nat×Nv×PV) (fun g=>[(6,g.2.2),(14,iv g.1)]) (fun _=>_) (fun g=>g.1≤es.length∧jau g.2.1 (es.drop g.1)=jau E es∧jd0 g.2.1 (es.drop g.1)∧NvP g.2.1 g.2.2) (fun g=>es.length-g.1) (0,E,_) ⟨by omega,rfl,wB,h⟩ rfl rfl ?_
 rintro⟨i,Ei,vi⟩ ⟨hi,hA,qA,hv⟩;dsimp only at hi hA qA hv⊢;have gB:=hv;obtain⟨b1,z1,xs1,rfl,-⟩:=gB;repeat'(first|refine gU ?_|apply gE<;>intro h)<;>conv=>whnf
 ·have gA:i<es.length:=by omega
  obtain⟨e,he⟩:∃e,es[i]?=some e:=⟨_,AA gA⟩;obtain⟨w,hw,hP⟩:=hB.at he;have hd:es.drop i=e::es.drop (i+1):=by
   rw[DN gA];congr 1;rw[AA gA] at he;exact BP he
  rw[hd] at hA qA;obtain⟨⟨o1,o2,o3,o4,o5⟩,o6⟩:=qA;obtain⟨v2,qB,ha⟩:=jtT Ei _ hv e w hP o1 o2 o3 o4 o5;have wA:=qB;obtain⟨b2,z2,xs2,rfl,-⟩:=wA;obtain⟨a1,a2,a3,a4,a5,a6,a7,a8,a9,a10,a11,a12,a13,a14,a15,a16,a17,a18,a19,a20,rfl,-⟩:=hP;repeat'(first|refine gU ?_|refine VIdx.mk _ hw ?_|refine gX ha ?_)<;>conv=>whnf
  exact VAgain.mk _ rfl _ (j0a rfl rfl rfl) ⟨(i+1,Ei.push e,_),⟨gA,hA,o6,qB⟩,by dsimp only;omega,rfl⟩
 ·have hl:i=es.length:=by omega
  subst hl;rw[BU] at hA;refine⟨_,?_,rfl⟩;rw[←hA];exact hv
def jcA(cs:List PV)(n:Int)(h0:0≤n)(h1:n≤1048576):Finds C1 57 [.cp cs,iv n] [] fun r st=>r=.ret [.bp 0 0,iv 0]∧st=[runB cs n n]:=by
 refine gR Tryz.func57 ?_;repeat'(first|refine gU ?_|apply gE<;>intro h)<;>conv=>whnf
 all_goals first|(exfalso;omega)|skip
 show VRet C1 _ 0 [.bp 0 0,iv 0] [.box 104 [.cp cs,iv 0,iv n]] _
 have e:runB cs n n=.box 104 [.cp cs,iv 0,iv n]:=by
  unfold runB;rw[Int.sub_self]
 rw[e];exact j1g (.inr ⟨rfl,rfl⟩) rfl rfl rfl ⟨rfl,rfl⟩
def jhR(cs:List PV)(tot l:Int):Fr 58 [.bp 0 0] cs tot l (.ret [.ci [.bp 0 0]]) l:=by
 refine gR Tryz.func58 ?_;all_goals try conv=>whnf
 show VRet C1 _ 1 [.bp 1 0] [.box 104 [.cp cs,iv (tot-l),iv l],.box 102 [.bp 0 0]] _
 exact j1g (.inr ⟨rfl,rfl⟩) rfl rfl rfl ⟨rfl,rfl⟩
def j5E(cs:List PV)(tot l:Int):Fr 13 [.ci [.bp 0 0]] cs tot l (.ret [.bp 0 0]) l:=by
 refine gR Tryz.func13 ?_;all_goals try conv=>whnf
 all_goals first|exact⟨rfl,rfl⟩|skip
 show VRet C1 _ 1 [.bp 0 0] [.box 104 [.cp cs,iv (tot-l),iv l]] _
 exact j1g (.inr ⟨rfl,rfl⟩) rfl rfl rfl ⟨rfl,rfl⟩
def jkF(cs:List PV)(tot l:Int):Fr 14 [.bp 0 0] cs tot l (.ret [iv (tot-l)]) l:=by
 refine gR Tryz.func14 ?_;repeat'(refine gU ?_)<;>conv=>whnf
 all_goals exact gJ
open Go Go.Am Go.Gw
def stB(cs:List PV)(tot l:Int)(cv v:PV)(o:SO):Sto:=[runB cs tot l,.box 28 [.ci [.bp 0 0]],.box 22 [cv],.box 25 v.cells,o]
def byA(cv:PV)(ts:List PV)(F:FuncId):List PV:=[.ci [.bp 0 0],cv,.sl true 5 ts,.fn F [] [.bp 1 0,.bp 2 0,.bp 3 0,.bp 4 0]]
def jhM(cs:List PV)(tot l:Int)(b:Bool)(z:Nat)(xs:List PV)(k1 n1:Int)(s1:List UInt8)(b1:Bool)(z1:Nat)(x1:List PV)(c1:Bool)(y1:Nat)(ys1:List PV)(hA:Pf C1 142 [.sl b z xs,.sl true 5 [.ag [iv k1,iv n1,sv s1,.sl b1 z1 x1,.sl c1 y1 ys1]]] [bv false]):Finds C1 87 (byA (.sl b z xs) [.ag [iv k1,iv n1,sv s1,.sl b1 z1 x1,.sl c1 y1 ys1]] 90) (stB cs tot l (.sl b z xs) (.ag [iv k1,iv n1,sv s1,.sl b1 z1 x1,.sl c1 y1 ys1]) (.box 25 zTm)) fun r st=>r=.ret [iv 10]∧st=stB cs tot l (.sl b z xs) (.ag [iv k1,iv n1,sv s1,.sl b1 z1 x1,.sl c1 y1 ys1]) (.box 25 zTm):=by
 refine j0S Tryz.func87 rfl rfl rfl ?_;repeat'(first|refine gX hA ?_|refine j0F (j2M 10) rfl rfl ?_)<;>conv=>whnf
 refine⟨_,_,_,_,_,_,rfl,rfl,rfl,rfl,?_⟩;repeat'(first|refine gU ?_|refine gX (j1D _) ?_)<;>conv=>whnf
 all_goals exact gJ
def jnh(cs:List PV)(tot l l' e:Int)(he:¬e=0)(b:Bool)(z:Nat)(xs:List PV)(k1 n1:Int)(s1:List UInt8)(b1:Bool)(z1:Nat)(x1:List PV)(c1:Bool)(y1:Nat)(ys1:List PV)(hA:Pf C1 142 [.sl b z xs,.sl true 5 [.ag [iv k1,iv n1,sv s1,.sl b1 z1 x1,.sl c1 y1 ys1]]] [bv true])
  (hc:Finds C1 90 [.bp 0 0,.bp 1 0,.bp 2 0,.bp 3 0] (stC cs tot l (.sl b z xs) (.ag [iv k1,iv n1,sv s1,.sl b1 z1 x1,.sl c1 y1 ys1]) (.box 25 zTm)) fun r st=>r=.pan (j0f e)∧st=stC cs tot l' (.sl b z xs) (.ag [iv k1,iv n1,sv s1,.sl b1 z1 x1,.sl c1 y1 ys1]) (.box 25 zTm)):Finds C1 87 (byA (.sl b z xs) [.ag [iv k1,iv n1,sv s1,.sl b1 z1 x1,.sl c1 y1 ys1]] 90) (stB cs tot l (.sl b z xs) (.ag [iv k1,iv n1,sv s1,.sl b1 z1 x1,.sl c1 y1 ys1]) (.box 25 zTm)) fun r st=>r=.ret [iv e]∧st=stB cs tot l' (.sl b z xs) (.ag [iv k1,iv n1,sv s1,.sl b1 z1 x1,.sl c1 y1 ys1]) (.box 25 zTm):=by
 refine j0S Tryz.func87 rfl rfl rfl ?_;repeat'(first|refine gX hA ?_|refine gX (j2w 10) ?_|refine ja6 hc rfl rfl rfl rfl rfl rfl rfl ?_)<;>conv=>whnf
 refine⟨_,_,_,_,_,_,rfl,rfl,rfl,rfl,?_⟩;repeat'(first|refine gU ?_|refine gX (j1D _) ?_)<;>conv=>whnf
 all_goals exact gJ
def jni(cs:List PV)(tot l l':Int)(k9 n9:Int)(s9:List UInt8)(b9:Bool)(z9:Nat)(x9:List PV)(c9:Bool)(y9:Nat)(ys9:List PV)(b:Bool)(z:Nat)(xs:List PV)(k1 n1:Int)(s1:List UInt8)(b1:Bool)(z1:Nat)(x1:List PV)(c1:Bool)(y1:Nat)(ys1:List PV)(hA:Pf C1 142 [.sl b z xs,.sl true 5 [.ag [iv k1,iv n1,sv s1,.sl b1 z1 x1,.sl c1 y1 ys1]]] [bv true])
  (hc:Finds C1 90 [.bp 0 0,.bp 1 0,.bp 2 0,.bp 3 0] (stC cs tot l (.sl b z xs) (.ag [iv k1,iv n1,sv s1,.sl b1 z1 x1,.sl c1 y1 ys1]) (.box 25 zTm)) fun r st=>r=.ret []∧st=stC cs tot l' (.sl b z xs) (.ag [iv k1,iv n1,sv s1,.sl b1 z1 x1,.sl c1 y1 ys1]) (.box 25 [iv k9,iv n9,sv s9,.sl b9 z9 x9,.sl c9 y9 ys9])):Finds C1 87 (byA (.sl b z xs) [.ag [iv k1,iv n1,sv s1,.sl b1 z1 x1,.sl c1 y1 ys1]] 90) (stB cs tot l (.sl b z xs) (.ag [iv k1,iv n1,sv s1,.sl b1 z1 x1,.sl c1 y1 ys1]) (.box 25 zTm)) fun r st=>r=.ret [iv 0]∧st=stB cs tot l' (.sl b z xs) (.ag [iv k1,iv n1,sv s1,.sl b1 z1 x1,.sl c1 y1 ys1]) (.box 25 [iv k9,iv n9,sv s9,.sl b9 z9 x9,.sl c9 y9 ys9]):=by
 refine j0S Tryz.func87 rfl rfl rfl ?_;repeat'(first|refine gU ?_|refine gX hA ?_|refine gX (j2w 10) ?_|refine ja6 hc rfl rfl rfl rfl rfl rfl rfl ?_)<;>conv=>whnf
 refine⟨_,_,_,_,_,_,rfl,rfl,rfl,rfl,?_⟩;repeat'(first|refine gU ?_|refine gX j5z ?_)<;>conv=>whnf
 all_goals exact gJ
def j9u(cs:List PV)(tot l l':Int)(b:Bool)(z:Nat)(xs:List PV)(k1 n1:Int)(s1:List UInt8)(b1:Bool)(z1:Nat)(x1:List PV)(c1:Bool)(y1:Nat)(ys1:List PV)(e:Int)(k9 n9:Int)(s9:List UInt8)(b9:Bool)(z9:Nat)(x9:List PV)(c9:Bool)(y9:Nat)(ys9:List PV)
  (hb:Finds C1 87 (byA (.sl b z xs) [.ag [iv k1,iv n1,sv s1,.sl b1 z1 x1,.sl c1 y1 ys1]] 90) (stB cs tot l (.sl b z xs) (.ag [iv k1,iv n1,sv s1,.sl b1 z1 x1,.sl c1 y1 ys1]) (.box 25 zTm)) fun r st=>r=.ret [iv e]∧st=stB cs tot l' (.sl b z xs) (.ag [iv k1,iv n1,sv s1,.sl b1 z1 x1,.sl c1 y1 ys1]) (.box 25 [iv k9,iv n9,sv s9,.sl b9 z9 x9,.sl c9 y9 ys9])) :
  Fr 44 [.ci [.bp 0 0],.sl b z xs,.ag [iv k1,iv n1,sv s1,.sl b1 z1 x1,.sl c1 y1 ys1]] cs tot l (.ret [.ag [iv k9,iv n9,sv s9,.sl b9 z9 x9,.sl c9 y9 ys9],iv e]) l':=by
 refine gR Tryz.func44 ?_;repeat'(first|refine gU ?_|refine ja6 hb rfl rfl rfl rfl rfl rfl rfl ?_)<;>conv=>whnf
 all_goals exact gJ
def jnw:∀(ctx:List Tm) (i:Int),ctxF ctx i=true→∀t∈ctx,shT t=true
 |[],_,_,_,h=>by cases h
 |a::r,i,h,t,ht=>by
  rw[ctxF,AB] at h;rcases AN.1 ht with rfl|ht
  ·exact j6W h.1
  ·exact jnw r _ h.2 t ht
def j5O{ctx ts:List Tm}(h:j1G ctx ts=true){b:Bool}(hz:z=5∨(xs=[]∧b=true∧z=0))(hA:TmsP ctx xs):CtxP ctx (.sl b z xs)∧∀t∈ts,shT t=true∧sizT t≤2000:=by
 unfold j1G at h;rw[AB,AB,decide_eq_true_iff] at h;refine⟨⟨b,z,xs,rfl,hz,hA,h.1,jnw ctx _ h.2.1⟩,fun t ht=>?_⟩
 have hr:=AF.1 h.2.2 t ht;exact⟨j6W hr,j3x (j3A hr).2.2.1⟩
def jnj(E:Nv)(cs:List PV)(hE:NvP E (.cp cs))(tot:Int)(ht:tot≤1048576)(n:Nat)(ctx:List Tm)(b:Bool)(z:Nat)(xs:List PV)(hz:z=5∨(xs=[]∧b=true∧z=0))(qA:TmsP ctx xs)(qB:ctx.length≤1759218604441)(t:Tm)(v:PV)(h:TmP t v)(l:Int)(r:Except Int Tm)(l':Int)(h0:0≤l)(h1:l≤tot)(hx:jbd E n ctx t l=some (r,l')):(∀x,r=.ok x→shT x=true∧sizT x≤2000∧TmW x)∧Fr 44 [.ci [.bp 0 0],.sl b z xs,v] cs tot l (.ret (errV r)) l':=by
 have gA:z=5∨xs=[]:=hz.imp_right fun q=>q.1
 have hA:=jbe ctx [t] b z xs gA qA true 5 [v] (.inl rfl) ⟨v,[],rfl,h,rfl⟩ qB (by simp)
 have hv:=h;cases h.c;unfold jbd at hx;rcases j0b hx with⟨e,q1,rfl⟩|⟨u0,la,q1,q2⟩
 ·obtain⟨rfl,d2⟩:=j1k q1;rcases d2 with⟨-,d2⟩|⟨d1,d2⟩
  ·cases d2
  ·cases d2;rw[d1] at hA;exact⟨fun x hx=>(by cases hx),j9u cs tot l' l' b z xs _ _ _ _ _ _ _ _ _ 10 _ _ _ _ _ _ _ _ _ (jhM cs tot l' b z xs _ _ _ _ _ _ _ _ _ hA)⟩
 obtain⟨rfl,d2⟩:=j1k q1;rcases d2 with⟨d1,-⟩|⟨-,d2⟩
 rotate_left
 ·cases d2
 rw[d1] at hA;obtain⟨hc,wA⟩:=j5O d1 hz qA;obtain⟨hs,hf⟩:=T_ok E cs hE tot ht n ctx _ hc t _ hv (wA t (BD.2 rfl)).1 la r l' h0 h1 q2;cases r with
 |error e=>
  have he:¬e=0:=fun e0=>by
   subst e0;exact(j1E n ctx t).nz _ _ q2
  exact⟨fun x hx=>(by cases hx),j9u cs tot la l' b z xs _ _ _ _ _ _ _ _ _ e _ _ _ _ _ _ _ _ _ (jnh cs tot la l' e he b z xs _ _ _ _ _ _ _ _ _ hA (jrA cs tot la l' e b z xs t _ hv hf))⟩
 |ok x=>
  obtain⟨w,hw,hf⟩:=hf;refine⟨fun y hy=>?_,?_⟩
  ·cases hy;exact⟨(hs x rfl).1,(hs x rfl).2,hw.w⟩
  ·have ho:=jrB cs tot la l' b z xs t _ hv x w hw hf;unfold errV;obtain⟨k9,n9,s9,b9,z9,x9,c9,y9,ys9,hB⟩:=j06 x;dsimp only;rw[hB] at ho⊢;exact j9u cs tot la l' b z xs _ _ _ _ _ _ _ _ _ 0 _ _ _ _ _ _ _ _ _ (jni cs tot la l' _ _ _ _ _ _ _ _ _ b z xs _ _ _ _ _ _ _ _ _ hA ho)
open Go Go.Am Go.Gw
def errB(o:Except Int Bool):List PV:=match o with
 | .ok x=>[bv x,iv 0]
 | .error e=>[bv false,iv e]
def errL(o:Except Int Lv):List PV:=match o with
 | .ok x=>[encL x,iv 0]
 | .error e=>[.ag zLv,iv e]
open Go Go.Am Go.Gw
def stC2(cs:List PV)(tot l:Int)(cv v w:PV)(o:SO):Sto:=[.box 28 [.ci [.bp 5 0]],.box 22 [cv],.box 25 v.cells,.box 25 w.cells,o,runB cs tot l]
def stB2(cs:List PV)(tot l:Int)(cv v w:PV)(o:SO):Sto:=[runB cs tot l,.box 28 [.ci [.bp 0 0]],.box 22 [cv],.box 25 v.cells,.box 25 w.cells,o]
def byA2(cv:PV)(ts:List PV)(F:FuncId):List PV:=[.ci [.bp 0 0],cv,.sl true 5 ts,.fn F [] [.bp 1 0,.bp 2 0,.bp 3 0,.bp 4 0,.bp 5 0]]
def jro(cs:List PV)(tot l l' e:Int)(b:Bool)(z:Nat)(xs:List PV)(t:Tm)(v:PV)(h:TmP t v)(t2:Tm)(v2:PV)(h2:TmP t2 v2)(hf:Fr 89 [.ci [.bp 0 0],.sl b z xs,v,v2] cs tot l (.pan (j0f e)) l'):Finds C1 88 [.bp 0 0,.bp 1 0,.bp 2 0,.bp 3 0,.bp 4 0] (stC2 cs tot l (.sl b z xs) v v2 (.box 4 [bv false])) fun r st=>r=.pan (j0f e)∧st=stC2 cs tot l' (.sl b z xs) v v2 (.box 4 [bv false]):=by
 cases h.c;cases h2.c;refine gR Tryz.func88 ?_;repeat'(first|refine j1B (i:=5) hf rfl rfl rfl rfl rfl rfl rfl ?_)<;>conv=>whnf
 all_goals exact gJ
def jrp(cs:List PV)(tot l l':Int)(b:Bool)(z:Nat)(xs:List PV)(t:Tm)(v:PV)(h:TmP t v)(t2:Tm)(v2:PV)(h2:TmP t2 v2)(q:Bool)(hf:Fr 89 [.ci [.bp 0 0],.sl b z xs,v,v2] cs tot l (.ret [bv q]) l'):Finds C1 88 [.bp 0 0,.bp 1 0,.bp 2 0,.bp 3 0,.bp 4 0] (stC2 cs tot l (.sl b z xs) v v2 (.box 4 [bv false])) fun r st=>r=.ret []∧st=stC2 cs tot l' (.sl b z xs) v v2 (.box 4 [bv q]):=by
 cases h.c;cases h2.c;refine gR Tryz.func88 ?_;repeat'(first|refine gU ?_|refine j1B (i:=5) hf rfl rfl rfl rfl rfl rfl rfl ?_)<;>conv=>whnf
 all_goals exact gJ
def jhL(cs:List PV)(tot l:Int)(b:Bool)(z:Nat)(xs:List PV)(k1 n1:Int)(s1:List UInt8)(b1:Bool)(z1:Nat)(x1:List PV)(c1:Bool)(y1:Nat)(ys1:List PV)(k2 n2:Int)(s2:List UInt8)(b2:Bool)(z2:Nat)(x2:List PV)(c2:Bool)(y2:Nat)(ys2:List PV)(hA:Pf C1 142 [.sl b z xs,.sl true 5 [.ag [iv k1,iv n1,sv s1,.sl b1 z1 x1,.sl c1 y1 ys1],.ag [iv k2,iv n2,sv s2,.sl b2 z2 x2,.sl c2 y2 ys2]]] [bv false]):Finds C1 87 (byA2 (.sl b z xs) [.ag [iv k1,iv n1,sv s1,.sl b1 z1 x1,.sl c1 y1 ys1],.ag [iv k2,iv n2,sv s2,.sl b2 z2 x2,.sl c2 y2 ys2]] 88) (stB2 cs tot l (.sl b z xs) (.ag [iv k1,iv n1,sv s1,.sl b1 z1 x1,.sl c1 y1 ys1]) (.ag [iv k2,iv n2,sv s2,.sl b2 z2 x2,.sl c2 y2 ys2]) (.box 4 [bv false])) fun r st=>r=.ret [iv 10]∧st=stB2 cs tot l (.sl b z xs) (.ag [iv k1,iv n1,sv s1,.sl b1 z1 x1,.sl c1 y1 ys1]) (.ag [iv k2,iv n2,sv s2,.sl b2 z2 x2,.sl c2 y2 ys2]) (.box 4 [bv false]):=by
 refine j0S Tryz.func87 rfl rfl rfl ?_;repeat'(first|refine gX hA ?_|refine j0F (j2M 10) rfl rfl ?_)<;>conv=>whnf
 refine⟨_,_,_,_,_,_,rfl,rfl,rfl,rfl,?_⟩;repeat'(first|refine gU ?_|refine gX (j1D _) ?_)<;>conv=>whnf
 all_goals exact gJ
def jnf(cs:List PV)(tot l l' e:Int)(he:¬e=0)(b:Bool)(z:Nat)(xs:List PV)(k1 n1:Int)(s1:List UInt8)(b1:Bool)(z1:Nat)(x1:List PV)(c1:Bool)(y1:Nat)(ys1:List PV)(k2 n2:Int)(s2:List UInt8)(b2:Bool)(z2:Nat)(x2:List PV)(c2:Bool)(y2:Nat)(ys2:List PV)(hA:Pf C1 142 [.sl b z xs,.sl true 5 [.ag [iv k1,iv n1,sv s1,.sl b1 z1 x1,.sl c1 y1 ys1],.ag [iv k2,iv n2,sv s2,.sl b2 z2 x2,.sl c2 y2 ys2]]] [bv true])
  (hc:Finds C1 88 [.bp 0 0,.bp 1 0,.bp 2 0,.bp 3 0,.bp 4 0] (stC2 cs tot l (.sl b z xs) (.ag [iv k1,iv n1,sv s1,.sl b1 z1 x1,.sl c1 y1 ys1]) (.ag [iv k2,iv n2,sv s2,.sl b2 z2 x2,.sl c2 y2 ys2]) (.box 4 [bv false])) fun r st=>r=.pan (j0f e)∧st=stC2 cs tot l' (.sl b z xs) (.ag [iv k1,iv n1,sv s1,.sl b1 z1 x1,.sl c1 y1 ys1]) (.ag [iv k2,iv n2,sv s2,.sl b2 z2 x2,.sl c2 y2 ys2]) (.box 4 [bv false])):Finds C1 87 (byA2 (.sl b z xs) [.ag [iv k1,iv n1,sv s1,.sl b1 z1 x1,.sl c1 y1 ys1],.ag [iv k2,iv n2,sv s2,.sl b2 z2 x2,.sl c2 y2 ys2]] 88) (stB2 cs tot l (.sl b z xs) (.ag [iv k1,iv n1,sv s1,.sl b1 z1 x1,.sl c1 y1 ys1]) (.ag [iv k2,iv n2,sv s2,.sl b2 z2 x2,.sl c2 y2 ys2]) (.box 4 [bv false])) fun r st=>r=.ret [iv e]∧st=stB2 cs tot l' (.sl b z xs) (.ag [iv k1,iv n1,sv s1,.sl b1 z1 x1,.sl c1 y1 ys1]) (.ag [iv k2,iv n2,sv s2,.sl b2 z2 x2,.sl c2 y2 ys2]) (.box 4 [bv false]):=by
 refine j0S Tryz.func87 rfl rfl rfl ?_;repeat'(first|refine gX hA ?_|refine gX (j2w 10) ?_|refine ja6 hc rfl rfl rfl rfl rfl rfl rfl ?_)<;>conv=>whnf
 refine⟨_,_,_,_,_,_,rfl,rfl,rfl,rfl,?_⟩;repeat'(first|refine gU ?_|refine gX (j1D _) ?_)<;>conv=>whnf
 all_goals exact gJ
def jng(cs:List PV)(tot l l':Int)(q:Bool)(b:Bool)(z:Nat)(xs:List PV)(k1 n1:Int)(s1:List UInt8)(b1:Bool)(z1:Nat)(x1:List PV)(c1:Bool)(y1:Nat)(ys1:List PV)(k2 n2:Int)(s2:List UInt8)(b2:Bool)(z2:Nat)(x2:List PV)(c2:Bool)(y2:Nat)(ys2:List PV)(hA:Pf C1 142 [.sl b z xs,.sl true 5 [.ag [iv k1,iv n1,sv s1,.sl b1 z1 x1,.sl c1 y1 ys1],.ag [iv k2,iv n2,sv s2,.sl b2 z2 x2,.sl c2 y2 ys2]]] [bv true])
  (hc:Finds C1 88 [.bp 0 0,.bp 1 0,.bp 2 0,.bp 3 0,.bp 4 0] (stC2 cs tot l (.sl b z xs) (.ag [iv k1,iv n1,sv s1,.sl b1 z1 x1,.sl c1 y1 ys1]) (.ag [iv k2,iv n2,sv s2,.sl b2 z2 x2,.sl c2 y2 ys2]) (.box 4 [bv false])) fun r st=>r=.ret []∧st=stC2 cs tot l' (.sl b z xs) (.ag [iv k1,iv n1,sv s1,.sl b1 z1 x1,.sl c1 y1 ys1]) (.ag [iv k2,iv n2,sv s2,.sl b2 z2 x2,.sl c2 y2 ys2]) (.box 4 [bv q])):Finds C1 87 (byA2 (.sl b z xs) [.ag [iv k1,iv n1,sv s1,.sl b1 z1 x1,.sl c1 y1 ys1],.ag [iv k2,iv n2,sv s2,.sl b2 z2 x2,.sl c2 y2 ys2]] 88) (stB2 cs tot l (.sl b z xs) (.ag [iv k1,iv n1,sv s1,.sl b1 z1 x1,.sl c1 y1 ys1]) (.ag [iv k2,iv n2,sv s2,.sl b2 z2 x2,.sl c2 y2 ys2]) (.box 4 [bv false])) fun r st=>r=.ret [iv 0]∧st=stB2 cs tot l' (.sl b z xs) (.ag [iv k1,iv n1,sv s1,.sl b1 z1 x1,.sl c1 y1 ys1]) (.ag [iv k2,iv n2,sv s2,.sl b2 z2 x2,.sl c2 y2 ys2]) (.box 4 [bv q]):=by
 refine j0S Tryz.func87 rfl rfl rfl ?_;repeat'(first|refine gU ?_|refine gX hA ?_|refine gX (j2w 10) ?_|refine ja6 hc rfl rfl rfl rfl rfl rfl rfl ?_)<;>conv=>whnf
 refine⟨_,_,_,_,_,_,rfl,rfl,rfl,rfl,?_⟩;repeat'(first|refine gU ?_|refine gX j5z ?_)<;>conv=>whnf
 all_goals exact gJ
def j9t(cs:List PV)(tot l l':Int)(b:Bool)(z:Nat)(xs:List PV)(k1 n1:Int)(s1:List UInt8)(b1:Bool)(z1:Nat)(x1:List PV)(c1:Bool)(y1:Nat)(ys1:List PV)(k2 n2:Int)(s2:List UInt8)(b2:Bool)(z2:Nat)(x2:List PV)(c2:Bool)(y2:Nat)(ys2:List PV)(e:Int)(q:Bool)
  (hb:Finds C1 87 (byA2 (.sl b z xs) [.ag [iv k1,iv n1,sv s1,.sl b1 z1 x1,.sl c1 y1 ys1],.ag [iv k2,iv n2,sv s2,.sl b2 z2 x2,.sl c2 y2 ys2]] 88) (stB2 cs tot l (.sl b z xs) (.ag [iv k1,iv n1,sv s1,.sl b1 z1 x1,.sl c1 y1 ys1]) (.ag [iv k2,iv n2,sv s2,.sl b2 z2 x2,.sl c2 y2 ys2]) (.box 4 [bv false])) fun r st=>r=.ret [iv e]∧st=stB2 cs tot l' (.sl b z xs) (.ag [iv k1,iv n1,sv s1,.sl b1 z1 x1,.sl c1 y1 ys1]) (.ag [iv k2,iv n2,sv s2,.sl b2 z2 x2,.sl c2 y2 ys2]) (.box 4 [bv q])) :
  Fr 42 [.ci [.bp 0 0],.sl b z xs,.ag [iv k1,iv n1,sv s1,.sl b1 z1 x1,.sl c1 y1 ys1],.ag [iv k2,iv n2,sv s2,.sl b2 z2 x2,.sl c2 y2 ys2]] cs tot l (.ret [bv q,iv e]) l':=by
 refine gR Tryz.func42 ?_;repeat'(first|refine gU ?_|refine ja6 hb rfl rfl rfl rfl rfl rfl rfl ?_)<;>conv=>whnf
 all_goals exact gJ
def j8w(E:Nv)(cs:List PV)(hE:NvP E (.cp cs))(tot:Int)(ht:tot≤1048576)(n:Nat)(ctx:List Tm)(b:Bool)(z:Nat)(xs:List PV)(hz:z=5∨(xs=[]∧b=true∧z=0))(qA:TmsP ctx xs)(hB:ctx.length≤1759218604441)(t:Tm)(v:PV)(h:TmP t v)(u:Tm)(w:PV)(hu:TmP u w)(l:Int)(r:Except Int Bool)(l':Int)(h0:0≤l)(h1:l≤tot)(hx:j8v E n ctx t u l=some (r,l')):Fr 42 [.ci [.bp 0 0],.sl b z xs,v,w] cs tot l (.ret (errB r)) l':=by
 have wA:z=5∨xs=[]:=hz.imp_right fun q=>q.1
 have hA:=jbe ctx [t,u] b z xs wA qA true 5 [v,w] (.inl rfl) ⟨v,[w],rfl,h,w,[],rfl,hu,rfl⟩ hB (by simp)
 have hv:=h;have hw:=hu;cases h.c;cases hu.c;unfold j8v at hx;rcases j0b hx with⟨e,q1,rfl⟩|⟨u0,la,q1,q2⟩
 ·obtain⟨rfl,d2⟩:=j1k q1;rcases d2 with⟨-,d2⟩|⟨d1,d2⟩
  ·cases d2
  ·cases d2;rw[d1] at hA;exact j9t cs tot l' l' b z xs _ _ _ _ _ _ _ _ _ _ _ _ _ _ _ _ _ _ 10 _ (jhL cs tot l' b z xs _ _ _ _ _ _ _ _ _ _ _ _ _ _ _ _ _ _ hA)
 obtain⟨rfl,d2⟩:=j1k q1;rcases d2 with⟨d1,-⟩|⟨-,d2⟩
 rotate_left
 ·cases d2
 rw[d1] at hA;obtain⟨hc,gA⟩:=j5O d1 hz qA;obtain⟨i1,i2⟩:=gA t (by simp)
 obtain⟨j1,j2⟩:=gA u (by simp)
 have hf:=S_ok E cs hE tot ht n ctx _ hc t _ hv i1 i2 u _ hw j1 j2 la r l' h0 h1 q2;cases r with
 |error e=>
  have hf:Fr _ _ _ _ _ (.pan (j0f e)) l':=hf;have he:¬e=0:=fun e0=>by
   subst e0;exact(j3s n ctx t u).nz _ _ q2
  exact j9t cs tot la l' b z xs _ _ _ _ _ _ _ _ _ _ _ _ _ _ _ _ _ _ e _ (jnf cs tot la l' e he b z xs _ _ _ _ _ _ _ _ _ _ _ _ _ _ _ _ _ _ hA (jro cs tot la l' e b z xs t _ hv u _ hw hf))
 |ok q=>
  have hf:Fr _ _ _ _ _ (.ret [bv q]) l':=hf;exact j9t cs tot la l' b z xs _ _ _ _ _ _ _ _ _ _ _ _ _ _ _ _ _ _ 0 _ (jng cs tot la l' q b z xs _ _ _ _ _ _ _ _ _ _ _ _ _ _ _ _ _ _ hA (jrp cs tot la l' b z xs t _ hv u _ hw q hf))
open Go Go.Am Go.Gw
mutual
def okLv:Lv→PV→Bool
 | .mk k n ls,.ag [.sc (.int .i64 a),.sc (.int .i64 b),.sl _ z xs]=>decide (a=k)&&(decide (b=n)&&((Nat.beq z 3||xs.isEmpty)&&jix ls xs))
 |_,_=>false
def jix:List Lv→List PV→Bool
 |[],[]=>true
 |l::r,x::xs=>okLv l x&&jix r xs
 |_,_=>false
end
mutual
def okTm:Tm→PV→Bool
 | .mk k n s ls ts,.ag [.sc (.int .i64 a),.sc (.int .i64 b),.sc (.string u),.sl _ z xs,.sl _ y ys]=>decide (a=k)&&(decide (b=n)&&(decide (u.data.toList=s)&&((Nat.beq z 3||xs.isEmpty)&&(jix ls xs&&((Nat.beq y 5||ys.isEmpty)&&jlT ts ys)))))
 |_,_=>false
def jlT:List Tm→List PV→Bool
 |[],[]=>true
 |l::r,x::xs=>okTm l x&&jlT r xs
 |_,_=>false
end
mutual
def smLv:Lv→Bool
 | .mk _ _ ls=>Nat.ble ls.length 1000&&jpt ls
def jpt:List Lv→Bool
 |[]=>true
 |l::r=>smLv l&&jpt r
end
mutual
def smTm:Tm→Bool
 | .mk _ n s ls ts=>decide (-1000000≤n∧n≤1000000)&&(Nat.ble s.length 1000&&(Nat.ble ls.length 1000&&(jpt ls&&(Nat.ble ts.length 1000&&jru ts))))
def jru:List Tm→Bool
 |[]=>true
 |l::r=>smTm l&&jru r
end
def emp(h:(Nat.beq z n||xs.isEmpty)=true):z=n∨xs=[]:=by
 rw[CK] at h;rcases h with h|h
 ·exact .inl (AH h)
 ·exact .inr (by simpa using h)
mutual
theorem jtr:∀{l:Lv}{v:PV},okLv l v=true→smLv l=true→LvP l v
 | .mk k n ls,v,h,hs=>by
  unfold okLv at h;split at h
  ·rename_i a b f z xs hA;cases hA;simp only[AB,decide_eq_true_eq] at h;obtain⟨rfl,rfl,h1,h2⟩:=h;simp only[smLv,AB] at hs;simp only[LvP];exact⟨_,_,_,rfl,emp h1,jeW h2 hs.2,BL (AM hs.1) (by omega)⟩
  ·cases h
theorem jeW:∀{ls:List Lv}{xs:List PV},jix ls xs=true→jpt ls=true→LvsP ls xs
 |[],[],_,_=>by simp only[LvsP]
 |[],_::_,h,_=>by simp[jix] at h
 |_::_,[],h,_=>by simp[jix] at h
 |l::r,x::xs,h,hs=>by
  simp only[jix,AB] at h;simp only[jpt,AB] at hs;simp only[LvsP];exact⟨_,_,rfl,jtr h.1 hs.1,jeW h.2 hs.2⟩
end
mutual
theorem jeX:∀{t:Tm}{v:PV},okTm t v=true→smTm t=true→TmP t v
 | .mk k n s ls ts,v,h,hs=>by
  unfold okTm at h;split at h
  ·rename_i a b u f z xs f2 y ys hA;cases hA;simp only[AB,decide_eq_true_eq] at h;obtain⟨rfl,rfl,rfl,h1,h2,h3,h4⟩:=h;simp only[smTm,AB,decide_eq_true_eq] at hs;obtain⟨s1,s2,s3,s4,s5,s6⟩:=hs;simp only[TmP];refine⟨f,z,xs,f2,y,ys,?_,emp h1,jeW h2 s4,BL (AM s3) (by omega),emp h3,jkd h4 s6,BL (AM s5) (by omega),BL (AM s2) (by omega),by unfold i64;omega⟩
   rw[jcf u]
  ·cases h
theorem jkd:∀{ls:List Tm}{xs:List PV},jlT ls xs=true→jru ls=true→TmsP ls xs
 |[],[],_,_=>by simp only[TmsP]
 |[],_::_,h,_=>by simp[jlT] at h
 |_::_,[],h,_=>by simp[jlT] at h
 |l::r,x::xs,h,hs=>by
  simp only[jlT,AB] at h;simp only[jru,AB] at hs;simp only[TmsP];exact⟨_,_,rfl,jeX h.1 hs.1,jkd h.2 hs.2⟩
end
def isTm(t:Tm)(r:Option (AEnd×Sto)):Bool:=match r with
 |some (.ret [v],_)=>okTm t v&&smTm t
 |_=>false
def j4l{t:Tm}(h:isTm t ((ev C1 n).call f args [])=true):∃v,TmP t v∧Pf C1 f args [v]:=by
 unfold isTm at h;split at h
 ·rename_i v st hc;rw[AB] at h;exact⟨v,jeX h.1 h.2,jp4 n hc⟩
 ·cases h
def isTx(s:List UInt8)(r:Option (AEnd×Sto)):Bool:=match r with
 |some (.ret [.sc (.string u)],_)=>decide (u.data.toList=s)
 |_=>false
def vr(n:Int):Tm:=.mk 1 n [] [] []
def ap(a b:Tm):Tm:=.mk 4 0 [] [] [a,b]
def pi_(a b:Tm):Tm:=.mk 6 0 [] [] [a,b]
def cq(s:List UInt8):Tm:=.mk 3 0 s [] []
def okSs:List (List UInt8)→List PV→Bool
 |[],[]=>true
 |s::r,.sc (.string u)::xs=>decide (u.data.toList=s)&&okSs r xs
 |_,_=>false
def jp0:∀{l:List (List UInt8)}{xs:List PV},okSs l xs=true→xs=svs l
 |[],[],_=>rfl
 |[],_::_,h=>by simp[okSs] at h
 |s::r,xs,h=>by
  unfold okSs at h;split at h
  ·rename_i hA;cases hA
  ·rename_i s' r' u xs' e1;cases e1;rw[AB,decide_eq_true_eq] at h;obtain⟨h1,h2⟩:=h;have h3:=jp0 h2;subst h3 h1;show PV.sc (.string u)::svs r=sv u.data.toList::svs r
   rw[jcf u]
  ·cases h
def smEn(e:En):Bool:=smTm e.ty&&(smTm e.val&&(Nat.ble e.nm.length 1000&&(Nat.ble e.fam.length 1000&&(Nat.ble e.ctors.length 1000&&e.ctors.all fun s=>Nat.ble s.length 1000))))
def okEn(e:En):PV→Bool
 | .ag [.sc (.int .i64 a),.sc (.int .i64 p),.sc (.string u),t1,t2,t3,t4,t5,v1,v2,v3,v4,v5,.sc (.int .i64 hh),.sc (.string fa),.sc (.int .i64 fx),.sc (.int .i64 ix),.sc (.int .i64 fl),.sl b z cs]=>decide (a=e.kind∧p=e.pars∧u.data.toList=e.nm∧hh=e.ht∧fa.data.toList=e.fam∧fx=e.fixd∧ix=e.idx∧fl=e.flds)&&(okTm e.ty (.ag [t1,t2,t3,t4,t5])&&(okTm e.val (.ag [v1,v2,v3,v4,v5])&&(okSs e.ctors cs&&((Nat.beq z 1 && !e.ctors.isEmpty)||(e.ctors.isEmpty&&(b&&Nat.beq z 0))))))
 |_=>false
def jtq(h:okEn e v=true)(hs:smEn e=true):EnP e v:=by
 unfold okEn at h;split at h
 ·rename_i a p u t1 t2 t3 t4 t5 v1 v2 v3 v4 v5 hh fa fx ix fl b z cs;simp only[AB,decide_eq_true_eq] at h;obtain⟨⟨rfl,rfl,h3,rfl,h5,rfl,rfl,rfl⟩,ht,hv,hc,hz⟩:=h;simp only[smEn,AB] at hs;obtain⟨s1,s2,s3,s4,s5,s6⟩:=hs;have ht:=jeX ht s1;have hv:=jeX hv s2;have qA:=ht;have hA:=hv;obtain⟨k1,n1,q1,l1,r1,b1,z1,x1,c1,y1,ys1,-,e1,-⟩:=qA.open;obtain⟨k2,n2,q2,l2,r2,b2,z2,x2,c2,y2,ys2,-,e2,-⟩:=hA.open;cases e1;cases e2;have hc:=jp0 hc;subst hc;refine⟨k1,n1,q1,b1,z1,x1,c1,y1,ys1,k2,n2,q2,b2,z2,x2,c2,y2,ys2,b,z,?_,ht,hv,?_,BL (AM s3) (by omega),BL (AM s4) (by omega),BL (AM s5) (by omega),fun s hs=>BL (AM (AF.1 s6 s hs)) (by omega)⟩
  ·rw[←h3,←h5,jcf u,jcf fa]
  ·rw[CK] at hz;simp only[AB] at hz;rcases hz with⟨a1,a2⟩|⟨a1,a2,a3⟩
   ·exact .inl ⟨AH a1,by simpa using a2⟩
   ·exact .inr ⟨by simpa using a1,a2,AH a3⟩
 ·cases h
def jlS:List En→List PV→Bool
 |[],[]=>true
 |e::r,x::xs=>(okEn e x&&smEn e)&&jlS r xs
 |_,_=>false
def jkc:∀{es:List En}{xs:List PV},jlS es xs=true→EnsP es xs
 |[],[],_=>rfl
 |[],_::_,h=>by simp[jlS] at h
 |_::_,[],h=>by simp[jlS] at h
 |e::r,x::xs,h=>by
  simp only[jlS,AB] at h;exact⟨_,_,rfl,jtq h.1.1 h.1.2,jkc h.2⟩
def jte(es:List En)(r:Option (AEnd×Sto)):Bool:=match r with
 |some (.ret [.ms 0 n],[.row false T 19 xs])=>Nat.beq n es.length&&(Nat.beq T 51&&jlS es xs)
 |_=>false
def jqD{es:List En}(h:jte es ((ev C1 n).call f [] [])=true):∃xs,EnsP es xs∧Finds C1 f [] [] fun r st=>r=.ret [.ms 0 es.length]∧st=[.row false 51 19 xs]:=by
 unfold jte at h;split at h
 ·rename_i m T xs hc;rw[AB,AB] at h;have e1:=AH h.1;have e2:=AH h.2.1;subst e1 e2;exact⟨xs,jkc h.2.2,jev n hc ⟨rfl,rfl⟩⟩
 ·cases h
def so_(l:Lv):Tm:=.mk 2 0 [] [l] []
def la_(a b:Tm):Tm:=.mk 5 0 [] [] [a,b]
def cl_(s:List UInt8)(l:Lv):Tm:=.mk 3 0 s [l] []
def lu:Lv:=.mk 2 0 []
def l1:Lv:=.mk 1 1 []
def l0:Lv:=.mk 1 0 []
def nNat:List UInt8:=[110,97,116]
def j6O:List UInt8:=[110,97,116,46,122,101,114,111]
def j8b:List UInt8:=[110,97,116,46,115,117,99,99]
def nRec:List UInt8:=[110,97,116,46,114,101,99]
def nAdd:List UInt8:=[97,100,100]
def nMul:List UInt8:=[109,117,108]
def tNat:Tm:=cq nNat
def jsB:Tm:=ap (ap (ap (ap (cl_ nRec lu) (vr 3)) (vr 2)) (vr 1)) (vr 0)
def jsr:Tm:=la_ tNat (la_ tNat (la_ tNat (vr 1)))
def jsl:Tm:=la_ tNat (la_ tNat (la_ tNat (la_ tNat (ap (ap (vr 1) (vr 0)) jsB))))
def jk8:Tm:=la_ tNat tNat
def juq:Tm:=la_ tNat (la_ tNat (ap (cq j8b) (vr 0)))
def jtS:Tm:=la_ tNat (la_ tNat (ap (ap (ap (ap (cl_ nRec l1) jk8) (vr 1)) juq) (vr 0)))
def jun:Tm:=la_ tNat (la_ tNat (ap (ap (cq nAdd) (vr 0)) (vr 3)))
def juo:Tm:=la_ tNat (la_ tNat (ap (ap (ap (ap (cl_ nRec l1) jk8) (cq j6O)) jun) (vr 0)))
def juk:List En:=[⟨5,0,nNat,so_ l1,tz,0,[],0,0,0,[j6O,j8b]⟩,⟨6,0,j6O,tNat,jsr,0,nNat,0,0,0,[]⟩,⟨6,0,j8b,pi_ tNat tNat,jsl,0,nNat,0,1,1,[]⟩,⟨7,1,nRec,so_ lu,tz,0,nNat,0,0,0,[j6O,j8b]⟩,⟨2,0,nAdd,so_ l1,jtS,1,[],0,0,0,[]⟩,⟨2,0,nMul,so_ l1,juo,2,[],0,0,0,[]⟩,⟨1,0,[107],tNat,tz,0,[],0,0,0,[]⟩]
def jqM:jte juk ((ev C1 60).call 82 [] [])=true:=by kernel_rfl
def joE:∃xs,EnsP juk xs∧Finds C1 82 [] [] fun r st=>r=.ret [.ms 0 7]∧st=[.row false 51 19 xs]:=jqD jqM
