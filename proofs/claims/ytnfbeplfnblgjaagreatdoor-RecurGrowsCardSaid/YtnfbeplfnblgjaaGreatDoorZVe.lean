/- What tele.Apply answers, and a word for it. -/
import Derived.Test.YtnfbeplfnblgjaaGreatDoorZUk
set_option linter.all false
set_option maxHeartbeats 30000000
set_option maxRecDepth 100000
namespace Go.Proofs.YtnfbeplfnblgjaaGreatDoor
open Go Go.Am Go.Gw
def j2M(x:List UInt8×Tm):PV:=.ag (sv x.1::(encT x.2).cells)
def jdk(l:List (List UInt8×Tm)):PV:=match l with
 |[]=>.sl true 0 []
 |x::r=>.sl false 6 ((x::r).map j2M)
def jaI(o:Option (List (List UInt8×Tm)×Tm)):List PV:=match o with
 |some (l,b)=>[jdk l,encT b,bv true]
 |none=>[.sl true 0 [],encT tz,bv false]
theorem j8n{kind:Int}:∀{n:Nat}{t:Tm}{ss:List Tm}{body:Tm},TmW t→j1b kind n t=some (ss,body)→ss.length=n∧(∀s∈ss,TmW s)∧TmW body
 |0,t,ss,body,hw,h=>by
  simp only[j1b,Option.some.injEq,Prod.mk.injEq] at h;obtain⟨rfl,rfl⟩:=h;exact⟨rfl,by simp,hw⟩
 |n+1,.mk k nn s ls ts,ss,body,hw,h=>by
  unfold j1b at h;split at h
  ·rename_i a b;split at h
   ·have hwa:=hw.args.1;cases hb:j1b kind n b with
    |none=>rw[hb] at h;cases h
    |some r=>
     obtain⟨r1,r2⟩:=r;rw[hb] at h;simp only[Option.map_some,Option.some.injEq,Prod.mk.injEq] at h;obtain⟨rfl,rfl⟩:=h;obtain⟨h1,h2,h3⟩:=j8n (hwa b (by simp)) hb
     refine⟨by simp[h1],fun x hx=>?_,h3⟩
     rcases List.mem_cons.1 hx with rfl|hx
     ·exact hwa _ (by simp)
     ·exact h2 x hx
   ·cases h
  ·cases h
variable{s:List UInt8}{v:PV}{t x:Tm}
theorem j7t{kind n:Int}{ss:List Tm}{body:Tm}(hw:TmW t)(h:j1m t kind n=some (ss,body)):(ss.length:Int)=n∧(∀s∈ss,TmW s)∧TmW body:=by
 unfold j1m at h;split at h
 ·rename_i hc;simp only[Bool.and_eq_true,decide_eq_true_eq] at hc;obtain⟨h1,h2⟩:=j8n hw h;exact⟨by omega,h2⟩
 ·cases h
theorem j9j{us:List Tm}(hw:TmW t)(hu:∀u∈us,TmW u)(h:InstF t us=some x):TmW x:=by
 unfold InstF at h;split at h
 ·rename_i hc;obtain⟨h1,h2,h3⟩:=hc;have:=j1P h1;exact j5s (j7W hu (List.all_eq_true.1 h3) h2) hw (j0v h1).2 (by omega) (by omega) this h
 ·cases h
theorem cn_w(h:s.length≤140737488355328):TmW (cn s):=by
 unfold TmW cn;rw[j1r];simp only[TmP,TmsP,LvsP,j2N,j2g];exact⟨_,_,_,_,_,_,rfl,.inr rfl,rfl,by simp,.inr rfl,rfl,by simp,h,by unfold i64;omega⟩
theorem j7N{ts:List Tm}(h:∀t∈ts,TmW t):∃b z xs,j2g ts=.sl b z xs∧(z=5∨xs=[])∧TmsP ts xs:=by
 cases ts with
 |nil=>exact⟨_,_,_,rfl,.inr rfl,by simp only[TmsP]⟩
 |cons t r=>exact⟨_,_,_,rfl,.inl rfl,by rw[j5i];exact j3F h⟩
def LoW(x:List UInt8×Tm):Prop:=TmW x.2∧x.1.length≤140737488355328
theorem jdx{x:List UInt8×Tm}(h:LoW x):LoP x (j2M x):=by
 obtain⟨k,n,s,b,z,xs,c,y,ys,he⟩:=j04 x.2;refine⟨_,rfl,?_,h.2⟩;have:=h.1;unfold TmW at this;rw[he] at this⊢;exact this
theorem jat:∀{l:List (List UInt8×Tm)},(∀x∈l,LoW x)→LosP l (l.map j2M)
 |[],_=>by simp only[List.map_nil,LosP]
 |x::r,h=>by
  simp only[List.map_cons,LosP];exact⟨_,_,rfl,jdx (h x (by simp)),jat fun y hy=>h y (by simp[hy])⟩
theorem j8K(x:List UInt8×Tm)(n:Nat):pur (n+2) (j2M x)=true:=by
 obtain⟨k,nn,s,b,z,xs,c,y,ys,he⟩:=j04 x.2;unfold j2M;rw[he];rfl
theorem j0I(l:List (List UInt8×Tm))(n:Nat):(l.map j2M).all (pur (n+2))=true:=by
 rw[List.all_eq_true]
 intro x hx;obtain⟨l,_,rfl⟩:=List.mem_map.1 hx;exact j8K l n
theorem jb5(t:Tm)(v:PV)(hT:TmP t v)(kind:Int)(ns:List (List UInt8))(nb:Bool)(nz:Nat)(hnz:nz=1∨ns=[])(hnl:ns.length≤2000)(hns:∀s∈ns,s.length≤140737488355328):Pf C1 147 [v,iv kind,.sl nb nz (svs ns)] (jaI (j8r t kind ns)):=by
 have hsp:=j5R t v hT kind ((svs ns).length:Nat);have hof:j8r t kind ns=match j1m t kind ns.length with
  |none=>none
  |some (ss,body)=>match opT [] ss ns with
   |none=>none
   |some l=>match InstF body (l.map fun x=>cn x.1) with
    |none=>none
    |some b=>some (l,b):=rfl
 have hll:((svs ns).length:Int)=ns.length:=by simp
 rw[hll] at hsp;obtain⟨k0,nn0,s0,ls0,ts0,b0,z0,xs0,c0,y0,ys0,rfl,rfl,-⟩:=hT.open;refine run_intro Tryz.func147 rfl rfl rfl ?_;cases hs:j1m (.mk k0 nn0 s0 ls0 ts0) kind ns.length with
 |none=>
  rw[hs] at hsp hof;simp only[splitV] at hsp;rw[hof];rw[←hll] at hsp;repeat'(first|refine gU ?_|apply gE<;>intro h|apply gM<;>intro h|refine gX hsp ?_|apply gK)<;>conv=>whnf
  rfl
 |some p=>
  obtain⟨ss,body⟩:=p;rw[hs] at hsp hof;simp only[splitV] at hsp;simp only at hof;rw[←hll] at hsp;obtain⟨hlen,hssw,hbw⟩:=j7t hT.w hs;obtain⟨k9,n9,s9,b9,z9,x9,c9,y9,ys9,he9⟩:=j04 body;obtain⟨c8,z8,x8,he8,hz8,hx8⟩:=j7N hssw;have hxl:=hx8.len;rw[he8,he9] at hsp;repeat'(first|refine gU ?_|apply gE<;>intro h|apply gM<;>intro h|refine gX hsp ?_|apply gK)<;>conv=>whnf
  refine loop_over (G:=List (List UInt8×Tm)×Bool) (fun g=>[(31,iv g.1.length),(12,match g.1 with
    |[]=>.sl true 0 []
    |_::r=>.ms 5 (r.length+1))]) (fun g=>match g.1 with
    |[]=>[.box 25 [iv k0,iv nn0,sv s0,.sl b0 z0 xs0,.sl c0 y0 ys0],.box 25 zTm,.box 25 [iv k9,iv n9,sv s9,.sl b9 z9 x9,.sl c9 y9 ys9]]
    |x::r=>[.box 25 [iv k0,iv nn0,sv s0,.sl b0 z0 xs0,.sl c0 y0 ys0],.box 25 zTm,.box 25 [iv k9,iv n9,sv s9,.sl b9 z9 x9,.sl c9 y9 ys9],.dead,.dead,.row g.2 94 6 ((x::r).map j2M)]) (fun g=>g.1.length≤ss.length∧(∀x∈g.1,LoW x)∧opT g.1 (ss.drop g.1.length) (ns.drop g.1.length)=opT [] ss ns) (fun g=>ss.length-g.1.length) ([],false) ⟨by simp,by simp,by simp⟩ rfl rfl ?_
  rintro⟨don,pf⟩ ⟨hdl,hdw,hop⟩;dsimp only at hdl hdw hop⊢;have hnl2:ns.length=ss.length:=by omega
  have husw:∀u∈don.map (fun x=>cn x.1),TmW u:=fun u hu=>by
   obtain⟨x,hx,rfl⟩:=List.mem_map.1 hu;exact cn_w (hdw x hx).2
  obtain⟨cb,cz,cxs,hce,hcz,hcx⟩:=j7N husw;have hround:∀(hj:don.length<ss.length),∃s n,ss[don.length]?=some s∧ns[don.length]?=some n∧n.length≤140737488355328∧TmW s∧∃w,x8[don.length]?=some w∧TmP s w∧Pf C1 150 [w,.sl cb cz cxs] (putV (InstF s (don.map fun x=>cn x.1))):=fun hj=>by
   obtain⟨s,hs1⟩:∃s,ss[don.length]?=some s:=⟨_,List.getElem?_eq_getElem hj⟩;obtain⟨n,hn1⟩:∃n,ns[don.length]?=some n:=⟨_,List.getElem?_eq_getElem (by omega)⟩
   obtain⟨w,hw,hl⟩:=hx8.at hs1;exact⟨s,n,hs1,hn1,hns _ (List.mem_of_getElem? hn1),hl.w,w,hw,hl,j4S s w hl _ cb cz cxs hcz hcx (by simp;omega)⟩
  have hend:¬don.length<ss.length→j8r (.mk k0 nn0 s0 ls0 ts0) kind ns=match InstF body (don.map fun x=>cn x.1) with
    |none=>none
    |some b=>some (don,b):=fun hj=>by
   rw[hof,←hop,List.drop_of_length_le (by omega),opT]
  have hlast:=j4S body (encT body) hbw (don.map fun x=>cn x.1) cb cz cxs hcz hcx (by simp;omega)
  rw[he9] at hlast;cases don with
  |nil=>
   have hcons:=j0V [] true 0 [] (.inr rfl) (by simp only[LosP]) (by simp)
   rw[show([]:List (List UInt8×Tm)).map (fun x=>cn x.1)=[] from rfl] at hcons hce hround hlast hend
   simp only[j2g] at hcons;cases hce;repeat'(first|refine gU ?_|apply gE<;>intro h|apply gM<;>intro h|apply gK)<;>conv=>whnf
   ·obtain⟨s,n,hs1,hn1,hnl1,hsw,w,hw,hl,hinst⟩:=hround (by simp only[List.length_nil] at *;omega)
    have hopj:=hop;rw[drop_at hs1,drop_at hn1,opT] at hopj;obtain⟨k1,n1,s1,l1,t1,b1,z1,x1,c1,y1,ys1,rfl,rfl,-⟩:=hl.open;cases hI:InstF (.mk k1 n1 s1 l1 t1) [] with
    |none=>
     rw[hI] at hinst;rw[show([]:List (List UInt8×Tm)).map (fun x=>cn x.1)=[] from rfl,hI] at hopj
     simp only at hopj;repeat'(first|refine gU ?_|apply gE<;>intro h|apply gM<;>intro h|refine VIdx.mk _ hw ?_|refine gZ hz8 ?_|refine finds_pf hcons fun _=>?_|refine finds_pf hinst fun _=>?_|apply gK)<;>conv=>whnf
     rw[hof,←hopj];rfl
    |some x=>
     rw[hI] at hinst;rw[show([]:List (List UInt8×Tm)).map (fun x=>cn x.1)=[] from rfl,hI] at hopj
     simp only[List.nil_append] at hopj;have hxw:=j9j hsw (by simp) hI
     obtain⟨k2,n2,s2,b2,z2,x2,c2,y2,ys2,he2⟩:=j04 x;have e:[(n,x)].map j2M=[.ag [sv n,iv k2,iv n2,sv s2,.sl b2 z2 x2,.sl c2 y2 ys2]]:=by simp[j2M,he2,PV.cells]
     simp only[putV] at hinst;rw[he2] at hinst;repeat'(first|refine gU ?_|apply gE<;>intro h|apply gM<;>intro h|refine VIdx.mk _ hw ?_|refine gZ hz8 ?_|refine finds_pf hcons fun _=>?_|refine finds_pf hinst fun _=>?_|refine VIdx.mk _ (j6H hn1) ?_|refine VOk.mk (szOk_of rfl (j4m hnz)) ?_|apply gK)<;>conv=>whnf
     exact VAgain.mk _ rfl _ (j0q (.cons (j00 rfl rfl) (.cons (j00 rfl rfl) (.cons (j00 rfl rfl) (.cons (j00 rfl rfl) (.cons (j00 rfl rfl) (.cons (j03 rfl) .nil)))))) (.cons (j00 rfl rfl) (.cons (j00 rfl rfl) (.cons (j00 rfl rfl) (.cons j07 (.cons j07 (.cons (j03 rfl) .nil)))))) rfl rfl rfl rfl rfl) ⟨([(n,x)],false),⟨by simp only[List.length_cons,List.length_nil] at *;omega,fun y hy=>by simp at hy;subst hy;exact⟨hxw,hnl1⟩,hopj⟩,by simp only[List.length_cons,List.length_nil] at *;omega,congrArg (fun t=>(⟨_,[.box 25 [iv k0,iv nn0,sv s0,.sl b0 z0 xs0,.sl c0 y0 ys0],.box 25 zTm,.box 25 [iv k9,iv n9,sv s9,.sl b9 z9 x9,.sl c9 y9 ys9],.dead,.dead,.row false _ 6 t]⟩:AS)) e.symm⟩
   ·have hnn:=hend (by simp only[List.length_nil] at *;omega)
    cases hI:InstF body [] with
    |none=>
     rw[hI] at hlast hnn;simp only[putV] at hlast;repeat'(first|refine gU ?_|apply gE<;>intro h|apply gM<;>intro h|refine finds_pf hcons fun _=>?_|refine finds_pf hlast fun _=>?_|apply gK)<;>conv=>whnf
     rw[hnn];rfl
    |some x=>
     rw[hI] at hlast hnn;obtain⟨k2,n2,s2,b2,z2,x2,c2,y2,ys2,he2⟩:=j04 x;simp only[putV] at hlast;rw[he2] at hlast;repeat'(first|refine gU ?_|apply gE<;>intro h|apply gM<;>intro h|refine finds_pf hcons fun _=>?_|refine finds_pf hlast fun _=>?_|apply gK)<;>conv=>whnf
     rw[hnn];simp only[jaI];rw[he2];rfl
  |cons a r=>
   have hp8:=j0I (a::r) 6;have hcons:=j0V (a::r) false 6 ((a::r).map j2M) (.inl rfl) (jat hdw) (by omega)
   rw[hce] at hcons;repeat'(first|refine gU ?_|apply gE<;>intro h|apply gM<;>intro h)<;>conv=>whnf
   ·obtain⟨s,n,hs1,hn1,hnl1,hsw,w,hw,hl,hinst⟩:=hround (by omega)
    have hopj:=hop;rw[drop_at hs1,drop_at hn1,opT] at hopj;obtain⟨k1,n1,s1,l1,t1,b1,z1,x1,c1,y1,ys1,rfl,rfl,-⟩:=hl.open;cases hI:InstF (.mk k1 n1 s1 l1 t1) ((a::r).map fun x=>cn x.1) with
    |none=>
     rw[hI] at hinst hopj;simp only at hopj;repeat'(first|refine gU ?_|apply gE<;>intro h|apply gM<;>intro h|refine VIdx.mk _ hw ?_|refine gZ hz8 ?_|refine VTch.mk [5] (j3i (.cons (j00 rfl rfl) (.cons (j00 rfl rfl) (.cons (j00 rfl rfl) (.cons j07 (.cons j07 (.cons (j03 hp8) (.cons (j00 rfl rfl) .nil))))))) rfl rfl rfl) ?_|apply gK)<;>conv=>whnf
     refine vcall_row rfl rfl (by simp) (j0I _ 4) hcons rfl ?_
     repeat'(first|refine gU ?_|apply gE<;>intro h|apply gM<;>intro h|refine finds_pf hinst fun _=>?_|apply gK)<;>conv=>whnf
     rw[hof,←hopj];rfl
    |some x=>
     rw[hI] at hinst hopj;simp only at hopj;have hxw:=j9j hsw husw hI;obtain⟨k2,n2,s2,b2,z2,x2,c2,y2,ys2,he2⟩:=j04 x;have e:(a::(r++[(n,x)])).map j2M=(a::r).map j2M++[.ag [sv n,iv k2,iv n2,sv s2,.sl b2 z2 x2,.sl c2 y2 ys2]]:=by simp[j2M,he2,PV.cells]
     have el2:((a::(r++[(n,x)])).length:Int)=(a::r).length+1:=by simp
     have el:(r++[(n,x)]).length+1=r.length+1+1:=by simp
     simp only[putV] at hinst;rw[he2] at hinst;repeat'(first|refine gU ?_|apply gE<;>intro h|apply gM<;>intro h|refine VIdx.mk _ hw ?_|refine gZ hz8 ?_|refine VTch.mk [5] (j3i (.cons (j00 rfl rfl) (.cons (j00 rfl rfl) (.cons (j00 rfl rfl) (.cons j07 (.cons j07 (.cons (j03 hp8) (.cons (j00 rfl rfl) .nil))))))) rfl rfl rfl) ?_|apply gK)<;>conv=>whnf
     refine vcall_row rfl rfl (by simp) (j0I _ 4) hcons rfl ?_
     have hln:((a::r).map j2M).length=r.length+1:=by simp
     repeat'(first|refine gU ?_|apply gE<;>intro h|apply gM<;>intro h|refine finds_pf hinst fun _=>?_|refine VIdx.mk _ (j6H hn1) ?_|refine VOk.mk (szOk_of rfl (j4m hnz)) ?_|refine VOk.mk (j0o (w:=96) (r:=140737488355328) hln rfl rfl rfl rfl (by simp only[List.length_cons,List.length_nil] at *;omega) (by simp only[List.length_cons,List.length_nil] at *;omega)) ?_|apply gK)<;>conv=>whnf
     have hp8:((a::r).map j2M++[PV.ag [sv n,iv k2,iv n2,sv s2,.sl b2 z2 x2,.sl c2 y2 ys2]]).all (pur 8)=true:=e▸j0I _ 6;refine VAgain.mk _ rfl _ (j0q (.cons (j00 rfl rfl) (.cons (j00 rfl rfl) (.cons (j00 rfl rfl) (.cons j07 (.cons j07 (.cons (j03 hp8) (.cons (j00 rfl rfl) (.cons (j00 rfl rfl) .nil)))))))) (.cons (j00 rfl rfl) (.cons (j00 rfl rfl) (.cons (j00 rfl rfl) (.cons j07 (.cons j07 (.cons (j03 hp8) .nil)))))) rfl rfl rfl rfl rfl) ⟨(a::(r++[(n,x)]),true),⟨by simp only[List.length_cons,List.length_append,List.length_nil] at *;omega,fun y hy=>?_,?_⟩,by simp only[List.length_cons,List.length_append,List.length_nil] at *;omega,?_⟩
     ·rcases List.mem_append.1 (show y∈(a::r)++[(n,x)] from hy) with hy|hy
      ·exact hdw y hy
      ·simp at hy;subst hy;exact⟨hxw,hnl1⟩
     ·dsimp only;simp only[List.length_cons,List.length_append,List.length_nil,List.cons_append] at hopj⊢;exact hopj
     ·dsimp only;rw[e,el,el2];rfl
   ·have hnn:=hend (by omega)
    cases hI:InstF body ((a::r).map fun x=>cn x.1) with
    |none=>
     rw[hI] at hlast hnn;simp only[putV] at hlast;repeat'(first|refine gU ?_|apply gE<;>intro h|apply gM<;>intro h|refine VTch.mk [5] (j3i (.cons (j00 rfl rfl) (.cons (j00 rfl rfl) (.cons (j00 rfl rfl) (.cons j07 (.cons j07 (.cons (j03 hp8) .nil)))))) rfl rfl rfl) ?_|apply gK)<;>conv=>whnf
     refine vcall_row rfl rfl (by simp) (j0I _ 4) hcons rfl ?_
     repeat'(first|refine gU ?_|apply gE<;>intro h|apply gM<;>intro h|refine finds_pf hlast fun _=>?_|apply gK)<;>conv=>whnf
     rw[hnn];rfl
    |some x=>
     rw[hI] at hlast hnn;obtain⟨k2,n2,s2,b2,z2,x2,c2,y2,ys2,he2⟩:=j04 x;simp only[putV] at hlast;rw[he2] at hlast;repeat'(first|refine gU ?_|apply gE<;>intro h|apply gM<;>intro h|refine VTch.mk [5] (j3i (.cons (j00 rfl rfl) (.cons (j00 rfl rfl) (.cons (j00 rfl rfl) (.cons j07 (.cons j07 (.cons (j03 hp8) .nil)))))) rfl rfl rfl) ?_|apply gK)<;>conv=>whnf
     refine vcall_row rfl rfl (by simp) (j0I _ 4) hcons rfl ?_
     repeat'(first|refine gU ?_|apply gE<;>intro h|apply gM<;>intro h|refine finds_pf hlast fun _=>?_|apply gK)<;>conv=>whnf
     rw[hnn];refine j0O rfl (j02 (j0D rfl (by simp) (j0I _ 4)) (j02 rfl (j02 rfl j0h))) rfl ?_
     simp only[jaI];rw[he2];rfl
open Go Go.Am Go.Gw
def jd7(b:Bool)(z:Nat)(xs:List PV):PV:=.fn 249 [] [.cp [.sl b z xs]]
theorem j5P(b:Bool)(z:Nat)(xs:List PV):Pf C1 196 [.sl b z xs] [jd7 b z xs]:=by
 refine run_intro Tryz.func196 rfl rfl rfl ?_;repeat'(first|refine gU ?_|apply gE<;>intro h|apply gM<;>intro h|apply gK)<;>conv=>whnf
 refine j0O rfl rfl rfl ?_;rfl
def j3s(o:Option Tm):List PV:=match o with
 |some x=>[encT x,bv true]
 |none=>[encT tz,bv false]
def j9f(kind:Int)(x:List UInt8×Tm)(o:Tm):Option Tm:=match AbsF o [x.1] with
 |none=>none
 |some b=>if anyT x.2=true then some (.mk kind 0 [] [] [x.2,b]) else none
theorem j6Z(kind:Int)(x:List UInt8×Tm)(r:List (List UInt8×Tm))(o:Tm):j0P kind (x::r) o=match j9f kind x o with
 |none=>none
 |some o'=>j0P kind r o':=by
 unfold j9f;rw[j0P];cases AbsF o [x.1] with
 |none=>rfl
 |some b=>
  dsimp only
  by_cases h:anyT x.2=true
  ·rw[if_pos h,if_pos h]
  ·rw[if_neg h,if_neg h]
theorem jbW{ns:List (List UInt8)}(hw:TmW t)(h:AbsF t ns=some x):TmW x:=by
 unfold AbsF at h;split at h
 ·rename_i hc;have:=j1P hc.1;exact j5s (j7v hc.2) hw (j0v hc.1).2 (by omega) (by omega) this h
 ·cases h
def clLP(q:TVu)(b:Bool)(z:Nat)(xs:List PV)(kind:Int)(x1 x2:Bool)(a c:Code)(s:LpS):SO:=.lp [(24,jd7 b z xs),(23,.sl b z xs),(8,.bp 1 0),(22,.ag q.cs),(20,bv (!x1)),(19,bv (!x1)),(18,bv x1),(17,.ag q.cs),(16,bv (!x2)),(15,bv (!x2)),(14,bv x2),(13,iv kind),(7,.bp 2 0),(6,.bp 3 0),(4,.bp 4 0),(3,.bp 5 0),(0,iv kind),(1,.ag q.cs),(2,.sl b z xs)] [25,26] a c s
def clS(lp:SO)(q:TVu)(kind:Int)(w:TVu):Sto:=[lp,.box 25 w.cs,.box 4 [bv false],.box 25 zTm,.box 25 q.cs,.box 3 [iv kind]]
def ClOk(lp:LpS→SO)(q:TVu)(kind:Int):Prop:=∀(i:Int) (x:List UInt8×Tm) (v:PV),LoP x v→∀(o:Tm) (w:TVu),TmP o (.ag w.cs)→FindsY C1 [.yl 0,iv i,v] (clS (lp .ready) q kind w) fun r st=>match j9f kind x o with
 |some o'=>r=.ret [bv true]∧∃w',TmP o' (.ag (TVu.cs w'))∧st=clS (lp .ready) q kind w'
 |none=>r=.ret [bv false]∧st=clS (lp (.done none)) q kind w
theorem j9B(q:TVu)(kind:Int)(b:Bool)(z:Nat)(xs:List PV)(l:List (List UInt8×Tm))(hz:z=6∨xs=[])(hxs:LosP l xs)(hl:l.length≤1000000)(x1 x2:Bool)(a c:Code)(hY:ClOk (clLP q b z xs kind x1 x2 a c) q kind)(o0:Tm)(w0:TVu)(hw0:TmP o0 (.ag w0.cs)):
  Finds C1 249 [.yl 0,.cp [.sl b z xs]] (clS (clLP q b z xs kind x1 x2 a c .ready) q kind w0) fun r st=>r=.ret []∧match j0P kind l.reverse o0 with
   |some o'=>∃w',TmP o' (.ag (TVu.cs w'))∧st=clS (clLP q b z xs kind x1 x2 a c .ready) q kind w'
   |none=>∃w',st=clS (clLP q b z xs kind x1 x2 a c (.done none)) q kind w':=by
 have hlen:=hxs.len;refine run_intro Tryz.func249 rfl rfl rfl ?_;repeat'(first|refine gU ?_|apply gE<;>intro h|apply gM<;>intro h|apply gK)<;>conv=>whnf
 refine loop_over (G:=Nat×Tm×TVu) (fun g=>[(3,iv ((g.1:Int)-1))]) (fun g=>clS (clLP q b z xs kind x1 x2 a c .ready) q kind g.2.2) (fun g=>g.1≤l.length∧TmP g.2.1 (.ag g.2.2.cs)∧j0P kind (l.take g.1).reverse g.2.1=j0P kind l.reverse o0) (fun g=>g.1) (xs.length,o0,w0) ⟨by dsimp only;omega,hw0,by dsimp only;rw[List.take_of_length_le (by omega)]⟩ rfl rfl ?_
 rintro⟨k,o,w⟩ ⟨hk,hw,hcl⟩;dsimp only at hk hw hcl⊢;repeat'(first|refine gU ?_|apply gE<;>intro h|apply gM<;>intro h|apply gK)<;>conv=>whnf
 ·obtain⟨j,rfl⟩:∃j,k=j+1:=⟨k-1,by omega⟩
  obtain⟨x,hx⟩:∃x,l[j]?=some x:=⟨_,List.getElem?_eq_getElem (by omega)⟩
  obtain⟨v,hv,hlo⟩:=hxs.at hx;have hy:=hY ((((j+1:Nat):Int))-1) x v hlo o w hw;have hti:(((j+1:Nat):Int)-1).toNat=j:=by omega
  have hcl2:j0P kind l.reverse o0=match j9f kind x o with
    |none=>none
    |some o'=>j0P kind (l.take j).reverse o':=by
   rw[←hcl,take_snoc' hx,List.reverse_append];exact j6Z kind x _ o
  obtain⟨s,k1,n1,s1,b1,z1,x1',c1,y1,ys1,t1,rfl,rfl,ht1,hsl⟩:=hlo.open;refine VNat.nonneg (by omega) ?_
  rw[hti];repeat'(first|refine gU ?_|apply gE<;>intro h|apply gM<;>intro h|refine VIdx.mk _ hv ?_|refine gZ hz ?_|apply gK)<;>conv=>whnf
  refine j0S rfl (.cons (j0e rfl rfl) (.cons (j01 rfl rfl) (.cons (j01 rfl rfl) (.cons (j01 rfl rfl) (.cons (j01 rfl rfl) (.cons (j01 rfl rfl) .nil)))))) rfl rfl rfl rfl (j0z hy ?_)
  intro r st hq;cases hst:j9f kind (s,t1) o with
  |none=>
   rw[hst] at hq hcl2;obtain⟨rfl,rfl⟩:=hq;refine j0E (st':=clS (clLP q b z xs kind x1 x2 a c (.done none)) q kind w) (.cons (j0e rfl rfl) (.cons (j01 rfl rfl) (.cons (j01 rfl rfl) (.cons (j01 rfl rfl) (.cons (j01 rfl rfl) (.cons (j01 rfl rfl) .nil)))))) rfl rfl (by kernel_rfl) ?_
   repeat'(first|refine gU ?_|apply gE<;>intro h|apply gM<;>intro h|apply gK)<;>conv=>whnf
   refine⟨rfl,?_⟩;rw[hcl2];exact⟨w,rfl⟩
  |some o'=>
   rw[hst] at hq hcl2;obtain⟨rfl,w',hw',rfl⟩:=hq;refine j0E (st':=clS (clLP q b z xs kind x1 x2 a c .ready) q kind w') (.cons (j0e rfl rfl) (.cons (j01 rfl rfl) (.cons (j01 rfl rfl) (.cons (j01 rfl rfl) (.cons (j01 rfl rfl) (.cons (j01 rfl rfl) .nil)))))) rfl rfl (by kernel_rfl) ?_
   repeat'(first|refine gU ?_|apply gE<;>intro h|apply gM<;>intro h|apply gK)<;>conv=>whnf
   have ei:((j+1:Nat):Int)-1-1=(j:Int)-1:=by omega
   rw[ei];exact VAgain.mk _ rfl _ (gc_same rfl) ⟨(j,o',w'),⟨by omega,hw',hcl2.symm⟩,by omega,rfl⟩
 ·obtain rfl:k=0:=by omega
  rw[List.take_zero,List.reverse_nil,j0P] at hcl;rw[←hcl];exact⟨rfl,w,hw,rfl⟩
theorem j1B(kind:Int)(t:Tm)(v:PV)(hT:TmP t v)(l:List (List UInt8×Tm))(b:Bool)(z:Nat)(xs:List PV)(hz:z=6∨xs=[])(hxs:LosP l xs)(hl:l.length≤1000000):Pf C1 149 [iv kind,v,.sl b z xs] (j3s (j0u kind t l)):=by
 have hbd:=j2I kind;have hr:=j1h t v hT;have hbk:=j5P b z xs;obtain⟨k0,nn0,s0,ls0,ts0,b0,z0,xs0,c0,y0,ys0,rfl,rfl,-⟩:=hT.open;refine run_intro Tryz.func149 rfl rfl rfl ?_;repeat'(first|refine gU ?_|apply gE<;>intro h|apply gM<;>intro h|refine gX hbd ?_|refine gX hr ?_|refine gX hbk ?_|apply gK)<;>conv=>whnf
 ·have hany:anyT (.mk k0 nn0 s0 ls0 ts0)=true:=by assumption
  have hkd:j1y kind=true:=decide_eq_true (by assumption)
  have hcf:j0u kind (.mk k0 nn0 s0 ls0 ts0) l=match j0P kind l.reverse (.mk k0 nn0 s0 ls0 ts0) with
   |none=>none
   |some o=>if anyT o=true then some o else none:=if_pos ⟨hkd,hany⟩
  refine j0N (st0:=clS (clLP ⟨k0,nn0,s0,b0,z0,xs0,c0,y0,ys0⟩ b z xs kind (anyT (.mk k0 nn0 s0 ls0 ts0)) (j1y kind) _ _ .ready) ⟨k0,nn0,s0,b0,z0,xs0,c0,y0,ys0⟩ kind ⟨k0,nn0,s0,b0,z0,xs0,c0,y0,ys0⟩) (args0:=[.yl 0,.cp [.sl b z xs]]) rfl rfl (.cons (j01 rfl rfl) (.cons (j01 rfl rfl) (.cons (j01 rfl rfl) (.cons (j01 rfl rfl) (.cons (j01 rfl rfl) (.cons (j0e rfl rfl) .nil)))))) rfl rfl rfl rfl (Finds.mono (j9B ⟨k0,nn0,s0,b0,z0,xs0,c0,y0,ys0⟩ kind b z xs l hz hxs hl _ _ _ _ ?_ (.mk k0 nn0 s0 ls0 ts0) _ hT) ?_)
  ·intro i x v hlo o w hw;obtain⟨s,k1,n1,s1,b1,z1,x1,c1,y1,ys1,t1,rfl,rfl,ht1,hsl⟩:=hlo.open;have hab:=j5N o _ hw [s] true 1 (.inl rfl) (by simp)
   have hrt:=j1h t1 _ ht1;have hst:j9f kind (s,t1) o=match AbsF o [s] with
    |none=>none
    |some b=>if anyT t1=true then some (.mk kind 0 [] [] [t1,b]) else none:=rfl
   cases hA:AbsF o [s] with
   |none=>
    rw[hA] at hab hst;simp only at hst;rw[hst];simp only[putV] at hab;refine j0l rfl rfl ?_;repeat'(first|refine gU ?_|apply gE<;>intro h|apply gM<;>intro h|refine gX hab ?_|refine gX hrt ?_|apply gK)<;>conv=>whnf
    exact⟨rfl,by kernel_rfl⟩
   |some bt=>
    rw[hA] at hab hst;simp only at hst;obtain⟨k8,n8,s8,b8,z8,x8,c8,y8,ys8,he8⟩:=j04 bt;simp only[putV] at hab;rw[he8] at hab;have hbw:TmP bt (encT bt):=jbW hw.w hA;rw[he8] at hbw;cases hty:anyT t1 with
    |false=>
     rw[hty] at hrt hst;rw[if_neg (by simp)] at hst
     rw[hst];refine j0l rfl rfl ?_;repeat'(first|refine gU ?_|apply gE<;>intro h|apply gM<;>intro h|refine gX hab ?_|refine gX hrt ?_|apply gK)<;>conv=>whnf
     exact⟨rfl,by kernel_rfl⟩
    |true=>
     rw[hty] at hrt hst;rw[if_pos rfl] at hst;rw[hst];refine j0l rfl rfl ?_;repeat'(first|refine gU ?_|apply gE<;>intro h|apply gM<;>intro h|refine gX hab ?_|refine gX hrt ?_|apply gK)<;>conv=>whnf
     refine⟨rfl,⟨kind,0,[],true,0,[],true,5,[.ag [iv k1,iv n1,sv s1,.sl b1 z1 x1,.sl c1 y1 ys1],.ag [iv k8,iv n8,sv s8,.sl b8 z8 x8,.sl c8 y8 ys8]]⟩,?_,by kernel_rfl⟩
     simp only[TVu.cs,TmP,TmsP,LvsP];exact⟨_,_,_,_,_,_,rfl,.inr rfl,rfl,by simp,.inl rfl,⟨_,_,rfl,ht1,_,_,rfl,hbw,rfl⟩,by simp,by simp,by unfold i64;omega⟩
  ·rintro r st ⟨rfl,hq⟩;cases hcr:j0P kind l.reverse (.mk k0 nn0 s0 ls0 ts0) with
   |none=>
    rw[hcr] at hq hcf;simp only at hq hcf;obtain⟨w',rfl⟩:=hq;refine jaZ (.cons (j0e rfl rfl) (.cons (j01 rfl rfl) (.cons (j01 rfl rfl) (.cons (j01 rfl rfl) (.cons (j01 rfl rfl) (.cons (j01 rfl rfl) .nil)))))) rfl ?_;repeat'(first|refine gU ?_|apply gE<;>intro h|apply gM<;>intro h|apply gK)<;>conv=>whnf
    rw[hcf];rfl
   |some o=>
    rw[hcr] at hq hcf;simp only at hq hcf;obtain⟨w',hw',rfl⟩:=hq;have hr2:=j1h o _ hw';have hap:=j2J o _ hw' true 0;obtain⟨k8,n8,s8,b8,z8,x8,c8,y8,ys8,he8⟩:=j04 o;rw[he8] at hap;refine jaZ (.cons (j0e rfl rfl) (.cons (j01 rfl rfl) (.cons (j01 rfl rfl) (.cons (j01 rfl rfl) (.cons (j01 rfl rfl) (.cons (j01 rfl rfl) .nil)))))) rfl ?_;repeat'(first|refine gU ?_|apply gE<;>intro h|apply gM<;>intro h|refine gX hr2 ?_|refine gX hap ?_|apply gK)<;>conv=>whnf
    ·rw[hcf,if_pos (by assumption)]
     simp only[j3s];rw[he8];rfl
    ·rw[hcf,if_neg (fun e=>by simp_all)]
     rfl
 ·have hcf:j0u kind (.mk k0 nn0 s0 ls0 ts0) l=none:=if_neg (fun e=>by simp_all)
  rw[hcf];rfl
 ·have hcf:j0u kind (.mk k0 nn0 s0 ls0 ts0) l=none:=if_neg (fun e=>by simp_all[j1y])
  rw[hcf];rfl
open Go Go.Am Go.Gw
theorem emp{xs:List PV}{z n:Nat}(h:(Nat.beq z n||xs.isEmpty)=true):z=n∨xs=[]:=by
 rw[Bool.or_eq_true] at h;rcases h with h|h
 ·exact .inl (Nat.eq_of_beq_eq_true h)
 ·exact .inr (by simpa using h)
theorem j5u{f:PV→Option Lv}(hf:∀x y,f x=some y→LvP y x):∀{xs:List PV}{ls:List Lv},mapO f xs=some ls→LvsP ls xs
 |[],ls,h=>by
  cases h;simp only[LvsP]
 |x::r,ls,h=>by
  simp only[mapO] at h;cases h1:f x with
  |none=>simp[h1] at h
  |some y=>
   cases h2:mapO f r with
   |none=>simp[h1,h2] at h
   |some ys=>
    simp only[h1,h2] at h;cases h;simp only[LvsP];exact⟨_,_,rfl,hf _ _ h1,j5u hf h2⟩
theorem j8f{f:PV→Option Tm}(hf:∀x y,f x=some y→TmP y x):∀{xs:List PV}{ls:List Tm},mapO f xs=some ls→TmsP ls xs
 |[],ls,h=>by
  cases h;simp only[TmsP]
 |x::r,ls,h=>by
  simp only[mapO] at h;cases h1:f x with
  |none=>simp[h1] at h
  |some y=>
   cases h2:mapO f r with
   |none=>simp[h1,h2] at h
   |some ys=>
    simp only[h1,h2] at h;cases h;simp only[TmsP];exact⟨_,_,rfl,hf _ _ h1,j8f hf h2⟩
def j9R:Nat→PV→Option Lv
 |n+1,.ag [.sc (.int .i64 k),.sc (.int .i64 m),.sl _ z xs]=>match(Nat.beq z 3||xs.isEmpty)&&Nat.ble xs.length 1000 with
  |true=>match mapO (j9R n) xs with
   |some ls=>some (.mk k m ls)
   |none=>none
  |false=>none
 |_,_=>none
def j9T:Nat→PV→Option Tm
 |n+1,.ag [.sc (.int .i64 k),.sc (.int .i64 m),.sc (.string u),.sl _ z xs,.sl _ y ys]=>match(Nat.beq z 3||xs.isEmpty)&&(Nat.ble xs.length 1000&&((Nat.beq y 5||ys.isEmpty)&&(Nat.ble ys.length 1000&&(Nat.ble u.data.toList.length 1000&&Nat.ble m.natAbs 1000000)))) with
  |true=>match mapO (j9R n) xs,mapO (j9T n) ys with
   |some ls,some ts=>some (.mk k m u.data.toList ls ts)
   |_,_=>none
  |false=>none
 |_,_=>none
theorem j3C{α β:Type}{f:α→Option β}:∀{xs:List α}{ls:List β},mapO f xs=some ls→ls.length=xs.length
 |[],ls,h=>by
  cases h;rfl
 |x::r,ls,h=>by
  simp only[mapO] at h;cases h1:f x with
  |none=>simp[h1] at h
  |some y=>
   cases h2:mapO f r with
   |none=>simp[h1,h2] at h
   |some ys=>
    simp only[h1,h2] at h;cases h;simp[j3C h2]
theorem j9S:∀(n:Nat) {v:PV}{l:Lv},j9R n v=some l→LvP l v
 |0,v,l,h=>by simp[j9R] at h
 |n+1,v,l,h=>by
  unfold j9R at h;split at h
  ·rename_i n' k m b z xs;split at h
   ·rename_i hc;rw[Bool.and_eq_true] at hc;split at h
    ·rename_i ls hl;cases h;simp only[LvP];have:=j3C hl;have h2:=Nat.le_of_ble_eq_true hc.2;exact⟨_,_,_,rfl,emp hc.1,j5u (fun _ _=>j9S _) hl,by omega⟩
    ·cases h
   ·cases h
  ·cases h
theorem j9U:∀(n:Nat) {v:PV}{t:Tm},j9T n v=some t→TmP t v
 |0,v,t,h=>by simp[j9T] at h
 |n+1,v,t,h=>by
  unfold j9T at h;split at h
  ·rename_i k m u b z xs c y ys hh;split at h
   ·rename_i hc;simp only[Bool.and_eq_true] at hc;obtain⟨h1,h2,h3,h4,h5,h6⟩:=hc;split at h
    ·rename_i ls ts hl ht;cases h;have e1:=j3C hl;have e2:=j3C ht;have h2:=Nat.le_of_ble_eq_true h2;have h4:=Nat.le_of_ble_eq_true h4;have h5:=Nat.le_of_ble_eq_true h5;have h6:=Nat.le_of_ble_eq_true h6;simp only[TmP];refine⟨b,z,xs,c,y,ys,?_,emp h1,j5u (fun _ _=>j9S _) hl,by omega,emp h3,j8f (fun _ _=>j9U _) ht,by omega,by omega,by unfold i64;omega⟩
     rw[j3A u]
    ·cases h
   ·cases h
  ·cases h
def asTm(v:PV):Option Tm:=j9T 400 v
theorem j0W(h:asTm v=some t):TmP t v:=j9U 400 h
def asLo:PV→Option (List UInt8×Tm)
 | .ag (.sc (.string u)::cs)=>match asTm (.ag cs),Nat.ble u.data.toList.length 1000000 with
  |some t,true=>some (u.data.toList,t)
  |_,_=>none
 |_=>none
theorem jd6{x:List UInt8×Tm}(h:asLo v=some x):LoP x v:=by
 unfold asLo at h;split at h
 ·rename_i u cs;split at h
  ·rename_i t ht hb;cases h;refine⟨cs,by rw[j3A u],j0W ht,?_⟩
   have:=Nat.le_of_ble_eq_true hb;dsimp only;omega
  ·cases h
 ·cases h
theorem j2L:∀{xs:List PV}{l:List (List UInt8×Tm)},mapO asLo xs=some l→LosP l xs
 |[],l,h=>by
  cases h;simp only[LosP]
 |x::r,l,h=>by
  simp only[mapO] at h;cases h1:asLo x with
  |none=>simp[h1] at h
  |some y=>
   cases h2:mapO asLo r with
   |none=>simp[h1,h2] at h
   |some ys=>
    simp only[h1,h2] at h;cases h;simp only[LosP];exact⟨_,_,rfl,jd6 h1,j2L h2⟩
theorem j0H{C:Cfg}(hC:∀n,CallOk C.P (ev C n).call){f:FuncId}{F:List PV→Sto→Option (AEnd×Sto)}(h:∀args st r st',F args st=some (r,st')→st=[]∧st'=[]∧∃rs,r=.ret rs∧rs.all (pur 8)=true∧Pf C f args rs):DoesOk (CallD C.P f) F:=fun args st r st' hx w m φ μ vs hs hr=>by
 obtain⟨rfl,rfl,rs,rfl,hp,r0,st0,rfl,N,hN⟩:=h _ _ _ _ hx;refine(hC N f args [] (.ret rs) st0 (hN N (Nat.le_refl N)) w m φ μ vs hs hr).mono fun en w' ⟨m',φ',μ',h1,h2,h3⟩=>?_
 have h4:=(endPur_R (r:=.ret rs) hp h3).mono (Go.Hb.Mem.le.refl m') (Le.none φ);exact⟨m',φ,[],Ext.refl _ _,⟨h2.good.drop (List.nil_sublist _),(rfl:SR m' φ 0 [] []),hs.dom⟩,h4⟩
def jaM(args:List PV)(st:Sto):Option (AEnd×Sto):=match args,st with
 |[v,.sc (.int .i64 p),.sc (.int .i64 k)],[]=>match asTm v with
  |some t=>some (.ret [bv (j1c t p k)],[])
  |none=>none
 |_,_=>none
theorem jbq:DoesOk (CallD C1.P 31) jaM:=j0H (fun n=>(j3B n).call) fun args st r st' h=>by
 unfold jaM at h;split at h
 ·rename_i v p k;split at h
  ·rename_i t ht;cases h;exact⟨rfl,rfl,_,rfl,rfl,j1i t v (j0W ht) p k⟩
  ·cases h
 ·cases h
def j9K(args:List PV)(st:Sto):Option (AEnd×Sto):=match args,st with
 |[.sc (.int .i64 kind),v,.sl b z xs],[]=>match asTm v,mapO asLo xs,Nat.ble xs.length 1000000&&(Nat.beq z 6||xs.isEmpty) with
  |some t,some l,true=>match(j3s (j0u kind t l)).all (pur 8) with
   |true=>some (.ret (j3s (j0u kind t l)),[])
   |false=>none
  |_,_,_=>none
 |_,_=>none
theorem jbn:DoesOk (CallD C1.P 149) j9K:=j0H (fun n=>(j3B n).call) fun args st r st' h=>by
 unfold j9K at h;split at h
 ·rename_i kind v b z xs;split at h
  ·rename_i t l ht hl hb;split at h
   ·rename_i hp;cases h;rw[Bool.and_eq_true] at hb;have hlo:=j2L hl;have hlen:=hlo.len;have h1:=Nat.le_of_ble_eq_true hb.1;exact⟨rfl,rfl,_,rfl,hp,j1B kind t v (j0W ht) l b z xs (emp hb.2) hlo (by omega)⟩
   ·cases h
  ·cases h
 ·cases h
open Go Go.Am Go.Gw
def asS:PV→Option (List UInt8)
 | .sc (.string u)=>match Nat.ble u.data.toList.length 1000000 with
  |true=>some u.data.toList
  |false=>none
 |_=>none
theorem jdY(h:asS v=some s):v=sv s∧s.length≤140737488355328:=by
 unfold asS at h;split at h
 ·rename_i u;split at h
  ·rename_i hb;cases h;have:=Nat.le_of_ble_eq_true hb;exact⟨by rw[j3A u],by omega⟩
  ·cases h
 ·cases h
theorem jc0:∀{xs:List PV}{l:List (List UInt8)},mapO asS xs=some l→xs=svs l∧∀s∈l,s.length≤140737488355328
 |[],l,h=>by
  cases h;exact⟨rfl,fun s hs=>absurd hs List.not_mem_nil⟩
 |x::r,l,h=>by
  simp only[mapO] at h;cases h1:asS x with
  |none=>simp[h1] at h
  |some y=>
   cases h2:mapO asS r with
   |none=>simp[h1,h2] at h
   |some ys=>
    simp only[h1,h2] at h;cases h;obtain⟨a1,a2⟩:=jdY h1;obtain⟨b1,b2⟩:=jc0 h2;refine⟨by rw[a1,b1];rfl,fun s hs=>?_⟩
    rcases List.mem_cons.1 hs with rfl|hs
    ·exact a2
    ·exact b2 s hs
def jcO(args:List PV)(st:Sto):Option (AEnd×Sto):=match args,st with
 |[v,.sc (.int .i64 kind),.sl b z xs],[]=>match asTm v,mapO asS xs,Nat.ble xs.length 2000&&(Nat.beq z 1||xs.isEmpty) with
  |some t,some ns,true=>match(jaI (j8r t kind ns)).all (pur 8) with
   |true=>some (.ret (jaI (j8r t kind ns)),[])
   |false=>none
  |_,_,_=>none
 |_,_=>none
theorem jcz:DoesOk (CallD C1.P 147) jcO:=j0H (fun n=>(j3B n).call) fun args st r st' h=>by
 unfold jcO at h;split at h
 ·rename_i v kind b z xs;split at h
  ·rename_i t ns ht hl hb;split at h
   ·rename_i hp;cases h;rw[Bool.and_eq_true] at hb;obtain⟨rfl,hs⟩:=jc0 hl;have h1:=Nat.le_of_ble_eq_true hb.1;have hlen:(svs ns).length=ns.length:=by simp
    have hz:z=1∨ns=[]:=(emp hb.2).imp id fun e=>by
     cases ns with
     |nil=>rfl
     |cons a r=>cases e
    exact⟨rfl,rfl,_,rfl,hp,jb5 t v (j0W ht) kind ns b z hz (by omega) hs⟩
   ·cases h
  ·cases h
 ·cases h
end Go.Proofs.YtnfbeplfnblgjaaGreatDoor
namespace Go.Proofs.YtnfbeplfnblgjaaGreatDoor
open Go Go.Am Go.Gw
def j5O(t:Tm)(us:List Tm):Option Tm:=match j1m t 6 us.length with
 |none=>none
 |some (_,body)=>InstF body us
theorem j9i(t:Tm)(v:PV)(h:TmP t v)(us:List Tm)(b:Bool)(z:Nat)(xs:List PV)(hz:z=5∨xs=[])(hxs:TmsP us xs)(hbd:us.length≤1000000):Pf C1 89 [v,.sl b z xs] (putV (j5O t us)):=by
 have hlen:=hxs.len;have hsp:=j5R t v h 6 (xs.length:Nat);have hw:=h.w;have ha:j5O t us=match j1m t 6 us.length with
  |none=>none
  |some (_,body)=>InstF body us:=rfl
 rw[←hlen] at ha;obtain⟨k0,nn0,s0,ls0,ts0,b0,z0,xs0,c0,y0,ys0,rfl,rfl,-⟩:=h.open;refine run_intro Tryz.func89 rfl rfl rfl ?_;cases hs:j1m (.mk k0 nn0 s0 ls0 ts0) 6 xs.length with
 |none=>
  rw[hs] at hsp ha;simp only[splitV] at hsp;repeat'(first|refine gU ?_|apply gE<;>intro h|apply gM<;>intro h|refine gX hsp ?_|apply gK)<;>conv=>whnf
  rw[ha];rfl
 |some p=>
  obtain⟨ss,body⟩:=p;rw[hs] at hsp ha;simp only[splitV] at hsp;simp only at ha;obtain⟨_,hssw,hbw⟩:=j7t hw hs;have hin:=j4S body _ hbw us b z xs hz hxs (by omega)
  obtain⟨k9,n9,s9,b9,z9,x9,c9,y9,ys9,he9⟩:=j04 body;obtain⟨c8,z8,x8,he8⟩:=j4A ss;rw[he8,he9] at hsp;rw[he9] at hin;rw[ha];cases hI:InstF body us with
  |none=>
   rw[hI] at hin;simp only[putV] at hin;repeat'(first|refine gU ?_|apply gE<;>intro h|apply gM<;>intro h|refine gX hsp ?_|refine gX hin ?_|apply gK)<;>conv=>whnf
   rfl
  |some x=>
   rw[hI] at hin;obtain⟨k2,n2,s2,b2,z2,x2,c2,y2,ys2,he2⟩:=j04 x;simp only[putV] at hin⊢;rw[he2] at hin⊢;repeat'(first|refine gU ?_|apply gE<;>intro h|apply gM<;>intro h|refine gX hsp ?_|refine gX hin ?_|apply gK)<;>conv=>whnf
   rfl
theorem j4W:∀{xs:List PV}{l:List Tm},mapO asTm xs=some l→TmsP l xs
 |[],l,h=>by
  cases h;simp only[TmsP]
 |x::r,l,h=>by
  simp only[mapO] at h;cases h1:asTm x with
  |none=>simp[h1] at h
  |some y=>
   cases h2:mapO asTm r with
   |none=>simp[h1,h2] at h
   |some ys=>
    simp only[h1,h2] at h;cases h;simp only[TmsP];exact⟨_,_,rfl,j0W h1,j4W h2⟩
def j9u(args:List PV)(st:Sto):Option (AEnd×Sto):=match args,st with
 |[v,.sl b z xs],[]=>match asTm v,mapO asTm xs,Nat.ble xs.length 1000000&&(Nat.beq z 5||xs.isEmpty) with
  |some t,some us,true=>match(putV (j5O t us)).all (pur 8) with
   |true=>some (.ret (putV (j5O t us)),[])
   |false=>none
  |_,_,_=>none
 |_,_=>none
theorem jbl:DoesOk (CallD C1.P 89) j9u:=j0H (fun n=>(j3B n).call) fun args st r st' h=>by
 unfold j9u at h;split at h
 ·rename_i v b z xs;split at h
  ·rename_i t us ht hl hb;split at h
   ·rename_i hp;cases h;rw[Bool.and_eq_true] at hb;have hls:=j4W hl;have hlen:=hls.len;have h1:=Nat.le_of_ble_eq_true hb.1;exact⟨rfl,rfl,_,rfl,hp,j9i t v (j0W ht) us b z xs (emp hb.2) hls (by omega)⟩
   ·cases h
  ·cases h
 ·cases h
open Go Go.Gw
def valD(l:List UInt8):Nat:=l.foldl (fun a c=>a*10+(c.toNat-48)) 0
theorem jaY(l:List UInt8)(c:UInt8):valD (l++[c])=valD l*10+(c.toNat-48):=by simp[valD]
variable{c s:List UInt8}{u:Nat}
theorem j2Z(h:u<10):(UInt8.ofNat (48+u)).toNat=48+u:=by
 rw[UInt8.toNat_ofNat'];omega
theorem j7e:∀u:Nat,valD (Lib.decDigits u)=u
 |u=>by
  rw[Lib.decDigits];split
  ·rename_i h;simp only[valD,List.foldl_cons,List.foldl_nil,j2Z h];omega
  ·rename_i h;rw[jaY,j7e (u/10),j2Z (Nat.mod_lt _ (by omega))]
   omega
 termination_by u=>u
 decreasing_by omega
theorem jcw{v:Nat}(h:Lib.decDigits u=Lib.decDigits v):u=v:=by rw[←j7e u,h,j7e v]
def j7k(c:UInt8):Bool:=decide (48≤c.toNat∧c.toNat≤57)
theorem j7d:∀u:Nat,(Lib.decDigits u).all j7k=true
 |u=>by
  rw[Lib.decDigits];split
  ·rename_i h;simp only[List.all_cons,List.all_nil,Bool.and_true,j7k,j2Z h];exact decide_eq_true (by omega)
  ·rename_i h;rw[List.all_append,j7d (u/10)];have hd:=j2Z (u:=u%10) (Nat.mod_lt _ (by omega))
   have hm:u%10<10:=Nat.mod_lt _ (by omega)
   simp only[List.all_cons,List.all_nil,Bool.and_true,Bool.true_and,j7k];refine decide_eq_true ?_;rw[hd];omega
 termination_by u=>u
 decreasing_by omega
theorem jbC(u:Nat):Lib.itoa (u:Int)=Lib.decDigits u:=by
 unfold Lib.itoa;rw[if_neg (by omega)]
 rfl
def topF(m:Nat):List UInt8:=108::Lib.decDigits m
def j1d(s p:List UInt8):Bool:=j1t s&&(j1t p&&(s == p||Lib.hasPrefix s (p++[46])))
theorem j6f:∀{a b r q:List UInt8},a.all j7k=true→b.all j7k=true→(r=[]∨∃r',r=46::r')→(q=[]∨∃q',q=46::q')→a++r=b++q→a=b
 |[],[],r,q,_,_,_,_,_=>rfl
 |[],y::b,r,q,_,hb,hr,_,h=>by
  simp only[List.all_cons,Bool.and_eq_true,j7k,decide_eq_true_eq] at hb;rcases hr with rfl|⟨r',rfl⟩
  ·simp at h
  ·simp only[List.nil_append,List.cons_append,List.cons.injEq] at h;rw[←h.1] at hb;exact absurd hb.1.1 (by decide)
 |x::a,[],r,q,ha,_,_,hq,h=>by
  simp only[List.all_cons,Bool.and_eq_true,j7k,decide_eq_true_eq] at ha;rcases hq with rfl|⟨q',rfl⟩
  ·simp at h
  ·simp only[List.nil_append,List.cons_append,List.cons.injEq] at h;rw[h.1] at ha;exact absurd ha.1.1 (by decide)
 |x::a,y::b,r,q,ha,hb,hr,hq,h=>by
  simp only[List.all_cons,Bool.and_eq_true] at ha hb;simp only[List.cons_append,List.cons.injEq] at h;rw[h.1,j6f ha.2 hb.2 hr hq h.2]
theorem j4M{p:List UInt8}(h:j1d s p=true):∃r,s=p++r∧(r=[]∨∃r',r=46::r'):=by
 simp only[j1d,Bool.and_eq_true,Bool.or_eq_true] at h;obtain⟨_,_,h|h⟩:=h
 ·exact⟨[],by simpa using h,.inl rfl⟩
 ·unfold Lib.hasPrefix at h;rw[List.isPrefixOf_iff_prefix] at h;obtain⟨r,hr⟩:=h;exact⟨46::r,by rw[←hr];simp,.inr ⟨r,rfl⟩⟩
theorem jaV{m k:Nat}(h1:j1d s (topF m)=true)(h2:j1d s (topF k)=true):m=k:=by
 obtain⟨r,e1,hr⟩:=j4M h1;obtain⟨q,e2,hq⟩:=j4M h2;have e:Lib.decDigits m++r=Lib.decDigits k++q:=by
  rw[e1] at e2;simpa[topF] using e2
 exact jcw (j6f (j7d m) (j7d k) hr hq e)
section
open Classical
noncomputable def cntU(l:List (List UInt8))(n:Nat):Nat:=l.countP fun s=>decide (∃m,n≤m∧j1d s (topF m)=true)
theorem j6e{α:Type}{p q:α→Bool}(h:∀x,q x=true→p x=true):∀{l:List α},(∃x∈l,p x=true∧q x=false)→l.countP q<l.countP p
 |[],hx=>by obtain⟨x,hx,_⟩:=hx;simp at hx
 |a::r,hx=>by
  have hle:r.countP q≤r.countP p:=List.countP_mono_left fun x _=>h x
  obtain⟨x,hm,h1,h2⟩:=hx;rcases List.mem_cons.1 hm with rfl|hm
  ·rw[List.countP_cons_of_pos h1,List.countP_cons_of_neg (by simp[h2])]
   omega
  ·have ih:=j6e h (l:=r) ⟨x,hm,h1,h2⟩
   by_cases hq:q a=true
   ·rw[List.countP_cons_of_pos hq,List.countP_cons_of_pos (h a hq)];omega
   ·rw[List.countP_cons_of_neg hq];have:r.countP p≤(a::r).countP p:=(List.sublist_cons_self a r).countP_le;omega
theorem j9M{l:List (List UInt8)}{n:Nat}(h:(l.any fun s=>j1d s (topF n))=true):cntU l (n+1)<cntU l n:=by
 unfold cntU;refine j6e (fun x hx=>?_) ?_
 ·obtain⟨m,h1,h2⟩:=of_decide_eq_true hx;exact decide_eq_true ⟨m,by omega,h2⟩
 ·obtain⟨s,hs,hu⟩:=List.any_eq_true.1 h;refine⟨s,hs,decide_eq_true ⟨n,Nat.le_refl _,hu⟩,decide_eq_false ?_⟩;rintro⟨m,h1,h2⟩;have:=jaV hu h2;omega
theorem jcr(l:List (List UInt8))(n:Nat):cntU l n≤l.length:=List.countP_le_length
end
def xF(m i:Nat):List UInt8:=topF m++[46,120]++Lib.decDigits i
def j1I(m n:Nat):List (List UInt8):=(List.range n).map (xF m)
theorem j3e(m n:Nat):(j1I m n).length=n:=by simp[j1I]
open Go Go.Gw
theorem j5d:∀(k u:Nat),u<10^(k+1)→(Lib.decDigits u).length≤k+1
 |0,u,h=>by
  rw[Lib.decDigits,dif_pos (by omega)]
  simp
 |k+1,u,h=>by
  rw[Lib.decDigits];split
  ·simp
  ·rw[List.length_append];have:=j5d k (u/10) (by rw[Nat.div_lt_iff_lt_mul (by omega)];rw[Nat.pow_succ] at h;exact h)
   simp only[List.length_cons,List.length_nil];omega
open Go Go.Am Go.Gw
theorem j5n(s p:List UInt8):Pf C1 192 [sv s,sv p] [bv (Lib.hasPrefix s p)]:=pf_nat (F:=j1H) rfl (by simp[j1H,bl])
theorem j6t(m:Nat)(h:m≤1000000):Pf C1 81 [iv m] [sv (Lib.decDigits m)]:=by
 refine pf_nat rfl ?_;have h1:Nat.ble (m:Int).natAbs 9223372036854775807=true:=Nat.ble_eq_true_of_le (by omega)
 have h2:=j8b (n:=(m:Int)) (by omega)
 rw[jbC] at h2;simp only[jbA,h1,h2];rfl
theorem j9l(s p:List UInt8)(hs:s.length≤140737488355328)(hp:p.length≤1000000):Pf C1 143 [sv s,sv p] [bv (j1d s p)]:=by
 have h1:=j1X s hs;have h2:=j1X p (by omega)
 have h3:=j5n s (p++[46]);refine run_intro Tryz.func143 rfl rfl rfl ?_;repeat'(first|refine gU ?_|apply gE<;>intro h|apply gM<;>intro h|refine gX h1 ?_|refine gX h2 ?_|refine j2b ?_|refine VOk.mk (decide_eq_true (by simp only[List.length_cons,List.length_nil];omega)) ?_|refine gX h3 ?_|apply gK)<;>conv=>whnf
 all_goals simp_all[j1d]
 all_goals(rw[beq_eq_false_iff_ne.2 (by assumption),Bool.false_or];rfl)
theorem ja7(s p:List UInt8)(hs:s.length≤140737488355328)(hp:p.length≤1000000):Pf C1 142 [sv s,.cp [sv p]] [bv (j1d s p)]:=by
 have h1:=j9l s p hs hp;refine run_intro Tryz.func142 rfl rfl rfl ?_;repeat'(first|refine gU ?_|apply gE<;>intro h|apply gM<;>intro h|refine gX h1 ?_|apply gK)<;>conv=>whnf
 rfl
def j8o(p:List UInt8):PV:=.fn 142 [] [.cp [sv p]]
def idxP(q:List UInt8→Bool):List (List UInt8)→Nat→Int
 |[],_=>-1
 |t::r,i=>if q t=true then i else idxP q r (i+1)
theorem j7T(q:List UInt8→Bool):∀(ts:List (List UInt8)) (i:Nat),decide (0≤idxP q ts i)=ts.any q
 |[],i=>by simp[idxP]
 |t::r,i=>by
  rw[idxP,List.any_cons]
  by_cases h:q t=true
  ·rw[if_pos h,h];simp
  ·rw[if_neg h,j7T q r,Bool.eq_false_iff.2 h];simp
theorem jbw(p:List UInt8)(hp:p.length≤1000000)(ns:List (List UInt8))(b:Bool)(z:Nat)(hz:z=1∨ns=[])(hbd:ns.length≤8796093022208)(hns:∀s∈ns,s.length≤140737488355328):Pf C1 123 [.sl b z (svs ns),j8o p] [iv (idxP (fun s=>j1d s p) ns 0)]:=by
 have hln:(svs ns).length=ns.length:=by simp
 refine run_intro Tryz.func123 rfl rfl rfl ?_;repeat'(first|refine gU ?_|apply gE<;>intro h|apply gM<;>intro h|apply gK)<;>conv=>whnf
 refine loop_over (G:=Nat) (fun i=>[(8,iv i)]) (fun _=>_) (fun i=>i≤ns.length∧idxP (fun s=>j1d s p) (ns.drop i) i=idxP (fun s=>j1d s p) ns 0) (fun i=>ns.length-i) 0 ⟨by omega,rfl⟩ rfl rfl ?_
 rintro i ⟨hi,hall⟩;dsimp only at hi hall⊢;repeat'(first|refine gU ?_|apply gE<;>intro h|apply gM<;>intro h|apply gK)<;>conv=>whnf
 ·have hi':i<ns.length:=by omega
  obtain⟨c,hc⟩:∃c,ns[i]?=some c:=⟨_,List.getElem?_eq_getElem hi'⟩;have hf:=ja7 c p (hns c (List.mem_of_getElem? hc)) hp;rw[drop_at hc,idxP] at hall;repeat'(first|refine gU ?_|apply gE<;>intro h|apply gM<;>intro h|refine VIdx.mk _ (j6H hc) ?_|refine VOk.mk (szOk_of rfl (j4m hz)) ?_|refine gX hf ?_|apply gK)<;>conv=>whnf
  ·rw[if_pos (by simpa using h)] at hall
   rw[←hall]
  ·rw[if_neg (by simpa using h)] at hall
   exact VAgain.mk _ rfl _ (gc_take rfl rfl rfl) ⟨i+1,⟨hi',hall⟩,by omega,rfl⟩
 ·rw[List.drop_of_length_le (by omega),idxP] at hall
  rw[←hall]
theorem jbc(p:List UInt8)(hp:p.length≤1000000)(ns:List (List UInt8))(b:Bool)(z:Nat)(hz:z=1∨ns=[])(hbd:ns.length≤8796093022208)(hns:∀s∈ns,s.length≤140737488355328):Pf C1 105 [.sl b z (svs ns),j8o p] [bv (ns.any fun s=>j1d s p)]:=by
 have hi:=jbw p hp ns b z hz hbd hns;have e:=j7T (fun s=>j1d s p) ns 0
 refine run_intro Tryz.func105 rfl rfl rfl ?_;repeat'(first|refine gU ?_|apply gE<;>intro h|apply gM<;>intro h|refine gX hi ?_|apply gK)<;>conv=>whnf
 rw[←e]
mutual
theorem j3u:∀(t:Tm) (p kk:Int),allT t p kk=true→∀c∈j0f t,j1t c=true
 | .mk k n s ls ts,p,kk,ha,c,hc=>by
  obtain⟨hk,hl,hnd,-,hts⟩:=j0b ha;rw[j0f,List.mem_append] at hc;rcases hc with hc|hc
  ·split at hc
   ·rename_i h3;simp at hc;subst hc;simp only[j1A,if_neg (show ¬k=1 by omega),if_pos h3,Bool.and_eq_true] at hnd
    exact hnd.2.1
   ·simp at hc
  ·exact j2W ts k 0 p kk hts c hc
theorem j2W:∀(ts:List Tm) (k i p kk:Int),j0g ts k i p kk=true→∀c∈j09 ts,j1t c=true
 |[],k,i,p,kk,ha,c,hc=>by simp[j09] at hc
 |t::r,k,i,p,kk,ha,c,hc=>by
  simp only[j0g,Bool.and_eq_true] at ha;rw[j09,List.mem_append] at hc;rcases hc with hc|hc
  ·exact j3u t p _ ha.1 c hc
  ·exact j2W r k (i+1) p kk ha.2 c hc
end
theorem j4R{t:Tm}(h:c∈j0s t):j1t c=true:=by
 unfold j0s at h;split at h
 ·rename_i ha;rw[j5v] at h;exact j3u t 4 _ (j0v ha).2 c h
 ·simp at h
theorem j8U(h:j1t c=true):c.length≤40:=by
 simp only[j1t,Bool.and_eq_true,decide_eq_true_eq] at h;exact h.1
def j6J(p:List UInt8)(t:Tm):Bool:=(j0s t).any fun s=>j1d s p
theorem ja8(p:List UInt8)(hp:p.length≤1000000)(t:Tm)(v:PV)(h:TmP t v):Pf C1 145 [v,.cp [j8o p]] [bv (j6J p t)]:=by
 have hc:=j4t t v h;have hl:=j3H t;obtain⟨b1,z1,he,hz1⟩:=j8M (j0s t);have hu:=jbc p hp (j0s t) b1 z1 hz1 (by omega) (fun s hs=>by have:=j8U (j4R hs);omega)
 rw[he] at hc;obtain⟨k,n,s0,ls,ts,b,z,xs,c,y,ys,rfl,rfl,-⟩:=h.open;refine run_intro Tryz.func145 rfl rfl rfl ?_;repeat'(first|refine gU ?_|apply gE<;>intro h|apply gM<;>intro h|refine finds_pf hc fun _=>?_|refine finds_pf hu fun _=>?_|apply gK)<;>conv=>whnf
 rfl
def jcY(p:List UInt8):PV:=.fn 145 [] [.cp [j8o p]]
theorem j7i(p:List UInt8)(hp:p.length≤1000000)(ts:List Tm)(b:Bool)(z:Nat)(xs:List PV)(hz:z=5∨xs=[])(hxs:TmsP ts xs)(hbd:ts.length≤1759218604441):Pf C1 193 [.sl b z xs,jcY p] [iv (idxT (j6J p) ts 0)]:=by
 have hlen:=hxs.len;refine run_intro Tryz.func193 rfl rfl rfl ?_;repeat'(first|refine gU ?_|apply gE<;>intro h|apply gM<;>intro h|apply gK)<;>conv=>whnf
 refine loop_over (G:=Nat) (fun i=>[(8,iv i)]) (fun _=>_) (fun i=>i≤ts.length∧idxT (j6J p) (ts.drop i) i=idxT (j6J p) ts 0) (fun i=>ts.length-i) 0 ⟨by omega,rfl⟩ rfl rfl ?_
 rintro i ⟨hi,hall⟩;dsimp only at hi hall⊢;repeat'(first|refine gU ?_|apply gE<;>intro h|apply gM<;>intro h|apply gK)<;>conv=>whnf
 ·have hi':i<ts.length:=by omega
  obtain⟨tc,htc⟩:∃tc,ts[i]?=some tc:=⟨_,List.getElem?_eq_getElem hi'⟩;obtain⟨v,hv,hl⟩:=hxs.at htc;have hw:=ja8 p hp tc v hl;obtain⟨k1,n1,s1,l1,t1,b1,z1,x1,c1,y1,ys1,rfl,rfl,hz1,hxs1,hlen1,hbd1,hy1,hys1,hlen21,hbd21,hsl1⟩:=hl.open;rw[drop_at htc,idxT] at hall;repeat'(first|refine gU ?_|apply gE<;>intro h|apply gM<;>intro h|refine VIdx.mk _ hv ?_|refine gZ hz ?_|refine gX hw ?_|apply gK)<;>conv=>whnf
  ·rw[if_pos (by simpa using h)] at hall
   rw[←hall]
  ·rw[if_neg (by simpa using h)] at hall
   exact VAgain.mk _ rfl _ (gc_take rfl rfl rfl) ⟨i+1,⟨hi',hall⟩,by omega,rfl⟩
 ·rw[List.drop_of_length_le (by omega),idxT] at hall
  rw[←hall]
theorem j6P(p:List UInt8)(hp:p.length≤1000000)(ts:List Tm)(b:Bool)(z:Nat)(xs:List PV)(hz:z=5∨xs=[])(hxs:TmsP ts xs)(hbd:ts.length≤1759218604441):Pf C1 144 [.sl b z xs,jcY p] [bv (ts.any (j6J p))]:=by
 have hi:=j7i p hp ts b z xs hz hxs hbd;have e:=j5o (j6J p) ts 0;refine run_intro Tryz.func144 rfl rfl rfl ?_;repeat'(first|refine gU ?_|apply gE<;>intro h|apply gM<;>intro h|refine gX hi ?_|apply gK)<;>conv=>whnf
 rw[←e]
def j5K(ts:List Tm)(m:Nat):Bool:=ts.any (j6J (topF m))
def ja9(q:Nat→Bool):Nat→Nat→Nat
 |0,m=>m
 |f+1,m=>match q m with
  |true=>ja9 q f (m+1)
  |false=>m
theorem j7R{q:Nat→Bool}:∀{f m k:Nat},(∀i,m≤i→i<k→q i=true)→q k=false→m≤k→k<m+f→ja9 q f m=k
 |0,m,k,_,_,h1,h2=>absurd h2 (by omega)
 |f+1,m,k,ha,hk,h1,h2=>by
  by_cases e:m=k
  ·subst e;simp only[ja9,hk]
  ·simp only[ja9,ha m (Nat.le_refl _) (by omega)]
   exact j7R (fun i h3 h4=>ha i (by omega) h4) hk (by omega) (by omega)
def j3b(ts:List Tm):Nat:=ja9 (j5K ts) 1000000 0
theorem jaX(ts:List Tm)(m:Nat):j5K ts m=(ts.flatMap j0s).any fun s=>j1d s (topF m):=by
 rw[List.any_flatMap];rfl
theorem j3R:∀ts:List Tm,(ts.flatMap j0s).length≤ts.length*2000
 |[]=>by simp
 |t::r=>by
  have:=j3R r;have:=j3H t;simp only[List.flatMap_cons,List.length_append,List.length_cons];omega
theorem jbt(ts:List Tm)(b:Bool)(z:Nat)(xs:List PV)(hz:z=5∨xs=[])(hxs:TmsP ts xs)(hbd:ts.length≤100):(j3b ts≤200000∧j5K ts (j3b ts)=false)∧Pf C1 80 [.sl b z xs] [sv (topF (j3b ts))]:=by
 have key:Finds C1 80 [.sl b z xs] [] fun r _=>(j3b ts≤200000∧j5K ts (j3b ts)=false)∧r=.ret [sv (topF (j3b ts))]:=by
  refine run_intro Tryz.func80 rfl rfl rfl ?_;repeat'(first|refine gU ?_|apply gE<;>intro h|apply gM<;>intro h|apply gK)<;>conv=>whnf
  refine loop_over (G:=Nat) (fun m=>[(3,iv m)]) (fun _=>[]) (fun m=>m+cntU (ts.flatMap j0s) m≤200000∧∀i,i<m→j5K ts i=true) (fun m=>cntU (ts.flatMap j0s) m) 0 ⟨by have:=jcr (ts.flatMap j0s) 0;have:=j3R ts;omega,fun i hi=>absurd hi (by omega)⟩ rfl rfl ?_
  rintro m ⟨hm,hall⟩;have hit:=j6t m (by omega)
  have hml:(Lib.decDigits m).length≤6:=j5d 5 m (by omega)
  have hap:=j6P (topF m) (by simp only[topF,List.length_cons];omega) ts b z xs hz hxs (by omega)
  repeat'(first|refine gU ?_|apply gE<;>intro h|apply gM<;>intro h|refine gX hit ?_|refine j2b ?_|refine VOk.mk (decide_eq_true (by simp only[List.length_cons,List.length_nil];omega)) ?_|apply gK)<;>conv=>whnf
  have e:ts.any (j6J (topF m))=j5K ts m:=rfl;rw[e] at hap;refine j0K (args':=[.sl b z xs,jcY (topF m)]) rfl rfl hap rfl ?_;repeat'(first|refine gU ?_|apply gE<;>intro h|apply gM<;>intro h|apply gK)<;>conv=>whnf
  ·have h1:j5K ts m=true:=by assumption
   have:=j9M (l:=ts.flatMap j0s) (n:=m) (by rw[←jaX];exact h1)
   refine VAgain.mk _ rfl _ rfl ⟨m+1,⟨by omega,fun i hi=>?_⟩,this,rfl⟩
   by_cases e:i=m
   ·subst e;exact h1
   ·exact hall i (by omega)
  ·have h1:j5K ts m=false:=by assumption
   have e:j3b ts=m:=j7R (fun i _ hi=>hall i hi) h1 (by omega) (by omega)
   rw[e];exact⟨⟨by omega,h1⟩,rfl⟩
 obtain⟨r,st',⟨hm,rfl⟩,N,hN⟩:=key;exact⟨hm,⟨_,st',rfl,N,hN⟩⟩
theorem ja2{l:List (List UInt8)}(h:0<l.length):j4q l=.sl false 1 (svs l):=by
 cases l with
 |nil=>simp at h
 |cons d r=>rfl
theorem j9k(n:Int)(hn:0≤n∧n≤200)(ts:List Tm)(b:Bool)(z:Nat)(xs:List PV)(hz:z=5∨xs=[])(hxs:TmsP ts xs)(hbd:ts.length≤100):(j3b ts≤200000∧j5K ts (j3b ts)=false)∧Pf C1 41 [iv n,.sl b z xs] [j4q (j1I (j3b ts) n.toNat)]:=by
 obtain⟨hm,hf⟩:=jbt ts b z xs hz hxs hbd;refine⟨hm,?_⟩;generalize j3b ts=m at hm hf⊢;have hml:(Lib.decDigits m).length≤6:=j5d 5 m (by have:=hm.1;omega)
 have hn0:¬n<0:=by omega
 have hn1:¬(200:Int)<n:=by omega
 refine run_intro Tryz.func41 rfl rfl rfl ?_;repeat'(first|refine gU ?_|apply gE<;>intro h|apply gM<;>intro h|refine gX hf ?_|apply gK)<;>conv=>whnf
 refine loop_over (G:=Nat) (fun i=>[(17,iv i),(6,match i with
   |0=>.sl true 0 []
   |j+1=>.ms 0 (j+1))]) (fun i=>match i with
   |0=>[]
   |j+1=>[.row false 9 1 (svs (j1I m (j+1)))]) (fun i=>(i:Int)≤n) (fun i=>n.toNat-i) 0 (by omega) rfl rfl ?_
 intro i hi;have hit:=j6t i (by omega)
 have hil:(Lib.decDigits i).length≤4:=j5d 3 i (by omega)
 have e:svs (j1I m (i+1))=svs (j1I m i)++[sv (xF m i)]:=by simp[svs,j1I,List.range_succ]
 have hx:topF m++[46,120]++Lib.decDigits i=xF m i:=rfl;cases i with
 |zero=>
  repeat'(first|refine gU ?_|apply gE<;>intro h|apply gM<;>intro h|refine gX hit ?_|refine j2b ?_|refine VOk.mk (decide_eq_true (by simp only[topF,List.length_append,List.length_cons,List.length_nil];omega)) ?_|apply gK)<;>conv=>whnf
  ·have e0:svs (j1I m (0+1))=[sv (topF m++[46,120]++Lib.decDigits 0)]:=by rw[e];rfl
   exact VAgain.mk _ rfl _ (j0q (.cons (j03 rfl) .nil) (.cons (j03 rfl) .nil) rfl rfl rfl rfl rfl) ⟨1,by omega,by omega,congrArg (fun t=>(⟨_,[.row false _ 1 t]⟩:AS)) e0.symm⟩
  ·rw[show n.toNat=0 by omega]
   rfl
 |succ i=>
  have hln:(svs (j1I m (i+1))).length=i+1:=by simp[j3e]
  have hp8:(svs (j1I m (i+1))++[sv (topF m++[46,120]++Lib.decDigits (i+1))]).all (pur 8)=true:=by
   rw[hx,←e];exact j05 _
  repeat'(first|refine gU ?_|apply gE<;>intro h|apply gM<;>intro h|refine gX hit ?_|refine j2b ?_|refine VOk.mk (decide_eq_true (by simp only[topF,List.length_append,List.length_cons,List.length_nil];omega)) ?_|refine VOk.mk (j0o (w:=16) (r:=140737488355328) hln rfl rfl rfl rfl (by simp only[List.length_cons,List.length_nil];omega) (by simp only[List.length_cons,List.length_nil];omega)) ?_|apply gK)<;>conv=>whnf
  ·exact VAgain.mk _ rfl _ (j0q (.cons (j03 hp8) .nil) (.cons (j03 hp8) .nil) rfl rfl rfl rfl rfl) ⟨i+1+1,by omega,by omega,congrArg (fun t=>(⟨_,[.row false _ 1 t]⟩:AS)) e.symm⟩
  ·rw[show n.toNat=i+1 by omega,ja2 (by rw[j3e];omega)]
   refine j5L rfl rfl hln.symm (j4n _) ?_;rfl
open Go Go.Am Go.Gw
def RT(f:FuncId)(args:List PV)(t:Tm):Prop:=∃w,TmP t w∧Pf C1 f args [w]
def appV:PV→List Tm→PV
 |w,[]=>w
 |w,a::r=>appV (.ag [iv 4,iv 0,sv [],.sl true 0 [],.sl true 5 [w,encT a]]) r
theorem j3M:∀(ts:List Tm) (k n:Int) (s:List UInt8) (b:Bool) (z:Nat) (xs:List PV) (c:Bool) (y:Nat) (ys:List PV),∃k' n' s' b' z' xs' c' y' ys',appV (.ag [iv k,iv n,sv s,.sl b z xs,.sl c y ys]) ts=.ag [iv k',iv n',sv s',.sl b' z' xs',.sl c' y' ys']
 |[],_,_,_,_,_,_,_,_,_=>⟨_,_,_,_,_,_,_,_,_,rfl⟩
 |a::r,k,n,s,b,z,xs,c,y,ys=>by rw[appV];exact j3M r _ _ _ _ _ _ _ _ _
theorem j5W:∀(ts:List Tm) (w:PV) (a:Tm),appV w (ts++[a])=.ag [iv 4,iv 0,sv [],.sl true 0 [],.sl true 5 [appV w ts,encT a]]
 |[],w,a=>rfl
 |b::r,w,a=>by rw[List.cons_append,appV,j5W r,appV]
theorem j7z(t:Tm)(v:PV)(h:TmP t v)(ts:List Tm)(b:Bool)(z:Nat)(xs:List PV)(hz:z=5∨xs=[])(hxs:TmsP ts xs)(hbd:ts.length≤1000000):Pf C1 23 [v,.sl b z xs] [appV (encT t) ts]:=by
 have hf:=j3V t v h;have hlen:=hxs.len;obtain⟨k2,n2,s2,b2,z2,x2,c2,y2,ys2,he⟩:=j04 t;rw[he] at hf⊢;obtain⟨k0,n0,s0,ls0,ts0,b0,z0,xs0,c0,y0,ys0,rfl,rfl,-⟩:=h.open;refine run_intro Tryz.func23 rfl rfl rfl ?_;repeat'(first|refine gU ?_|apply gE<;>intro h|apply gM<;>intro h|refine gX hf ?_|apply gK)<;>conv=>whnf
 refine loop_over (G:=Nat) (fun i=>[(12,iv i)]) (fun i=>[_,_,.box 25 (appV (.ag [iv k2,iv n2,sv s2,.sl b2 z2 x2,.sl c2 y2 ys2]) (ts.take i)).cells]) (fun i=>i≤ts.length) (fun i=>ts.length-i) 0 (by omega) rfl rfl ?_
 intro i hi;obtain⟨k3,n3,s3,b3,z3,x3,c3,y3,ys3,he3⟩:=j3M (ts.take i) k2 n2 s2 b2 z2 x2 c2 y2 ys2;rw[he3];simp only[PV.cells];repeat'(first|refine gU ?_|apply gE<;>intro h|apply gM<;>intro h|apply gK)<;>conv=>whnf
 ·have hi':i<ts.length:=by omega
  obtain⟨tc,htc⟩:∃tc,ts[i]?=some tc:=⟨_,List.getElem?_eq_getElem hi'⟩;obtain⟨v,hv,hl⟩:=hxs.at htc;have hfc:=j3V tc v hl;have e:=j5W (ts.take i) (.ag [iv k2,iv n2,sv s2,.sl b2 z2 x2,.sl c2 y2 ys2]) tc;rw[←take_snoc' htc,he3] at e;obtain⟨k4,n4,s4,b4,z4,x4,c4,y4,ys4,he4⟩:=j04 tc;rw[he4] at hfc e;obtain⟨k1,n1,s1,l1,t1,b1,z1,x1,c1,y1,ys1,rfl,rfl,-⟩:=hl.open;repeat'(first|refine gU ?_|apply gE<;>intro h|apply gM<;>intro h|refine VIdx.mk _ hv ?_|refine gZ hz ?_|refine finds_pf hfc fun _=>?_|apply gK)<;>conv=>whnf
  exact VAgain.mk _ rfl _ (gc_take rfl rfl rfl) ⟨i+1,hi',by omega,congrArg (fun t=>(⟨_,[_,_,.box _ t]⟩:AS)) (congrArg PV.cells e).symm⟩
 ·rw[List.take_of_length_le (by omega)] at he3
  rw[he3];rfl
def jco(args:List PV)(st:Sto):Option (AEnd×Sto):=match args,st with
 |[v,.sl b z xs],[]=>match asTm v,mapO asTm xs,Nat.ble xs.length 1000000&&(Nat.beq z 5||xs.isEmpty) with
  |some t,some us,true=>match pur 8 (appV (encT t) us) with
   |true=>some (.ret [appV (encT t) us],[])
   |false=>none
  |_,_,_=>none
 |_,_=>none
theorem jdi:DoesOk (CallD C1.P 23) jco:=j0H (fun n=>(j3B n).call) fun args st r st' h=>by
 unfold jco at h;split at h
 ·rename_i v b z xs;split at h
  ·rename_i t us ht hl hb;split at h
   ·rename_i hp;cases h;rw[Bool.and_eq_true] at hb;have hls:=j4W hl;have hlen:=hls.len;have h1:=Nat.le_of_ble_eq_true hb.1;exact⟨rfl,rfl,_,rfl,by simp only[List.all_cons,List.all_nil,Bool.and_true];exact hp,j7z t v (j0W ht) us b z xs (emp hb.2) hls (by omega)⟩
   ·cases h
  ·cases h
 ·cases h
def jaB(args:List PV)(st:Sto):Option (AEnd×Sto):=match args,st with
 |[.sc (.int .i64 n),.sl b z xs],[]=>match mapO asTm xs,Nat.ble xs.length 100&&(Nat.beq z 5||xs.isEmpty)&&decide (0≤n∧n≤200) with
  |some ts,true=>match pur 8 (j4q (j1I (j3b ts) n.toNat)) with
   |true=>some (.ret [j4q (j1I (j3b ts) n.toNat)],[])
   |false=>none
  |_,_=>none
 |_,_=>none
theorem jbp:DoesOk (CallD C1.P 41) jaB:=j0H (fun n=>(j3B n).call) fun args st r st' h=>by
 unfold jaB at h;split at h
 ·rename_i n b z xs;split at h
  ·rename_i ts hl hb;split at h
   ·rename_i hp;cases h;rw[Bool.and_eq_true,Bool.and_eq_true] at hb;have hls:=j4W hl;have hlen:=hls.len;have h1:=Nat.le_of_ble_eq_true hb.1.1;exact⟨rfl,rfl,_,rfl,by simp only[List.all_cons,List.all_nil,Bool.and_true];exact hp,(j9k n (of_decide_eq_true hb.2) ts b z xs (emp hb.1.2) hls (by omega)).2⟩
   ·cases h
  ·cases h
 ·cases h
def j6R:List PV→Option (List (List (List UInt8×Tm)))
 |[]=>some []
 | .sl _ z ys::r=>match mapO asLo ys,j6R r,Nat.beq z 6||ys.isEmpty with
  |some l,some ls,true=>some (l::ls)
  |_,_,_=>none
 |_::_=>none
theorem j4V:∀{xs:List PV}{ls:List (List (List UInt8×Tm))},j6R xs=some ls→LssP ls xs
 |[],ls,h=>by
  simp only[j6R] at h;cases h;simp only[LssP]
 |x::r,ls,h=>by
  unfold j6R at h;split at h
  ·rename_i heq;cases heq
  ·rename_i b z ys r' heq;cases heq;split at h
   ·rename_i l ls' h1 h2 h3;cases h;simp only[LssP];exact⟨_,_,_,_,rfl,emp h3,j2L h1,j4V h2⟩
   ·cases h
  ·cases h
def j7b(args:List PV)(st:Sto):Option (AEnd×Sto):=match args,st with
 |[.sl b z xs],[]=>match j6R xs,Nat.ble xs.length 1000000&&(Nat.beq z 1||xs.isEmpty)&&Nat.ble (catP xs).length 1000000 with
  |some _,true=>match pur 8 (catV xs) with
   |true=>some (.ret [catV xs],[])
   |false=>none
  |_,_=>none
 |_,_=>none
theorem j9Y:DoesOk (CallD C1.P 148) j7b:=j0H (C:=C9) (fun n=>(j6V n).call) fun args st r st' h=>by
 unfold j7b at h;split at h
 ·rename_i b z xs;split at h
  ·rename_i ls hl hb;split at h
   ·rename_i hp;cases h;rw[Bool.and_eq_true,Bool.and_eq_true] at hb;have h1:=Nat.le_of_ble_eq_true hb.1.1;have h2:=Nat.le_of_ble_eq_true hb.2;exact⟨rfl,rfl,_,rfl,by simp only[List.all_cons,List.all_nil,Bool.and_true];exact hp,j2s ls b z xs (emp hb.1.2) (j4V hl) h1 h2⟩
   ·cases h
  ·cases h
 ·cases h
end Go.Proofs.YtnfbeplfnblgjaaGreatDoor
