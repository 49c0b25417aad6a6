/- The names of an environment, as they were added; the law of declarations taken in together, walked. -/
import Derived.Test.YtbnodhcijeaceaaGreatDoorZOg
set_option linter.all false
set_option maxHeartbeats 8000000
set_option maxRecDepth 100000
namespace Go.Proofs.YtbnodhcijeaceaaGreatDoor
open Go Go.Am Go.Gw
def ordS(don:List (List UInt8)):Sto:=match don with
 |[]=>[]
 |d::r=>[.dead,.row false 9 1 (svs (d::r))]
def ordV(don:List (List UInt8)):PV:=match don with
 |[]=>.sl true 0 []
 |_::r=>.ms 1 (r.length+1)
theorem jjW{α β:Type}{f:α→β}{l:List α}{i:Nat}{a:α}(h:l[i]?=some a):(l.take (i+1)).map f=(l.take i).map f++[f a]:=by
 rw[List.take_add_one,h];simp
theorem jfd(E:Nv)(v:PV)(h:NvP E v):Pf C1 41 [v] [jkI (E.es.map (·.nm))]:=by
 obtain⟨b,z,xs,rfl,hz,hx,hok⟩:=h;have hlen:=hx.len;have hz':=NvP.zok hz hx;have hbd:=hok.len;refine j00 Tryz.func41 rfl rfl rfl ?_;repeat'(first|refine gU ?_|apply gE<;>intro h|apply gM<;>intro h|apply gK)<;>conv=>whnf
 refine j03 (G:=List (List UInt8)×Nat) (fun g=>[(11,iv g.2),(3,ordV g.1)]) (fun g=>ordS g.1) (fun g=>g.2≤E.es.length∧g.1=(E.es.take g.2).map (·.nm)) (fun g=>E.es.length-g.2) ([],0) ⟨by omega,rfl⟩ rfl rfl ?_
 rintro⟨don,i⟩ ⟨hi,hd⟩;dsimp only at hi hd⊢;have hdl:don.length=i:=by rw[hd];simp;omega
 cases don with
 |nil=>
  simp only[ordS,ordV];repeat'(first|refine gU ?_|apply gE<;>intro h|apply gM<;>intro h|apply gK)<;>conv=>whnf
  ·have hi':i<E.es.length:=by omega
   obtain⟨e,he⟩:∃e,E.es[i]?=some e:=⟨_,List.getElem?_eq_getElem hi'⟩;obtain⟨w,hw,hP⟩:=hx.at he;have ht:=jjW (f:=En.nm) he;rw[←hd] at ht;obtain⟨a1,a2,a3,a4,a5,a6,a7,a8,a9,a10,a11,a12,a13,a14,a15,a16,a17,a18,a19,a20,rfl,-⟩:=hP;repeat'(first|refine gU ?_|apply gE<;>intro h|apply gM<;>intro h|refine VIdx.mk _ hw ?_|refine gZ hz' ?_|apply gK)<;>conv=>whnf
   exact VAgain.mk _ rfl _ (j0L (.cons (j02 rfl rfl) (.cons (j08 rfl) .nil)) (.cons j0i (.cons (j08 rfl) .nil)) rfl rfl rfl rfl rfl) ⟨([e.nm],i+1),⟨hi',ht.symm⟩,by dsimp only;omega,rfl⟩
  ·have hl:i=E.es.length:=by omega
   subst hl;rw[List.take_length] at hd;rw[←hd];rfl
 |cons d r=>
  simp only[ordS,ordV];have hln:(svs (d::r)).length=r.length+1:=by simp
  simp only[List.length_cons] at hdl;repeat'(first|refine gU ?_|apply gE<;>intro h|apply gM<;>intro h|apply gK)<;>conv=>whnf
  ·have hi':i<E.es.length:=by omega
   obtain⟨e,he⟩:∃e,E.es[i]?=some e:=⟨_,List.getElem?_eq_getElem hi'⟩;obtain⟨w,hw,hP⟩:=hx.at he;have ht:=jjW (f:=En.nm) he;rw[←hd] at ht;obtain⟨a1,a2,a3,a4,a5,a6,a7,a8,a9,a10,a11,a12,a13,a14,a15,a16,a17,a18,a19,a20,rfl,-⟩:=hP;repeat'(first|refine gU ?_|apply gE<;>intro h|apply gM<;>intro h|refine VIdx.mk _ hw ?_|refine gZ hz' ?_|refine VOk.mk (j1h (w:=16) (r:=140737488355328) hln rfl rfl rfl rfl (by simp only[List.length_cons,List.length_nil];omega) (by simp only[List.length_cons,List.length_nil];omega)) ?_|apply gK)<;>conv=>whnf
   have hp8:(svs (d::r)++[sv e.nm]).all (pur 8)=true:=by
    rw[show svs (d::r)++[sv e.nm]=svs (d::r++[e.nm]) by simp[svs]]
    exact j0d _
   exact VAgain.mk _ rfl _ (j0L (.cons j0i (.cons (j08 hp8) (.cons (j02 rfl rfl) .nil))) (.cons j0i (.cons (j08 hp8) .nil)) rfl rfl rfl rfl rfl) ⟨(d::(r++[e.nm]),i+1),⟨hi',ht.symm⟩,by dsimp only;omega,by simp only[ordS,ordV,svs,List.map_cons,List.map_append,List.length_append];rfl⟩
  ·have hl:i=E.es.length:=by omega
   subst hl;rw[List.take_length] at hd;rw[←hd];exact j0n rfl (j04 (j0D rfl (by simp) (j8B _)) j0m) rfl rfl
open Go Go.Am Go.Gw
theorem jmg{n m:Nat}(h:n≤m){tot:Int}:∀{ds:List Dc}{E:Nv}{i:Nat}{s:Int}{r:Option Nv×Int×Int},allF n tot E ds i s=some r→allF m tot E ds i s=some r
 |[],_,_,_,_,hx=>hx
 |d::ds,E,i,s,r,hx=>by
  unfold allF at hx⊢;cases hp:j1o E n d tot with
  |none=>rw[hp] at hx;cases hx
  |some y=>
   rw[jgw h hp];rw[hp] at hx;obtain⟨y,u⟩:=y;cases y with
   |error e=>exact hx
   |ok e=>exact jmg h hx
theorem jiH{tot:Int}(h0:0≤tot):∀(ds:List Dc) (E:Nv) (i:Nat) (s:Int),NvG E→E.es.length+ds.length<3000→∃n r,allF n tot E ds i s=some r
 |[],E,i,s,_,_=>⟨0,_,rfl⟩
 |d::ds,E,i,s,hG,hl=>by
  simp only[List.length_cons] at hl;obtain⟨n,r,u,hp,-⟩:=j6T hG.ok d tot h0;cases r with
  |error e=>
   refine⟨n,(none,(i:Int),e),?_⟩;unfold allF;rw[hp]
  |ok e=>
   have hr:=jbx hp;obtain⟨m,r,hx⟩:=jiH h0 ds (E.push e) (i+1) (s+u) (hG.push hr.1 (by omega)).1 (by simp only[Nv.push,List.length_append,List.length_cons,List.length_nil];omega)
   refine⟨max n m,r,?_⟩;unfold allF;rw[jgw (Nat.le_max_left n m) hp];exact jmg (Nat.le_max_right n m) hx
theorem jmh{n:Nat}{tot:Int}{E2:Nv}{s2 e2:Int}:∀{ds:List Dc}{E:Nv}{i:Nat}{s:Int},allF n tot E ds i s=some (some E2,s2,e2)→e2=0
 |[],_,_,_,hx=>by
  cases hx;rfl
 |d::ds,E,i,s,hx=>by
  unfold allF at hx;split at hx
  ·cases hx
  ·cases hx
  ·exact jmh hx
variable{x y:Operand}
theorem ju6:j0j C1.P .eql 54 x y nilP nilP=some (bv true):=by kernel_rfl
theorem ju7:j0j C1.P .neq 54 x y nilP nilP=some (bv false):=by kernel_rfl
theorem jk5{op:BinOp}{K:PV→Prop}(h:jqd op true K):VRes (j0j C1.P op 54 x y nilP nilP) K:=by
 cases op with
 |eql=>exact⟨_,ju6,h⟩
 |neq=>exact⟨_,ju7,h⟩
 |_=>exact h.elim
theorem jkJ(l:List (List UInt8)):∃b z,jkI l=.sl b z (svs l)∧(z=1∨l=[]):=by
 cases l with
 |nil=>exact⟨_,_,rfl,.inr rfl⟩
 |cons d r=>exact⟨_,_,rfl,.inl rfl⟩
theorem jfn(ds:List Dc)(vs:List PV)(hds:DcsP ds vs)(b:Bool)(z:Nat)(hz:z=15∨vs=[])(hbd:ds.length≤1000000000000)(fuel:Int):Pf C1 8 [.sl b z vs,iv fuel] [bv true]:=by
 have ha:=jaC;have hlen:=hds.len
 by_cases hb:ds.length≤5∧0≤fuel∧fuel≤4000
 rotate_left
 ·refine j00 Tryz.func8 rfl rfl rfl ?_;repeat'(first|refine gU ?_|apply gE<;>intro h|apply gM<;>intro h|refine gX ha ?_|apply gK)<;>conv=>whnf
  all_goals first|rfl|(exfalso;omega)
 obtain⟨b1,b2,b3⟩:=hb;obtain⟨cs,hE,hL⟩:=jbd;have h14:nv14.es.length=12:=by decide
 obtain⟨n,r,hr⟩:=jiH b2 ds nv14 0 0 nv14_G (by omega)
 have hA:=jm4 hE nv14_G b2 (by omega) ds b z vs hz hds (by omega) r hr
 obtain⟨o,s2,e2⟩:=r;cases o with
 |none=>
  have hA:Pf C1 _ _ _:=hA;refine j00 Tryz.func8 rfl rfl rfl ?_;repeat'(first|refine gU ?_|apply gE<;>intro h|apply gM<;>intro h|refine gX ha ?_|apply gK)<;>conv=>whnf
  all_goals first|rfl|(exfalso;omega)|skip
  refine j03 (G:=Nat) (fun i=>[(5,iv i)]) (fun _=>_) (fun i=>i≤ds.length) (fun i=>ds.length-i) 0 (by omega) rfl rfl ?_
  intro i hi;dsimp only at hi⊢;repeat'(first|refine gU ?_|apply gE<;>intro h|apply gM<;>intro h|apply gK)<;>conv=>whnf
  ·have hi':i<ds.length:=by omega
   obtain⟨d,hd⟩:∃d,ds[i]?=some d:=⟨_,List.getElem?_eq_getElem hi'⟩;obtain⟨v,hv,hP⟩:=hds.at hd;obtain⟨q,hg⟩:=j7x d v hP;cases hP;cases q with
   |true=>
    repeat'(first|refine gU ?_|apply gE<;>intro h|apply gM<;>intro h|refine VNat.mk i rfl ?_|refine VIdx.mk _ hv ?_|refine gZ hz ?_|refine gX hg ?_|apply gK)<;>conv=>whnf
    all_goals rfl
   |false=>
    repeat'(first|refine gU ?_|apply gE<;>intro h|apply gM<;>intro h|refine VNat.mk i rfl ?_|refine VIdx.mk _ hv ?_|refine gZ hz ?_|refine gX hg ?_|apply gK)<;>conv=>whnf
    exact VAgain.mk _ rfl _ (j0a rfl rfl rfl) ⟨i+1,hi',by omega,rfl⟩
  repeat'(first|refine gU ?_|apply gE<;>intro h|apply gM<;>intro h|refine gX hL ?_|refine gX hA ?_|apply gK)<;>conv=>whnf
  refine j03 (G:=Nat×Nv×List PV×Int) (fun g=>[(9,.cp g.2.2.1),(10,iv g.2.2.2),(11,iv g.1)]) (fun _=>_) (fun g=>g.1≤ds.length∧NvG g.2.1∧NvP g.2.1 (.cp g.2.2.1)∧g.2.1.es.length+(ds.length-g.1)<3000∧(0≤g.2.2.2∧g.2.2.2≤1048576*g.1)∧allF n fuel g.2.1 (ds.drop g.1) g.1 g.2.2.2=some (none,s2,e2)) (fun g=>ds.length-g.1) (0,nv14,cs,0) ⟨by omega,nv14_G,hE,by dsimp only;omega,by dsimp only;omega,hr⟩ rfl rfl ?_
  rintro⟨i,Ei,ci,s⟩ ⟨hi,eG,eE,el,es_,hall⟩;dsimp only at hi eG eE el es_ hall⊢;repeat'(first|refine gU ?_|apply gE<;>intro h|apply gM<;>intro h|apply gK)<;>conv=>whnf
  ·have hi':i<ds.length:=by omega
   obtain⟨d,hd⟩:∃d,ds[i]?=some d:=⟨_,List.getElem?_eq_getElem hi'⟩;obtain⟨v,hv,hP⟩:=hds.at hd;rw[drop_at hd] at hall;unfold allF at hall;cases hp:j1o Ei n d fuel with
   |none=>rw[hp] at hall;cases hall
   |some y=>
    obtain⟨y,u⟩:=y;rw[hp] at hall;obtain⟨u0,u1,ue⟩:=jbv b2 hp;have hB:=j1k eE eG (by omega) b2 (by omega) d v hP y u ue hp
    cases hP;cases y with
    |error e=>
     have he:=ue e rfl;cases hall;all_goals have hB:Pf C1 _ _ _:=hB
     all_goals have ee:e2=e2:=rfl
     all_goals have ii:(i:Int)=i:=rfl
     repeat'(first|refine gU ?_|apply gE<;>intro h|apply gM<;>intro h|refine VNat.mk i rfl ?_|refine VIdx.mk _ hv ?_|refine gZ hz ?_|refine gX hB ?_|refine jk5 ?_|apply gK)<;>conv=>whnf
     all_goals first|rfl|exact j2g (decide_eq_true rfl)|contradiction|(exfalso;omega)
    |ok e=>
     obtain⟨kG,c2,kE,hB⟩:=hB;have hle:(Ei.push e).es.length=Ei.es.length+1:=by simp[Nv.push]
     repeat'(first|refine gU ?_|apply gE<;>intro h|apply gM<;>intro h|refine VNat.mk i rfl ?_|refine VIdx.mk _ hv ?_|refine gZ hz ?_|refine gX hB ?_|apply gK)<;>conv=>whnf
     all_goals first|contradiction|(exfalso;omega)|exact VAgain.mk _ rfl _ (j0a rfl rfl rfl) ⟨(i+1,Ei.push e,c2,s+u),⟨hi',kG,kE,by dsimp only;omega,by dsimp only;omega,hall⟩,by dsimp only;omega,rfl⟩
  all_goals obtain rfl:i=ds.length:=by omega
  all_goals rw[List.drop_length] at hall
  all_goals cases hall
 |some E2=>
  obtain rfl:=jmh hr;obtain⟨aG,ca,aE,hA⟩:=hA;have hO:=jfd E2 _ aE;refine j00 Tryz.func8 rfl rfl rfl ?_;repeat'(first|refine gU ?_|apply gE<;>intro h|apply gM<;>intro h|refine gX ha ?_|apply gK)<;>conv=>whnf
  all_goals first|rfl|(exfalso;omega)|skip
  refine j03 (G:=Nat) (fun i=>[(5,iv i)]) (fun _=>_) (fun i=>i≤ds.length) (fun i=>ds.length-i) 0 (by omega) rfl rfl ?_
  intro i hi;dsimp only at hi⊢;repeat'(first|refine gU ?_|apply gE<;>intro h|apply gM<;>intro h|apply gK)<;>conv=>whnf
  ·have hi':i<ds.length:=by omega
   obtain⟨d,hd⟩:∃d,ds[i]?=some d:=⟨_,List.getElem?_eq_getElem hi'⟩;obtain⟨v,hv,hP⟩:=hds.at hd;obtain⟨q,hg⟩:=j7x d v hP;cases hP;cases q with
   |true=>
    repeat'(first|refine gU ?_|apply gE<;>intro h|apply gM<;>intro h|refine VNat.mk i rfl ?_|refine VIdx.mk _ hv ?_|refine gZ hz ?_|refine gX hg ?_|apply gK)<;>conv=>whnf
    all_goals rfl
   |false=>
    repeat'(first|refine gU ?_|apply gE<;>intro h|apply gM<;>intro h|refine VNat.mk i rfl ?_|refine VIdx.mk _ hv ?_|refine gZ hz ?_|refine gX hg ?_|apply gK)<;>conv=>whnf
    exact VAgain.mk _ rfl _ (j0a rfl rfl rfl) ⟨i+1,hi',by omega,rfl⟩
  repeat'(first|refine gU ?_|apply gE<;>intro h|apply gM<;>intro h|refine gX hL ?_|refine gX hA ?_|apply gK)<;>conv=>whnf
  refine j03 (G:=Nat×Nv×List PV×Int) (fun g=>[(9,.cp g.2.2.1),(10,iv g.2.2.2),(11,iv g.1)]) (fun _=>_) (fun g=>g.1≤ds.length∧NvG g.2.1∧NvP g.2.1 (.cp g.2.2.1)∧g.2.1.es.length+(ds.length-g.1)<3000∧(0≤g.2.2.2∧g.2.2.2≤1048576*g.1)∧allF n fuel g.2.1 (ds.drop g.1) g.1 g.2.2.2=some (some E2,s2,0)) (fun g=>ds.length-g.1) (0,nv14,cs,0) ⟨by omega,nv14_G,hE,by dsimp only;omega,by dsimp only;omega,hr⟩ rfl rfl ?_
  rintro⟨i,Ei,ci,s⟩ ⟨hi,eG,eE,el,es_,hall⟩;dsimp only at hi eG eE el es_ hall⊢;repeat'(first|refine gU ?_|apply gE<;>intro h|apply gM<;>intro h|apply gK)<;>conv=>whnf
  ·have hi':i<ds.length:=by omega
   obtain⟨d,hd⟩:∃d,ds[i]?=some d:=⟨_,List.getElem?_eq_getElem hi'⟩;obtain⟨v,hv,hP⟩:=hds.at hd;rw[drop_at hd] at hall;unfold allF at hall;cases hp:j1o Ei n d fuel with
   |none=>rw[hp] at hall;cases hall
   |some y=>
    obtain⟨y,u⟩:=y;rw[hp] at hall;obtain⟨u0,u1,ue⟩:=jbv b2 hp;have hB:=j1k eE eG (by omega) b2 (by omega) d v hP y u ue hp
    cases hP;cases y with
    |error e=>
     have he:=ue e rfl;cases hall;all_goals have hB:Pf C1 _ _ _:=hB
     all_goals have ee:e2=e2:=rfl
     all_goals have ii:(i:Int)=i:=rfl
     repeat'(first|refine gU ?_|apply gE<;>intro h|apply gM<;>intro h|refine VNat.mk i rfl ?_|refine VIdx.mk _ hv ?_|refine gZ hz ?_|refine gX hB ?_|refine jk5 ?_|apply gK)<;>conv=>whnf
     all_goals first|rfl|exact j2g (decide_eq_true rfl)|contradiction|(exfalso;omega)
    |ok e=>
     obtain⟨kG,c2,kE,hB⟩:=hB;have hle:(Ei.push e).es.length=Ei.es.length+1:=by simp[Nv.push]
     repeat'(first|refine gU ?_|apply gE<;>intro h|apply gM<;>intro h|refine VNat.mk i rfl ?_|refine VIdx.mk _ hv ?_|refine gZ hz ?_|refine gX hB ?_|apply gK)<;>conv=>whnf
     all_goals first|contradiction|(exfalso;omega)|exact VAgain.mk _ rfl _ (j0a rfl rfl rfl) ⟨(i+1,Ei.push e,c2,s+u),⟨hi',kG,kE,by dsimp only;omega,by dsimp only;omega,hall⟩,by dsimp only;omega,rfl⟩
  all_goals obtain rfl:i=ds.length:=by omega
  all_goals rw[List.drop_length] at hall
  cases hall;have hO2:=jfd E2 _ eE;obtain⟨b9,z9,o1,o2⟩:=jkJ (E2.es.map (·.nm))
  rw[o1] at hO hO2;have hS:=jeS _ b9 b9 z9 z9 o2 o2 (by rw[List.length_map];have:=eG.ok.len;omega)
  have ss:s2=s2:=rfl;repeat'(first|refine gU ?_|apply gE<;>intro h|apply gM<;>intro h|refine jp2 ?_|refine gX hO ?_|refine gX hO2 ?_|refine gX hS ?_|apply gK)<;>conv=>whnf
  all_goals first|rfl|contradiction|(exfalso;omega)
open Go Go.ChangeShapes Go.WideShapes Go.ChangeAt Go.RowKit Go.Am Go.Gw
def DclP(ds:List Dc)(v:PV):Prop:=∃b z vs,v=.sl b z vs∧(z=15∨vs=[])∧DcsP ds vs∧ds.length≤1000000000000
theorem jfo(ds:List Dc)(v:PV)(h:DclP ds v)(fuel:Int):Pf C1 8 [v,iv fuel] [bv true]:=by
 obtain⟨b,z,vs,rfl,hz,hds,hbd⟩:=h;exact jfn ds vs hds b z hz hbd fuel
theorem jop:Tryz.prog.readableRec 75=true∧75<Tryz.prog.types.size:=⟨by kernel_rfl,of_decide_eq_true (by kernel_rfl)⟩
theorem DcsP.of:∀{ts:List (Dc×List PV)},(∀(i:Nat) (z:Dc×List PV),ts[i]?=some z→DcP z.1 (.ag z.2))→DcsP (ts.map (·.1)) (ts.map fun z=>.ag z.2)
 |[],_=>.nil
 |z::r,h=>.cons (h 0 z rfl) (DcsP.of fun i z' hz=>h (i+1) z' (by simpa using hz))
section
variable{H:Type}{enc:TypeId×Value→H}{W:World}{r:Reach}{b0:Nat}{v:Value}{d:DataW H}{ps:List MemPlace}
theorem jmR(hv:Value.okWide Tryz.prog W r b0 75 v)(h:DataW.Trod enc Tryz.prog W 0 (fun _=>true) true 75 v d ps)(hw:∀n∈d.weights Tryz.prog 75,n≤reachBytes):
  ∃ds pv,DclP ds pv∧Am.R (memB W) Am.noPh pv v:=by
 obtain⟨a,len,cap,rfl⟩:=okWide_slice Tryz.underlying75 hv;obtain⟨fuel,hf⟩:=h;obtain⟨ts,h1,h2,h3⟩:=jaq (V:=DcP) (k:=15) (by_:=224) Tryz.underlying75 (by kernel_rfl) (by omega) (by kernel_rfl) fuel _ _ hf hw (fun n' _ cs' x' hx' hw'=>jmQ n' cs' x' hx' hw')
 unfold reachBytes at h3;exact⟨ts.map (·.1),_,⟨_,_,_,rfl,.inl rfl,DcsP.of h1,by rw[List.length_map];omega⟩,h2⟩
end
end Go.Proofs.YtbnodhcijeaceaaGreatDoor
