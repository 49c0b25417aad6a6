/- Terms that are looked at; what is loose. -/
import Derived.Test.YtnfbeplfnblgjaaGreatDoorZTc
set_option linter.all false
set_option maxHeartbeats 2000000
set_option maxRecDepth 100000
namespace Go.Proofs.YtnfbeplfnblgjaaGreatDoor
open Go Go.Am Go.Gw
mutual
theorem TmP.names:∀{t:Tm}{v:PV},TmP t v→NmT j6L t
 | .mk k n s ls ts,v,h=>by
  simp only[TmP] at h;obtain⟨b,z,xs,c,y,ys,rfl,hz,hxs,hbd,hy,hys,hbd2,hsl,hi⟩:=h;simp only[NmT];exact⟨hsl,TmsP.names hys⟩
theorem TmsP.names:∀{ts:List Tm}{xs:List PV},TmsP ts xs→NmTs j6L ts
 |[],xs,h=>by simp only[NmTs]
 |t::r,xs,h=>by
  simp only[TmsP] at h;obtain⟨v,xs',rfl,h1,h2⟩:=h;simp only[NmTs];exact⟨TmP.names h1,TmsP.names h2⟩
end
theorem j1i(t:Tm)(v:PV)(h:TmP t v)(n kk:Int):Pf C1 31 [v,iv n,iv kk] [bv (j1c t n kk)]:=j8Y jbG t v h h.names n kk
theorem j1R(t:Tm)(v:PV)(h:TmP t v):Pf C1 198 [v] [bv (anyT t)]:=by
 have hr:=j1i t v h 4 1125899906842624;obtain⟨k,nn,s,ls,ts,b,z,xs,c,y,ys,rfl,rfl,hz,hxs,hlen,hbd,hy,hys,hlen2,hbd2,hsl⟩:=h.open;refine run_intro Tryz.func198 rfl rfl rfl ?_;repeat'(first|refine gU ?_|apply gE<;>intro h|apply gM<;>intro h|refine gX hr ?_|apply gK)<;>conv=>whnf
 all_goals rfl
theorem j1h(t:Tm)(v:PV)(h:TmP t v):Pf C1 157 [v] [bv (anyT t)]:=by
 have hr:=j1i t v h 4 1125899906842624;obtain⟨k,nn,s,ls,ts,b,z,xs,c,y,ys,rfl,rfl,hz,hxs,hlen,hbd,hy,hys,hlen2,hbd2,hsl⟩:=h.open;refine run_intro Tryz.func157 rfl rfl rfl ?_;repeat'(first|refine gU ?_|apply gE<;>intro h|apply gM<;>intro h|refine gX hr ?_|apply gK)<;>conv=>whnf
 all_goals rfl
theorem j4X(t:Tm)(v:PV)(h:TmP t v):Pf C1 199 [v] [bv (!anyT t)]:=by
 have hr:=j1R t v h;obtain⟨k,nn,s,ls,ts,b,z,xs,c,y,ys,rfl,rfl,hz,hxs,hlen,hbd,hy,hys,hlen2,hbd2,hsl⟩:=h.open;refine run_intro Tryz.func199 rfl rfl rfl ?_;repeat'(first|refine gU ?_|apply gE<;>intro h|apply gM<;>intro h|refine gX hr ?_|apply gK)<;>conv=>whnf
 all_goals rfl
def j1y(k:Int):Bool:=decide (k=6∨k=5)
theorem j2I(k:Int):Pf C1 156 [iv k] [bv (j1y k)]:=by
 refine run_intro Tryz.func156 rfl rfl rfl ?_;repeat'(first|refine gU ?_|apply gE<;>intro h|apply gM<;>intro h|apply gK)<;>conv=>whnf
 all_goals simp_all[j1y]
mutual
def j2H:Tm→Int→Int
 | .mk k n _ _ ts,d=>if k=1 then max (n-d+1) 0 else j1z ts k 0 d 0
def j1z:List Tm→Int→Int→Int→Int→Int
 |[],_,_,_,acc=>acc
 |t::r,k,i,d,acc=>j1z r k (i+1) d (max acc (j2H t (j08 (j06 k) i d)))
end
theorem j2u:∀{ts:List Tm}{k p kk:Int}{i:Int}{j:Nat}{tc:Tm},j0g ts k i p kk=true→ts[j]?=some tc→allT tc p (j08 (j06 k) (i+j) kk)=true
 |[],k,p,kk,i,j,tc,h,hj=>by simp at hj
 |t::r,k,p,kk,i,j,tc,h,hj=>by
  simp only[j0g,Bool.and_eq_true] at h;cases j with
  |zero=>
   simp at hj;subst hj;simpa using h.1
  |succ j=>
   have:=j2u h.2 (by simpa using hj:r[j]?=some tc)
   rwa [show i+1+(j:Int)=i+((j+1:Nat):Int) by omega] at this
variable{k n:Int}{ls:List Lv}{ts:List Tm}{s:List UInt8}{t:Tm}
theorem j0b{p kk:Int}(h:allT (.mk k n s ls ts) p kk=true):(1≤k∧k≤7)∧(ts.length:Int)=j1O k∧j1A (.mk k n s ls ts) kk=true∧j0F ls p=true∧j0g ts k 0 p kk=true:=by
 simpa[allT,and_assoc] using h
theorem j0A(b i d:Int):d≤j08 b i d∧j08 b i d≤d+1:=by
 unfold j08;split<;>omega
def jeP(t:Tm):Int:=if anyT t=true then j2H t 0 else 0
theorem j0v(h:anyT t=true):j0r t≤2000∧allT t 4 1125899906842624=true:=by
 simpa[anyT,j1c] using h
theorem j1P(h:anyT t=true):depT t≤2000:=j6z (j0v h).1
def jc3(kind:Int):Tm→Nat
 | .mk k n s ls ts=>match ts with
  |[a,b]=>if(j1y kind&&(anyT (.mk k n s ls [a,b])&&decide (k=kind)))=true then jc3 kind b+1 else 0
  |_=>0
open Go Go.Am Go.Gw
def j1b(kind:Int):Nat→Tm→Option (List Tm×Tm)
 |0,t=>some ([],t)
 |n+1,.mk k _ _ _ ts=>match ts with
  |[a,b]=>if k=kind then(j1b kind n b).map fun r=>(a::r.1,r.2) else none
  |_=>none
def j1m(t:Tm)(kind n:Int):Option (List Tm×Tm):=if(anyT t&&(j1y kind&&decide (0≤n)))=true then j1b kind n.toNat t else none
def tz:Tm:=.mk 0 0 [] [] []
def splitV(o:Option (List Tm×Tm)):List PV:=match o with
 |some (l,b)=>[j2g l,encT b,bv true]
 |none=>[.sl true 0 [],encT tz,bv false]
theorem j9e{kind:Int}{q:Nat}(h:¬k=kind):j1b kind (q+1) (.mk k n s ls ts)=none:=by
 unfold j1b;split
 ·rw[if_neg h]
 ·rfl
theorem j5R(t:Tm)(v:PV)(hT:TmP t v)(kind n:Int):Pf C1 97 [v,iv kind,iv n] (splitV (j1m t kind n)):=by
 have hbd:=j2I kind;have hr:=j1h t v hT;obtain⟨k0,nn0,s0,ls0,ts0,b0,z0,xs0,c0,y0,ys0,rfl,rfl,-⟩:=hT.open;refine run_intro Tryz.func97 rfl rfl rfl ?_;repeat'(first|refine gU ?_|apply gE<;>intro h|apply gM<;>intro h|refine gX hr ?_|refine gX hbd ?_|apply gK)<;>conv=>whnf
 ·have e:j1m (.mk k0 nn0 s0 ls0 ts0) kind n=none:=by
   unfold j1m;rw[if_neg];rw[decide_eq_false (by omega:¬0≤n),Bool.and_false,Bool.and_false]
   exact Bool.false_ne_true
  rw[e];rfl
 ·have hany:anyT (.mk k0 nn0 s0 ls0 ts0)=true:=by assumption
  have hb2:j1y kind=true:=decide_eq_true (by assumption)
  have e:j1m (.mk k0 nn0 s0 ls0 ts0) kind n=j1b kind n.toNat (.mk k0 nn0 s0 ls0 ts0):=by
   unfold j1m;rw[if_pos];rw[hany,hb2,decide_eq_true (by omega:0≤n)]
   rfl
  rw[e];have hdep:=j1P hany;refine loop_over (G:=List Tm×Tm×PV) (fun g=>[(9,match g.1 with
    |[]=>.sl true 0 []
    |a::r=>.ms 2 (r.length+1))]) (fun g=>match g.1 with
    |[]=>[.box 25 g.2.2.cells,.box 25 zTm]
    |a::r=>[.box 25 g.2.2.cells,.box 25 zTm,.row false 25 5 ((a::r).map encT)]) (fun g=>TmP g.2.1 g.2.2∧(∃kk,allT g.2.1 4 kk=true)∧(g.1.length:Int)≤n∧g.1.length+depT g.2.1≤2000∧(j1b kind (n.toNat-g.1.length) g.2.1).map (fun r=>(g.1++r.1,r.2))=j1b kind n.toNat (.mk k0 nn0 s0 ls0 ts0)) (fun g=>sizT g.2.1) ([],.mk k0 nn0 s0 ls0 ts0,.ag [iv k0,iv nn0,sv s0,.sl b0 z0 xs0,.sl c0 y0 ys0]) ⟨hT,⟨_,(j0v hany).2⟩,by simp;omega,by simpa using hdep,by simp⟩ rfl rfl ?_
  rintro⟨don,u,w⟩ ⟨hu,⟨kk,hall⟩,hln,hdp,hsp⟩;dsimp only at hu hall hln hdp hsp;have hround:∀{k nn:Int}{s:List UInt8}{ls:List Lv}{ts:List Tm},u=.mk k nn s ls ts→k=kind→∃a b,ts=[a,b]∧(∃kk,allT b 4 kk=true)∧don.length+1+depT b≤2000∧((don.length:Int)<n→(j1b kind (n.toNat-(don.length+1)) b).map (fun r=>((don++[a])++r.1,r.2))=j1b kind n.toNat (.mk k0 nn0 s0 ls0 ts0)):=by
   rintro k nn s ls ts rfl rfl;obtain⟨hk17,hlenk,hnode,-,hats⟩:=j0b hall;rw[j1O,if_pos (by omega)] at hlenk
   obtain⟨a,b,rfl⟩:∃a b,ts=[a,b]:=by
    match ts,hlenk with
    |[a,b],_=>exact⟨a,b,rfl⟩
    |[],h=>simp at h
    |[_],h=>simp at h
    |_::_::_::_,h=>simp at h;omega
   refine⟨a,b,rfl,⟨_,j2u hats (by rfl:[a,b][1]?=some b)⟩,?_,fun hlt=>?_⟩
   ·simp only[depT,j2Y] at hdp;omega
   ·rw[←hsp,show n.toNat-don.length=(n.toNat-(don.length+1))+1 by omega,j1b]
    simp only[if_true,Option.map_map];congr 1;funext r;simp
  have hApp:=j2J u w hu true 0;obtain⟨k9,n9,s9,b9,z9,x9,c9,y9,ys9,he9⟩:=j04 u;obtain⟨k,nn,s,ls,ts,b,z,xs,c,y,ys,rfl,rfl,hz,hxs,hlen,hbd1,hy,hys,hlen2,hbd2,hsl⟩:=hu.open;have hoff:¬k=kind→(don.length:Int)<n→j1b kind n.toNat (.mk k0 nn0 s0 ls0 ts0)=none:=fun hk hlt=>by
   rw[←hsp,show n.toNat-don.length=(n.toNat-(don.length+1))+1 by omega,j9e hk]
   rfl
  have hend:¬(don.length:Int)<n→j1b kind n.toNat (.mk k0 nn0 s0 ls0 ts0)=some (don,.mk k nn s ls ts):=fun hlt=>by
   rw[←hsp,show n.toNat-don.length=0 by omega,j1b]
   simp
  rw[he9] at hApp;cases don with
  |nil=>
   simp only[PV.cells];repeat'(first|refine gU ?_|apply gE<;>intro h|apply gM<;>intro h|refine gX hApp ?_|apply gK)<;>conv=>whnf
   ·obtain⟨a1,b1,rfl,hall1,hdp1,hsp1⟩:=hround rfl (by assumption)
    obtain⟨va,hva,hla⟩:=hys.at (by rfl:[a1,b1][0]?=some a1)
    obtain⟨vb,hvb,hlb⟩:=hys.at (by rfl:[a1,b1][1]?=some b1)
    have hAa:=j2J a1 va hla true 0;obtain⟨k3,n3,s3,b3,z3,x3,c3,y3,ys3,he3⟩:=j04 a1;rw[he3] at hAa;obtain⟨k1,n1,s1,l1,t1,b4,z1,x1,c1,y1,ys1,rfl,rfl,-⟩:=hla.open;obtain⟨k2,n2,s2,l2,t2,b5,z2,x2,c2,y2,ys2,rfl,rfl,-⟩:=hlb.open;repeat'(first|refine gU ?_|apply gE<;>intro h|apply gM<;>intro h|refine VIdx.mk _ hva ?_|refine VIdx.mk _ hvb ?_|refine gZ hy ?_|refine gX hAa ?_|apply gK)<;>conv=>whnf
    have e:[Tm.mk k1 n1 s1 l1 t1].map encT=[.ag [iv k3,iv n3,sv s3,.sl b3 z3 x3,.sl c3 y3 ys3]]:=by rw[List.map_cons,he3];rfl
    exact VAgain.mk _ rfl _ (j0q (.cons (j00 rfl rfl) (.cons (j00 rfl rfl) (.cons (j03 rfl) .nil))) (.cons (j00 rfl rfl) (.cons (j00 rfl rfl) (.cons (j03 rfl) .nil))) rfl rfl rfl rfl rfl) ⟨([Tm.mk k1 n1 s1 l1 t1],Tm.mk k2 n2 s2 l2 t2,.ag [iv k2,iv n2,sv s2,.sl b5 z2 x2,.sl c2 y2 ys2]),⟨hlb,hall1,by dsimp only[List.length];simp only[List.length_nil] at *;omega,by dsimp only[List.length];simp only[List.length_nil] at *;omega,hsp1 (by assumption)⟩,by simp only[sizT,j0j];omega,congrArg (fun t=>(⟨_,[.box _ _,.box _ zTm,.row false _ 5 t]⟩:AS)) e.symm⟩
   ·rw[hoff (by assumption) (by assumption)]
    rfl
   ·rw[hend (by assumption)]
    simp only[splitV];rw[he9];rfl
  |cons d dr=>
   simp only[PV.cells];have hbl:Nat.beq (dr.length+1) ((d::dr).map encT).length=true:=by simp
   repeat'(first|refine gU ?_|apply gE<;>intro h|apply gM<;>intro h|refine VOk.mk hbl ?_|refine gX hApp ?_|apply gK)<;>conv=>whnf
   ·obtain⟨a1,b1,rfl,hall1,hdp1,hsp1⟩:=hround rfl (by assumption)
    obtain⟨va,hva,hla⟩:=hys.at (by rfl:[a1,b1][0]?=some a1)
    obtain⟨vb,hvb,hlb⟩:=hys.at (by rfl:[a1,b1][1]?=some b1)
    have hAa:=j2J a1 va hla true 0;obtain⟨k3,n3,s3,b3,z3,x3,c3,y3,ys3,he3⟩:=j04 a1;rw[he3] at hAa;obtain⟨k1,n1,s1,l1,t1,b4,z1,x1,c1,y1,ys1,rfl,rfl,-⟩:=hla.open;obtain⟨k2,n2,s2,l2,t2,b5,z2,x2,c2,y2,ys2,rfl,rfl,-⟩:=hlb.open;have hdl:dr.length+2≤2000:=by simp only[List.length_cons] at hdp1;omega
    have hp8:((d::dr).map encT++[PV.ag [iv k3,iv n3,sv s3,.sl b3 z3 x3,.sl c3 y3 ys3]]).all (pur 8)=true:=by
     rw[←he3,show(d::dr).map encT++[encT (Tm.mk k1 n1 s1 l1 t1)]=(d::dr++[Tm.mk k1 n1 s1 l1 t1]).map encT by simp]
     exact j0k _ 6
    repeat'(first|refine gU ?_|apply gE<;>intro h|apply gM<;>intro h|refine VIdx.mk _ hva ?_|refine VIdx.mk _ hvb ?_|refine gZ hy ?_|refine gX hAa ?_|refine VOk.mk (j0o (w:=80) (r:=140737488355328) (by simp:((d::dr).map encT).length=dr.length+1) rfl rfl rfl rfl (by simp only[List.length_cons,List.length_nil];omega) (by simp only[List.length_cons,List.length_nil];omega)) ?_|apply gK)<;>conv=>whnf
    have e:(d::(dr++[Tm.mk k1 n1 s1 l1 t1])).map encT=(d::dr).map encT++[.ag [iv k3,iv n3,sv s3,.sl b3 z3 x3,.sl c3 y3 ys3]]:=by rw[←he3];simp
    have el:(dr++[Tm.mk k1 n1 s1 l1 t1]).length+1=dr.length+1+1:=by simp
    refine VAgain.mk _ rfl _ (j0q (.cons (j00 rfl rfl) (.cons (j00 rfl rfl) (.cons (j03 hp8) .nil))) (.cons (j00 rfl rfl) (.cons (j00 rfl rfl) (.cons (j03 hp8) .nil))) rfl rfl rfl rfl rfl) ⟨(d::(dr++[Tm.mk k1 n1 s1 l1 t1]),Tm.mk k2 n2 s2 l2 t2,.ag [iv k2,iv n2,sv s2,.sl b5 z2 x2,.sl c2 y2 ys2]),⟨hlb,hall1,?_,?_,?_⟩,by simp only[sizT,j0j];omega,?_⟩
    ·simp only[List.length_cons,List.length_append,List.length_nil] at *;omega
    ·simp only[List.length_cons,List.length_append,List.length_nil] at *;omega
    ·have:=hsp1 (by assumption)
     simp only[List.length_cons,List.length_append,List.length_nil,List.cons_append] at this⊢;exact this
    ·dsimp only;rw[e,el];rfl
   ·rw[hoff (by assumption) (by assumption)]
    rfl
   ·rw[hend (by assumption)]
    refine j0O rfl (j02 (j0D rfl (by simp) (j0k _ 4)) (j02 rfl (j02 rfl j0h))) rfl ?_
    simp only[splitV];rw[he9,j0L (by simp)]
 all_goals
  have e:j1m (.mk k0 nn0 s0 ls0 ts0) kind n=none:=by
   unfold j1m;rw[if_neg]
   simp_all[j1y]
  rw[e];rfl
open Go Go.Am Go.Gw
def j2d(by_ from_:Int):PV:=.fn 298 [] [.cp [iv from_],.cp [iv by_]]
theorem j6w(by_ from_:Int):Pf C1 250 [iv by_,iv from_] [j2d by_ from_]:=by
 refine run_intro Tryz.func250 rfl rfl rfl ?_;all_goals try conv=>whnf
 refine j0O rfl rfl rfl ?_;rfl
def movF(by_ from_:Int)(t:Tm)(d:Int):Option Tm:=if t.kind=1∧¬t.num<from_+d then some (.mk 1 (t.num+by_) [] [] []) else none
def putV(o:Option Tm):List PV:=match o with
 |some x=>[encT x,bv true]
 |none=>[encT tz,bv false]
theorem j4F(by_ from_:Int)(t:Tm)(v:PV)(h:TmP t v)(d:Int)(h1:i64 (from_+d))(h2:t.kind=1→i64 (t.num+by_)):Pf C1 298 [v,iv d,.cp [iv from_],.cp [iv by_]] (putV (movF by_ from_ t d)):=by
 obtain⟨k,n,s,ls,ts,b,z,xs,c,y,ys,rfl,rfl,-⟩:=h.open;simp only[Tm.kind,Tm.num] at h2;have hv:=j6N (n+by_);refine run_intro Tryz.func298 rfl rfl rfl ?_;repeat'(first|refine gU ?_|apply gE<;>intro h|refine VArith.fits h1 ?_|refine VArith.fits (h2 (by omega)) ?_|refine gX hv ?_)<;>conv=>whnf
 ·have e:movF by_ from_ (.mk k n s ls ts) d=none:=by
   simp only[movF,Tm.kind,Tm.num];exact if_neg (by omega)
  rw[e];rfl
 ·have e:movF by_ from_ (.mk k n s ls ts) d=some (.mk 1 (n+by_) [] [] []):=by
   simp only[movF,Tm.kind,Tm.num];exact if_pos (by omega)
  rw[e];rfl
 ·have e:movF by_ from_ (.mk k n s ls ts) d=none:=by
   simp only[movF,Tm.kind,Tm.num];exact if_neg (by omega)
  rw[e];rfl
theorem j2y(f:FuncId)(caps:List PV)(hp:caps.all (pur 7)=true)(left:Int)(h0 : -100000≤left)(h1:left≤100000)(t:Tm)(v:PV)(h:TmP t v):Finds C1 299 [.bp 0 0,v] [.box 314 [.fn f [] caps,iv left]] fun r st=>r=.ret [v]∧st=[.box 314 [.fn f [] caps,iv (left-j0r t)]]:=by
 have hn:=j4H t v h;have hnb:0≤j0r t∧j0r t≤2001:=by rw[j1L];omega
 obtain⟨k,n,s,ls,ts,b,z,xs,c,y,ys,rfl,rfl,-⟩:=h.open;refine run_intro Tryz.func299 rfl rfl rfl ?_;repeat'(first|refine gU ?_|refine finds_pf hn fun _=>?_|apply gK)<;>conv=>whnf
 have hpl:∀x:Int,j5F (.box 314 [.fn f [] caps,iv x]):=fun x=>jaJ (by
  show((true&&caps.all (pur 7))&&(true&&true))=true
  rw[hp];rfl)
 refine vret_take rfl ?_ ⟨rfl,rfl⟩;show(soIn _ (SO.box 314 [.fn f [] caps,iv _])&&true)=true
 rw[(hpl _).2];rfl
end Go.Proofs.YtnfbeplfnblgjaaGreatDoor
