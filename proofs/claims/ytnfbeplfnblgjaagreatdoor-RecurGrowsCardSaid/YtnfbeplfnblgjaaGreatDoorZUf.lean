/- Constants that are made variables: what stands in a leaf's place. -/
import Derived.Test.YtnfbeplfnblgjaaGreatDoorZUe
import Derived.Test.YtnfbeplfnblgjaaGreatDoorZFc
import Derived.Test.YtnfbeplfnblgjaaGreatDoorZKb
set_option linter.all false
set_option maxHeartbeats 1000000
set_option maxRecDepth 100000
namespace Go.Proofs.YtnfbeplfnblgjaaGreatDoor
open Go Go.Am Go.Gw
def absF(ns:List (List UInt8))(t:Tm)(d:Int):Option Tm:=if t.kind=3∧0≤j1e t.name ns 0 then some (.mk 1 ((ns.length:Int)-1-j1e t.name ns 0+d) [] [] []) else movF ns.length 0 t d
def absP(b:Bool)(z:Nat)(ns:List (List UInt8)):PV:=.fn 251 [] [.cp [.sl b z (svs ns)],.cp [iv (svs ns).length],.cp [j2d (svs ns).length 0]]
variable{d n:Int}{ns:List (List UInt8)}{bys ls:List Lv}{t:Tm}{W:World}
theorem j9n(h:t.kind=3∧0≤j1e t.name ns 0):absF ns t d=some (.mk 1 ((ns.length:Int)-1-j1e t.name ns 0+d) [] [] []):=if_pos h
theorem j7u(h:¬(t.kind=3∧0≤j1e t.name ns 0)):absF ns t d=movF ns.length 0 t d:=if_neg h
theorem j7v(hla:ns.length≤1048576):j8s (absF ns):=by
 intro t d x hw ha hd0 hd1 h;unfold absF at h;split at h
 ·cases h;have:=j5l t.name ns 0;exact j7r (by unfold i64;omega)
 ·exact j8h (by omega) t d x hw ha hd0 hd1 h
theorem jb6(ns:List (List UInt8))(b:Bool)(z:Nat)(hz:z=1∨ns=[])(hla:ns.length≤1048576)(t:Tm)(v:PV)(h:TmP t v)(d:Int)(hd0:0≤d)(hd1:d≤4194304)(h1:0≤t.num∧t.num≤2251799813685248):
  Pf C1 251 [v,iv d,.cp [.sl b z (svs ns)],.cp [iv (svs ns).length],.cp [j2d (svs ns).length 0]] (putV (absF ns t d)):=by
 have hln:(svs ns).length=ns.length:=by simp
 have hix:=jbv t.name ns b z hz (by omega)
 have hfb:=j5l t.name ns 0;have hv:=j6N ((svs ns).length-1-j1e t.name ns 0+d);have hm:=j4F (svs ns).length 0 t v h d (by unfold i64;omega) (fun _=>by unfold i64;omega)
 have hon:t.kind=3∧0≤j1e t.name ns 0→absF ns t d=some (.mk 1 ((svs ns).length-1-j1e t.name ns 0+d) [] [] []):=fun e=>by rw[j9n e,hln]
 have hoff:¬(t.kind=3∧0≤j1e t.name ns 0)→absF ns t d=movF (svs ns).length 0 t d:=fun e=>by rw[j7u e,hln]
 obtain⟨k,n,s,ls,ts,b0,z0,xs0,c0,y0,ys0,rfl,rfl,-⟩:=h.open;simp only[Tm.num,Tm.kind,Tm.name] at h1 hix hfb hv hon hoff;refine run_intro Tryz.func251 rfl rfl rfl ?_;cases hmv:movF (svs ns).length 0 (.mk k n s ls ts) d with
 |none=>
  rw[hmv] at hm hoff;simp only[putV] at hm;repeat'(first|refine gU ?_|apply gE<;>intro h|apply gM<;>intro h|refine gX hix ?_|refine gX hv ?_|refine gX hm ?_|apply gK)<;>conv=>whnf
  ·rw[hon (by omega)]
   rfl
  ·rw[hoff (by omega)]
   rfl
  ·rw[hoff (by omega)]
   rfl
 |some x=>
  rw[hmv] at hm hoff;simp only[putV] at hm;obtain⟨k8,n8,s8,b8,z8,x8,c8,y8,ys8,he8⟩:=j04 x;rw[he8] at hm;repeat'(first|refine gU ?_|apply gE<;>intro h|apply gM<;>intro h|refine gX hix ?_|refine gX hv ?_|refine gX hm ?_|apply gK)<;>conv=>whnf
  ·rw[hon (by omega)]
   rfl
  ·rw[hoff (by omega)]
   simp only[putV];rw[he8];rfl
  ·rw[hoff (by omega)]
   simp only[putV];rw[he8];rfl
open Go Go.Am Go.Gw
theorem j8M(l:List (List UInt8)):∃b z,j4q l=.sl b z (svs l)∧(z=1∨l=[]):=by
 cases l with
 |nil=>exact⟨_,_,rfl,.inr rfl⟩
 |cons d r=>exact⟨_,_,rfl,.inl rfl⟩
theorem j3H(t:Tm):(j0s t).length≤2000:=by
 unfold j0s;split
 ·rename_i h;unfold j1u;refine Nat.le_trans (j3t _) ?_;rw[j1a];exact Nat.le_trans (j3k t) (j3L h)
 ·simp
def LoP(x:List UInt8×Tm)(v:PV):Prop:=∃cs,v=.ag (sv x.1::cs)∧TmP x.2 (.ag cs)∧x.1.length≤140737488355328
def LosP:List (List UInt8×Tm)→List PV→Prop
 |[],xs=>xs=[]
 |l::r,xs=>∃v xs',xs=v::xs'∧LoP l v∧LosP r xs'
theorem LosP.len:∀{ls:List (List UInt8×Tm)}{xs:List PV},LosP ls xs→xs.length=ls.length
 |[],xs,h=>by simp only[LosP] at h;simp[h]
 |l::r,xs,h=>by
  simp only[LosP] at h;obtain⟨v,xs',rfl,_,h⟩:=h;simp[LosP.len h]
theorem LosP.at:∀{ls:List (List UInt8×Tm)}{xs:List PV}{i:Nat}{l:List UInt8×Tm},LosP ls xs→ls[i]?=some l→∃v,xs[i]?=some v∧LoP l v
 |[],xs,i,l,_,h=>by simp at h
 |x::r,xs,i,l,h,e=>by
  simp only[LosP] at h;obtain⟨v,xs',rfl,h1,h2⟩:=h;cases i with
  |zero=>simp at e;subst e;exact⟨v,rfl,h1⟩
  |succ i=>simpa using LosP.at h2 (by simpa using e)
theorem LoP.open{x:List UInt8×Tm}{v:PV}(h:LoP x v):∃s k n s1 b z xs c y ys t,x=(s,t)∧v=.ag [sv s,iv k,iv n,sv s1,.sl b z xs,.sl c y ys]∧TmP t (.ag [iv k,iv n,sv s1,.sl b z xs,.sl c y ys])∧s.length≤140737488355328:=by
 obtain⟨s,t⟩:=x;obtain⟨cs,rfl,h1,h2⟩:=h;obtain⟨k,n,s0,ls,ts,b,z,xs,c,y,ys,-,e,-⟩:=h1.open;cases e;exact⟨s,_,_,_,_,_,_,_,_,_,t,rfl,rfl,h1,h2⟩
theorem j3S(s:List UInt8):encT (cn s)=.ag [iv 3,iv 0,sv s,.sl true 0 [],.sl true 0 []]:=by
 rw[cn,j1r];rfl
theorem j0V(ls:List (List UInt8×Tm))(b:Bool)(z:Nat)(xs:List PV)(hz:z=6∨xs=[])(hxs:LosP ls xs)(hbd:ls.length≤1000000000):Pf C1 90 [.sl b z xs] [j2g (ls.map fun x=>cn x.1)]:=by
 have hlen:=hxs.len;refine run_intro Tryz.func90 rfl rfl rfl ?_;repeat'(first|refine gU ?_|apply gE<;>intro h|apply gM<;>intro h|apply gK)<;>conv=>whnf
 refine loop_over (G:=Nat) (fun i=>[(8,iv i),(3,match i with
   |0=>.sl true 0 []
   |n+1=>.ms 1 (n+1))]) (fun i=>match i with
   |0=>[]
   |n+1=>[.dead,.row false 25 5 ((ls.take (n+1)).map fun x=>encT (cn x.1))]) (fun i=>i≤ls.length) (fun i=>ls.length-i) 0 (by omega) rfl rfl ?_
 intro i hi;have hpu:∀(l:List (List UInt8×Tm)) (n:Nat),(l.map fun x=>encT (cn x.1)).all (pur (n+2))=true:=fun l n=>by
  rw[List.all_eq_true]
  intro x hx;obtain⟨l,_,rfl⟩:=List.mem_map.1 hx;exact j6j _ n
 have hround:∀(hi':i<ls.length),∃lc,ls[i]?=some lc∧∃v,xs[i]?=some v∧LoP lc v:=fun hi'=>by
  obtain⟨lc,hlc⟩:∃lc,ls[i]?=some lc:=⟨_,List.getElem?_eq_getElem hi'⟩;obtain⟨v,hv,hl⟩:=hxs.at hlc;exact⟨lc,hlc,v,hv,hl⟩
 cases i with
 |zero=>
  repeat'(first|refine gU ?_|apply gE<;>intro h|apply gM<;>intro h|apply gK)<;>conv=>whnf
  ·obtain⟨lc,hlc,v,hv,hl⟩:=hround (by omega)
   obtain⟨s,k1,n1,s1,b1,z1,x1,c1,y1,ys1,t1,rfl,rfl,-⟩:=hl.open;have hcn:=j3G s true 0;rw[show Tm.mk 3 0 s [] []=cn s from rfl,j3S] at hcn
   repeat'(first|refine gU ?_|apply gE<;>intro h|apply gM<;>intro h|refine VIdx.mk _ hv ?_|refine gZ hz ?_|refine gX hcn ?_|apply gK)<;>conv=>whnf
   have e:(ls.take (0+1)).map (fun x:List UInt8×Tm=>encT (cn x.1))=[.ag [iv 3,iv 0,sv s,.sl true 0 [],.sl true 0 []]]:=by rw[take_snoc' hlc,←j3S];rfl
   exact VAgain.mk _ rfl _ (j0q (.cons (j00 rfl rfl) (.cons (j03 rfl) .nil)) (.cons j07 (.cons (j03 rfl) .nil)) rfl rfl rfl rfl rfl) ⟨1,by omega,by omega,congrArg (fun t=>(⟨_,[.dead,.row false _ 5 t]⟩:AS)) e.symm⟩
  ·obtain rfl:ls=[]:=List.eq_nil_of_length_eq_zero (by omega)
   rfl
 |succ i=>
  have hln:((ls.take (i+1)).map fun x=>encT (cn x.1)).length=i+1:=by simp;omega
  repeat'(first|refine gU ?_|apply gE<;>intro h|apply gM<;>intro h|apply gK)<;>conv=>whnf
  ·obtain⟨lc,hlc,v,hv,hl⟩:=hround (by omega)
   obtain⟨s,k1,n1,s1,b1,z1,x1,c1,y1,ys1,t1,rfl,rfl,-⟩:=hl.open;have hcn:=j3G s true 0;rw[show Tm.mk 3 0 s [] []=cn s from rfl,j3S] at hcn
   have e:(ls.take (i+1+1)).map (fun x:List UInt8×Tm=>encT (cn x.1))=(ls.take (i+1)).map (fun x:List UInt8×Tm=>encT (cn x.1))++[.ag [iv 3,iv 0,sv s,.sl true 0 [],.sl true 0 []]]:=by rw[take_snoc' hlc,←j3S];simp
   have hp8:((ls.take (i+1)).map (fun x:List UInt8×Tm=>encT (cn x.1))++[PV.ag [iv 3,iv 0,sv s,.sl true 0 [],.sl true 0 []]]).all (pur 8)=true:=e▸hpu _ 6
   repeat'(first|refine gU ?_|apply gE<;>intro h|apply gM<;>intro h|refine VIdx.mk _ hv ?_|refine gZ hz ?_|refine gX hcn ?_|refine VOk.mk (j0o (w:=80) (r:=140737488355328) hln rfl rfl rfl rfl (by simp only[List.length_cons,List.length_nil];omega) (by simp only[List.length_cons,List.length_nil];omega)) ?_|apply gK)<;>conv=>whnf
   exact VAgain.mk _ rfl _ (j0q (.cons j07 (.cons (j03 hp8) (.cons (j00 rfl rfl) .nil))) (.cons j07 (.cons (j03 hp8) .nil)) rfl rfl rfl rfl rfl) ⟨i+1+1,by omega,by omega,congrArg (fun t=>(⟨_,[.dead,.row false _ 5 t]⟩:AS)) e.symm⟩
  ·have hi':i+1=ls.length:=by omega
   have e:(ls.take (i+1)).map (fun x:List UInt8×Tm=>encT (cn x.1))=ls.map (fun x:List UInt8×Tm=>encT (cn x.1)):=by rw[hi',List.take_length]
   refine j5L rfl rfl hln.symm (hpu _ 4) ?_;rw[j0L (by simp;omega),e,List.map_map]
   rfl
open Go Go.Am Go.Gw
def jf6(l:Lv):Lv:=.mk 3 0 [l]
def je7(l m:Lv):Lv:=.mk 5 0 [l,m]
def jeO(l:Lv):Bool:=leqF l (.mk 1 0 [])
def jeT(l m:Lv):Bool:=leqF l m&&leqF m l
def jf0(l m:Lv):Lv:=if jeO m=true then .mk 1 0 [] else if leqF l m=true then m else je7 l m
theorem j2A:∀(ls bys:List Lv),j4C ls bys=ls.map fun l=>j5q l bys
 |[],_=>rfl
 |l::r,bys=>by rw[j4C,j2A r bys];rfl
theorem jal:j5q (.mk 2 n ls) bys=bys.getD n.toNat (.mk 0 0 []):=by simp[j5q,j5r]
theorem jbx{k:Int}(h:¬k=2):j5q (.mk k n ls) bys=.mk k n (ls.map fun l=>j5q l bys):=by simp[j5q,j5r,h,j2A]
theorem j7q(ls:List Lv)(i:Nat):j0c (ls.take i)≤j0c ls:=by
 induction ls generalizing i with
 |nil=>simp
 |cons a r ih=>
  cases i with
  |zero=>simp[j0c]
  |succ i=>simp only[List.take_succ_cons,j0c];have:=ih i;omega
def putL(o:Option Lv):List PV:=match o with
 |some x=>[encL x,bv true]
 |none=>[.ag zLv,bv false]
open Go Go.Am
def memB(W:World):Hb.Mem:=fun b o=>match W.heap[b]? with
 |some (.cells c _ _)=>c[o]?
 |_=>none
theorem jbF{b o:Nat}{v:Value}(h:memB W b o=some v):∃c T fr,W.heap[b]?=some (.cells c T fr)∧c[o]?=some v:=by
 unfold memB at h;split at h
 ·rename_i c T fr e;exact⟨c,T,fr,e,h⟩
 ·cases h
theorem je6(hb:∀b p,Hb.base b=some p→∃cs T fr,p cs∧W.heap[b]?=some (.cells cs T fr)):Hb.Good ⟨W,memB W,Hb.feetOf []⟩ W (memB W) []:=
 ⟨rfl,rfl,rfl,Nat.le_refl _,fun _ _ _=>rfl,fun b o v h=>jbF h,Hb.Mem.le.refl _,fun _ _ _ h=>.inl h,by simp,by simp,.nil,fun b cs h=>⟨hb b cs h,by simp⟩⟩
theorem j6W{C:Cfg}(hC:∀n,EvOk C (ev C n)){f:FuncId}{args rs:List PV}{vs:List Value}(h:Pf C f args rs)(hb:∀b p,Hb.base b=some p→∃cs T fr,p cs∧W.heap[b]?=some (.cells cs T fr))(hr:Rl (memB W) noPh args vs):
  Calls C.P f vs.toArray W fun e W'=>∃m' φ' us,e=.returned (Gw.tup us)∧Rl m' φ' rs us∧RowKit.Below W.heap.size W W':=by
 obtain⟨r,st',rfl,N,hN⟩:=h;have hs:Sit ⟨W,memB W,Hb.feetOf []⟩ (memB W) noPh [] [] W:=⟨je6 hb,rfl,fun _ _=>rfl⟩
 refine((hC N).call f args [] _ st' (hN N (Nat.le_refl N)) W (memB W) noPh [] vs hs hr).mono ?_;rintro e W' ⟨m',φ',μ',_,hs',us,rfl,hus⟩;refine⟨m',φ',us,rfl,hus,Good.below hs'.good (fun b ⟨r,hr,_⟩=>by cases hr)⟩
theorem LvsP.of:∀{zs:List (Gw.Lv×List PV)},(∀(i:Nat) (z:Gw.Lv×List PV),zs[i]?=some z→LvP z.1 (.ag z.2))→LvsP (zs.map (·.1)) (zs.map fun z=>.ag z.2)
 |[],_=>by simp only[List.map_nil,LvsP]
 |z::r,h=>by
  simp only[List.map_cons,LvsP];exact⟨_,_,rfl,h 0 z rfl,LvsP.of fun i z' hz=>h (i+1) z' (by simpa using hz)⟩
section
open Go.Gw Go.ChangeShapes Go.WideShapes Go.ChangeAt Go.RowKit
variable{H:Type}{enc:TypeId×Value→H}{P:Program}{W:World}
end
end Go.Proofs.YtnfbeplfnblgjaaGreatDoor
