/- Variables that are moved (package bind). -/
import Derived.Test.YtbnodhcijeaceaaGreatDoorZTe
set_option linter.all false
set_option maxRecDepth 100000
namespace Go.Proofs.YtbnodhcijeaceaaGreatDoor
open Go Go.Am Go.Gw
def j9Q(by_ from_:Int):PV:=.fn 257 [] [.cp [iv from_],.cp [iv by_]]
theorem jgo(by_ from_:Int):Pf C1 209 [iv by_,iv from_] [j9Q by_ from_]:=by
 refine j00 Tryz.func209 rfl rfl rfl ?_;all_goals try conv=>whnf
 refine j0n rfl rfl rfl ?_;rfl
def movF(by_ from_:Int)(t:Tm)(d:Int):Option Tm:=if t.kind=1∧¬t.num<from_+d then some (.mk 1 (t.num+by_) [] [] []) else none
def putV(o:Option Tm):List PV:=match o with
 |some x=>[encT x,bv true]
 |none=>[encT tz,bv false]
theorem jlf(by_ from_:Int)(t:Tm)(v:PV)(h:TmP t v)(d:Int)(h1:i64 (from_+d))(h2:t.kind=1→i64 (t.num+by_)):Pf C1 257 [v,iv d,.cp [iv from_],.cp [iv by_]] (putV (movF by_ from_ t d)):=by
 obtain⟨k,n,s,ls,ts,b,z,xs,c,y,ys,rfl,rfl,-⟩:=h.open;simp only[Tm.kind,Tm.num] at h2;have hv:=jhb (n+by_);refine j00 Tryz.func257 rfl rfl rfl ?_;repeat'(first|refine gU ?_|apply gE<;>intro h|refine VArith.fits h1 ?_|refine VArith.fits (h2 (by omega)) ?_|refine gX hv ?_)<;>conv=>whnf
 ·have e:movF by_ from_ (.mk k n s ls ts) d=none:=by
   simp only[movF,Tm.kind,Tm.num];exact if_neg (by omega)
  rw[e];rfl
 ·have e:movF by_ from_ (.mk k n s ls ts) d=some (.mk 1 (n+by_) [] [] []):=by
   simp only[movF,Tm.kind,Tm.num];exact if_pos (by omega)
  rw[e];rfl
 ·have e:movF by_ from_ (.mk k n s ls ts) d=none:=by
   simp only[movF,Tm.kind,Tm.num];exact if_neg (by omega)
  rw[e];rfl
theorem jad(f:FuncId)(caps:List PV)(hp:caps.all (pur 7)=true)(left:Int)(h0 : -100000≤left)(h1:left≤100000)(t:Tm)(v:PV)(h:TmP t v):Finds C1 293 [.bp 0 0,v] [.box 254 [.fn f [] caps,iv left]] fun r st=>r=.ret [v]∧st=[.box 254 [.fn f [] caps,iv (left-j0v t)]]:=by
 have hn:=j1X t v h;have hnb:0≤j0v t∧j0v t≤2001:=by rw[j2A];omega
 obtain⟨k,n,s,ls,ts,b,z,xs,c,y,ys,rfl,rfl,-⟩:=h.open;refine j00 Tryz.func293 rfl rfl rfl ?_;repeat'(first|refine gU ?_|refine j01 hn fun _=>?_|apply gK)<;>conv=>whnf
 have hpl:∀x:Int,jeH (.box 254 [.fn f [] caps,iv x]):=fun x=>joj (by
  show((true&&caps.all (pur 7))&&(true&&true))=true
  rw[hp];rfl)
 refine vret_take rfl ?_ ⟨rfl,rfl⟩;show(soIn _ (SO.box 254 [.fn f [] caps,iv _])&&true)=true
 rw[(hpl _).2];rfl
end Go.Proofs.YtbnodhcijeaceaaGreatDoor
