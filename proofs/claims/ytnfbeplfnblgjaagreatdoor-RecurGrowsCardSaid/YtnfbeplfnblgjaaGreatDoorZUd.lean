/- Texts in a row. -/
import Derived.Test.YtnfbeplfnblgjaaGreatDoorZLj
set_option linter.all false
set_option maxRecDepth 100000
namespace Go.Proofs.YtnfbeplfnblgjaaGreatDoor
open Go Go.Am Go.Gw
variable{ns:List (List UInt8)}{z:Nat}
theorem j6H{i:Nat}{c:List UInt8}(h:ns[i]?=some c):(svs ns)[i]?=some (sv c):=by simp[svs,h]
theorem j4m(h:z=1∨ns=[]):z=1∨svs ns=[]:=by
 rcases h with rfl|rfl
 ·exact .inl rfl
 ·exact .inr rfl
def j1e(s:List UInt8):List (List UInt8)→Nat→Int
 |[],_=>-1
 |c::r,i=>if s=c then i else j1e s r (i+1)
theorem j5l(s:List UInt8):∀(ns:List (List UInt8)) (i:Nat),-1≤j1e s ns i∧j1e s ns i<(i+ns.length:Nat)+1∧(0≤j1e s ns i→j1e s ns i<(i+ns.length:Nat))
 |[],i=>by simp only[j1e,List.length_nil];omega
 |c::r,i=>by
  rw[j1e,List.length_cons];split
  ·omega
  ·have:=j5l s r (i+1);omega
theorem jbv(s:List UInt8)(ns:List (List UInt8))(b:Bool)(z:Nat)(hz:z=1∨ns=[])(hbd:ns.length≤8796093022208):Pf C1 124 [.sl b z (svs ns),sv s] [iv (j1e s ns 0)]:=by
 have hln:(svs ns).length=ns.length:=by simp
 refine run_intro Tryz.func124 rfl rfl rfl ?_;all_goals try conv=>whnf
 refine loop_over (G:=Nat) (fun i=>[(8,iv i)]) (fun _=>_) (fun i=>i≤ns.length∧j1e s (ns.drop i) i=j1e s ns 0) (fun i=>ns.length-i) 0 ⟨by omega,rfl⟩ rfl rfl ?_
 rintro i ⟨hi,hall⟩;dsimp only at hi hall⊢;repeat'(first|refine gU ?_|apply gE<;>intro h)<;>conv=>whnf
 ·have hi':i<ns.length:=by omega
  obtain⟨c,hc⟩:∃c,ns[i]?=some c:=⟨_,List.getElem?_eq_getElem hi'⟩;rw[drop_at hc,j1e] at hall;repeat'(first|refine gU ?_|apply gM<;>intro h|refine VIdx.mk _ (j6H hc) ?_|refine VOk.mk (szOk_of rfl (j4m hz)) ?_|refine j2b ?_)<;>conv=>whnf
  ·rw[if_pos (by simpa using h)] at hall
   rw[←hall]
  ·rw[if_neg (by simpa using h)] at hall
   exact VAgain.mk _ rfl _ (gc_take rfl rfl rfl) ⟨i+1,⟨hi',hall⟩,by omega,rfl⟩
 ·rw[List.drop_of_length_le (by omega),j1e] at hall
  rw[←hall]
open Go Go.Am Go.Gw
def valP(b:Bool)(z:Nat)(xs:List PV):PV:=.fn 185 [] [.cp [.sl b z xs]]
theorem j8u(b:Bool)(z:Nat)(xs:List PV):Pf C1 127 [.sl b z xs] [valP b z xs]:=by
 refine run_intro Tryz.func127 rfl rfl rfl ?_;repeat'(first|refine gU ?_|apply gE<;>intro h|apply gM<;>intro h|apply gK)<;>conv=>whnf
 refine j0O rfl rfl rfl ?_;rfl
def apLP(b:Bool)(z:Nat)(xs:List PV)(a c:Code)(x:LpS):SO:=.lp [(6,valP b z xs),(4,.sl true 0 []),(2,.bp 1 0),(0,.sl true 0 []),(1,valP b z xs)] [7] a c x
def apS(lp:SO)(don:List (List UInt8)):Sto:=match don with
 |[]=>[lp,.box 48 [.sl true 0 []]]
 |d::r=>[lp,.box 48 [.ms 2 (r.length+1)],.row false 9 1 (svs (d::r))]
theorem jbd(lp:SO)(d:List UInt8)(r:List (List UInt8))(s:List UInt8):apS lp (d::r++[s])=[lp,.box 48 [.ms 2 (r.length+1+1)],.row false 9 1 (svs (d::r)++[sv s])]:=by
 simp only[apS,List.cons_append,List.length_append,List.length_cons,List.length_nil,svs,List.map_cons,List.map_append,List.map_nil]
def ApOk(lp:SO):Prop:=∀(don:List (List UInt8)) (s:List UInt8),don.length≤1000000000→FindsY C1 [.yl 0,sv s] (apS lp don) fun r st=>r=.ret [bv true]∧st=apS lp (don++[s])
theorem jbV{b:Bool}{xs:List PV}{a c:Code}(hY:ApOk (apLP b z xs a c .ready))(don:List (List UInt8))(s:List UInt8)(hd:don.length≤1000000000){K:AR→Prop}(k:K (.val (bv true) (apS (apLP b z xs a c .ready) (don++[s])))):VYield C1 0 [sv s] (apS (apLP b z xs a c .ready) don) K:=by
 cases don with
 |nil=>
  refine j0S (st1:=apS (apLP b z xs a c .ready) []) rfl (.cons (j0e rfl rfl) (.cons (j01 rfl rfl) .nil)) rfl rfl rfl rfl (j0z (hY [] s hd) ?_);rintro _ _ ⟨rfl,rfl⟩;exact j0p (.cons (j0e rfl rfl) (.cons (j01 rfl rfl) (.cons (j0a rfl) .nil))) rfl k
 |cons d r=>
  refine j0S (st1:=apS (apLP b z xs a c .ready) (d::r)) rfl (.cons (j0e rfl rfl) (.cons (j01 rfl rfl) (.cons (j0a (j05 _)) .nil))) rfl rfl rfl rfl (j0z (hY (d::r) s hd) ?_);rintro _ _ ⟨rfl,rfl⟩;exact j0p (.cons (j0e rfl rfl) (.cons (j01 rfl rfl) (.cons (j0a (j05 _)) .nil))) rfl k
theorem j7s(b:Bool)(z:Nat)(l:List (List UInt8))(hz:z=1∨l=[])(hl:l.length≤1000000000)(a c:Code)(hY:ApOk (apLP b z (svs l) a c .ready)):Finds C1 185 [.yl 0,.cp [.sl b z (svs l)]] (apS (apLP b z (svs l) a c .ready) []) fun r st=>r=.ret []∧st=apS (apLP b z (svs l) a c .ready) l:=by
 have hln:(svs l).length=l.length:=by simp
 refine run_intro Tryz.func185 rfl rfl rfl ?_;repeat'(first|refine gU ?_|apply gE<;>intro h|apply gM<;>intro h|apply gK)<;>conv=>whnf
 refine loop_over (G:=Nat) (fun i=>[(7,iv i)]) (fun i=>apS (apLP b z (svs l) a c .ready) (l.take i)) (fun i=>i≤l.length) (fun i=>l.length-i) 0 (by omega) rfl rfl ?_
 intro i hi;repeat'(first|refine gU ?_|apply gE<;>intro h|apply gM<;>intro h|apply gK)<;>conv=>whnf
 ·have hi':i<l.length:=by omega
  obtain⟨s,hs⟩:∃s,l[i]?=some s:=⟨_,List.getElem?_eq_getElem hi'⟩;repeat'(first|refine gU ?_|apply gE<;>intro h|apply gM<;>intro h|refine VIdx.mk _ (j6H hs) ?_|refine VOk.mk (szOk_of rfl (j4m hz)) ?_|apply gK)<;>conv=>whnf
  refine jbV hY _ s (by simp;omega) ?_
  repeat'(first|refine gU ?_|apply gE<;>intro h|apply gM<;>intro h|apply gK)<;>conv=>whnf
  have e:l.take i++[s]=l.take (i+1):=(take_snoc' hs).symm;refine VAgain.mk _ rfl (apS (apLP b z (svs l) a c .ready) (l.take (i+1))) ?_ ⟨i+1,hi',by omega,rfl⟩
  rw[e];generalize l.take (i+1)=don;cases don with
  |nil=>exact gc_same rfl
  |cons d r=>exact j0q (.cons (j2a rfl rfl) (.cons (j00 rfl rfl) (.cons (j03 (j05 _)) .nil))) (.cons (j2a rfl rfl) (.cons (j00 rfl rfl) (.cons (j03 (j05 _)) .nil))) rfl rfl rfl rfl rfl
 ·have e:l.take i=l:=List.take_of_length_le (by omega)
  show VRet C1 _ _ _ (apS (apLP b z (svs l) a c .ready) (l.take i)) _
  rw[e];generalize svs l=xs at *;cases l with
  |nil=>exact vret_take rfl rfl ⟨rfl,rfl⟩
  |cons d r=>exact j2Q (.inr ⟨rfl,rfl⟩) rfl (j0q (.cons (j2a rfl rfl) (.cons (j00 rfl rfl) (.cons (j03 (j05 _)) .nil))) (.cons (j2a rfl rfl) (.cons (j00 rfl rfl) (.cons (j03 (j05 _)) .nil))) rfl rfl rfl rfl rfl) (j0B rfl) ⟨rfl,rfl⟩
def rowV(l:List (List UInt8)):PV:=match l with
 |[]=>.sl true 0 []
 |_::q=>.ms 0 (q.length+1)
def rowT(l:List (List UInt8)):Sto:=match l with
 |[]=>[]
 |d::q=>[.row false 9 1 (svs (d::q))]
theorem j4P(b:Bool)(z:Nat)(l:List (List UInt8))(hz:z=1∨l=[])(hl:l.length≤1000000000):Finds C1 233 [.sl true 0 [],valP b z (svs l)] [] fun r st=>r=.ret [rowV l]∧st=rowT l:=by
 refine run_intro Tryz.func233 rfl rfl rfl ?_;repeat'(first|refine gU ?_|apply gE<;>intro h|apply gM<;>intro h|apply gK)<;>conv=>whnf
 refine j0N rfl rfl (.cons (j01 rfl rfl) (.cons (j0e rfl rfl) .nil)) rfl rfl rfl rfl (Finds.mono (j7s b z l hz hl _ _ ?_) ?_)
 ·intro don s hd;cases don with
  |nil=>
   refine j0l rfl rfl ?_;repeat'(first|refine gU ?_|apply gE<;>intro h|apply gM<;>intro h|apply gK)<;>conv=>whnf
   exact⟨rfl,by kernel_rfl⟩
  |cons d r=>
   have hln:(svs (d::r)).length=r.length+1:=by simp
   have hp8:(svs (d::r)++[sv s]).all (pur 8)=true:=by
    rw[show svs (d::r)++[sv s]=svs (d::r++[s]) by simp[svs]]
    exact j05 _
   simp only[List.length_cons] at hd;refine j0l rfl rfl ?_;repeat'(first|refine gU ?_|apply gE<;>intro h|apply gM<;>intro h|refine VOk.mk (j0o (w:=16) (r:=140737488355328) hln rfl rfl rfl rfl (by simp only[List.length_cons,List.length_nil];omega) (by simp only[List.length_cons,List.length_nil];omega)) ?_|apply gK)<;>conv=>whnf
   rw[jbd];exact⟨rfl,j2c rfl (.cons (j0e rfl rfl) (.cons (j01 rfl rfl) (.cons (j0a hp8) .nil))) rfl⟩
 ·rintro _ _ ⟨rfl,rfl⟩;cases l with
  |nil=>
   refine j0p (.cons (j0e rfl rfl) (.cons (j01 rfl rfl) .nil)) rfl ?_;repeat'(first|refine gU ?_|apply gE<;>intro h|apply gM<;>intro h|apply gK)<;>conv=>whnf
   exact⟨rfl,rfl⟩
  |cons d q=>
   refine j0p (.cons (j0e rfl rfl) (.cons (j01 rfl rfl) (.cons (j0a (j05 _)) .nil))) rfl ?_;repeat'(first|refine gU ?_|apply gE<;>intro h|apply gM<;>intro h|apply gK)<;>conv=>whnf
   exact j2Q (.inl ⟨rfl,rfl,rfl⟩) rfl (j0q (.cons (j00 rfl rfl) (.cons j07 (.cons (j03 (j05 _)) .nil))) (.cons j07 (.cons j07 (.cons (j03 (j05 _)) .nil))) rfl rfl rfl rfl rfl) (j0R (.cons j0T (.cons j0T (.cons (j0a (j05 _)) .nil))) rfl rfl rfl rfl) ⟨rfl,rfl⟩
theorem j6M(b:Bool)(z:Nat)(l:List (List UInt8))(hz:z=1∨l=[])(hl:l.length≤1000000000):Finds C1 183 [valP b z (svs l)] [] fun r st=>r=.ret [rowV l]∧st=rowT l:=by
 have ha:=j4P b z l hz hl;refine run_intro Tryz.func183 rfl rfl rfl ?_;repeat'(first|refine gU ?_|apply gE<;>intro h|apply gM<;>intro h|apply gK)<;>conv=>whnf
 cases l with
 |nil=>
  refine vcall_pure rfl (Finds.mono ha ?_);rintro _ _ ⟨rfl,rfl⟩;refine⟨rfl,?_⟩;repeat'(first|refine gU ?_|apply gE<;>intro h|apply gM<;>intro h|apply gK)<;>conv=>whnf
  exact⟨rfl,rfl⟩
 |cons d q=>
  refine vcall_made rfl (Finds.mono ha ?_);rintro _ _ ⟨rfl,rfl⟩;refine⟨rfl,j0p (.cons (j0a (j05 _)) .nil) rfl ?_⟩;repeat'(first|refine gU ?_|apply gE<;>intro h|apply gM<;>intro h|apply gK)<;>conv=>whnf
  exact j2Q (.inl ⟨rfl,rfl,rfl⟩) rfl (j0q (.cons (j03 (j05 _)) .nil) (.cons (j03 (j05 _)) .nil) rfl rfl rfl rfl rfl) (j0B rfl) ⟨rfl,rfl⟩
theorem jaT(l:List (List UInt8)):mapO Go.Am.strOf (svs l)=some (l.map fun s=>(⟨s.toArray⟩:ByteArray)):=by
 induction l with
 |nil=>rfl
 |cons s r ih=>simp only[svs,List.map_cons,mapO,Go.Am.strOf] at *;rw[ih]
theorem jdb(l:List (List UInt8)):(l.map fun s=>(⟨s.toArray⟩:ByteArray)).map bl=l:=by
 rw[List.map_map];exact(List.map_congr_left fun s _=>by simp[bl]).trans (List.map_id l)
theorem jcg(l:List (List UInt8)):svL l=svs l:=rfl
theorem jcW(d:List UInt8)(q:List (List UInt8))(hl:(d::q).length≤1000000000):Finds C1 184 [.ms 0 (q.length+1)] [.row false 9 1 (svs (d::q))] fun r st=>r=.ret []∧st=[.row false 9 1 (svs (j0Q (d::q)))]:=by
 refine finds_at (F:=j9d) rfl ?_ ⟨rfl,rfl⟩;have h1:=jaT (d::q);have h2:((Nat.beq (q.length+1) ((d::q).map fun s=>(⟨s.toArray⟩:ByteArray)).length && !Hb.markT 9)&&Nat.ble (q.length+1) 1000000000)=true:=by
  rw[List.length_map,List.length_cons,Nat.beq_refl,Nat.ble_eq_true_of_le (by simpa using hl)]
  rfl
 simp only[j9d,h1,h2,jdb,jcg]
theorem jcs(d:List UInt8)(q:List (List UInt8))(hl:(d::q).length≤1000000000):Finds C1 125 [.ms 0 (q.length+1)] [.row false 9 1 (svs (d::q))] fun r st=>r=.ret [.ms 1 (j1U (d::q)).length]∧st=[.dead,.row false 9 1 (svs (j1U (d::q)))]:=by
 refine finds_at (F:=j8A) rfl ?_ ⟨rfl,rfl⟩;have h1:=jaT (d::q);have h2:((Nat.beq (q.length+1) ((d::q).map fun s=>(⟨s.toArray⟩:ByteArray)).length && !Hb.markT 9)&&(Nat.ble (q.length+1) 1000000000&&Nat.ble 1 (q.length+1)))=true:=by
  rw[List.length_map,List.length_cons,Nat.beq_refl,Nat.ble_eq_true_of_le (by simpa using hl),Nat.ble_eq_true_of_le (by omega)]
  rfl
 simp only[j8A,h1,h2,jdb,jcg]
theorem j8t(b:Bool)(z:Nat)(l:List (List UInt8))(hz:z=1∨l=[])(hl:l.length≤1000000000):Finds C1 126 [valP b z (svs l)] [] fun r st=>r=.ret [rowV (j0Q l)]∧st=rowT (j0Q l):=by
 have ha:=j6M b z l hz hl;refine run_intro Tryz.func126 rfl rfl rfl ?_;repeat'(first|refine gU ?_|apply gE<;>intro h|apply gM<;>intro h|apply gK)<;>conv=>whnf
 cases l with
 |nil=>
  refine vcall_pure rfl (Finds.mono ha ?_);rintro _ _ ⟨rfl,rfl⟩;refine⟨rfl,?_⟩;repeat'(first|refine gU ?_|apply gE<;>intro h|apply gM<;>intro h|apply gK)<;>conv=>whnf
  refine vcall_pure rfl (Finds.mono (finds_at (F:=j9d) (Q:=fun r _=>r=.ret []) rfl rfl rfl) ?_)
  rintro _ _ rfl;refine⟨rfl,?_⟩;repeat'(first|refine gU ?_|apply gE<;>intro h|apply gM<;>intro h|apply gK)<;>conv=>whnf
  exact⟨rfl,rfl⟩
 |cons d q=>
  have hs:=jcW d q hl;have hlen:(j0Q (d::q)).length=q.length+1:=by rw[j1a];rfl
  obtain⟨d1,q1,he⟩:∃d1 q1,j0Q (d::q)=d1::q1:=by
   cases h:j0Q (d::q) with
   |nil=>rw[h] at hlen;simp at hlen
   |cons d1 q1=>exact⟨d1,q1,rfl⟩
  rw[he] at hs hlen⊢;have hq:q.length=q1.length:=by simpa using hlen.symm
  refine vcall_made rfl (Finds.mono ha ?_);rintro _ _ ⟨rfl,rfl⟩;refine⟨rfl,j0p (.cons (j0a (j05 _)) .nil) rfl ?_⟩;repeat'(first|refine gU ?_|apply gE<;>intro h|apply gM<;>intro h|apply gK)<;>conv=>whnf
  refine j0N rfl rfl (.cons (j0a (j05 _)) .nil) rfl rfl rfl rfl (Finds.mono hs ?_);rintro _ _ ⟨rfl,rfl⟩;refine j0p (.cons (j0a (j05 _)) .nil) rfl ?_;repeat'(first|refine gU ?_|apply gE<;>intro h|apply gM<;>intro h|apply gK)<;>conv=>whnf
  exact j2Q (.inl ⟨rfl,rfl,rfl⟩) rfl (j0q (.cons (j03 (j05 _)) .nil) (.cons (j03 (j05 _)) .nil) rfl rfl rfl rfl rfl) (j0B rfl) ⟨congrArg (fun n=>AEnd.ret [.ms 0 (n+1)]) hq,rfl⟩
def j4q(l:List (List UInt8)):PV:=match l with
 |[]=>.sl true 0 []
 |d::q=>.sl false 1 (svs (d::q))
theorem j3w(b:Bool)(z:Nat)(l:List (List UInt8))(hz:z=1∨l=[])(hl:l.length≤1000000000):Pf C1 73 [.sl b z (svs l)] [j4q (j1u l)]:=by
 have hv:=j8u b z (svs l);have ha:=j8t b z l hz hl;refine run_intro Tryz.func73 rfl rfl rfl ?_;repeat'(first|refine gU ?_|apply gE<;>intro h|apply gM<;>intro h|refine gX hv ?_|apply gK)<;>conv=>whnf
 unfold j1u;cases hs:j0Q l with
 |nil=>
  rw[hs] at ha;refine vcall_pure rfl (Finds.mono ha ?_);rintro _ _ ⟨rfl,rfl⟩;refine⟨rfl,?_⟩;repeat'(first|refine gU ?_|apply gE<;>intro h|apply gM<;>intro h|apply gK)<;>conv=>whnf
  refine vcall_pure rfl (Finds.mono (finds_at (F:=j8A) (Q:=fun r _=>r=.ret [.sl true 0 []]) rfl rfl rfl) ?_)
  rintro _ _ rfl;refine⟨rfl,?_⟩;repeat'(first|refine gU ?_|apply gE<;>intro h|apply gM<;>intro h|apply gK)<;>conv=>whnf
  rfl
 |cons d q=>
  rw[hs] at ha;have hc:=jcs d q (by rw[←hs,j1a];exact hl)
  obtain⟨d1,q1,he⟩:∃d1 q1,j1U (d::q)=d1::q1:=⟨_,_,rfl⟩;rw[he] at hc⊢;refine vcall_made rfl (Finds.mono ha ?_);rintro _ _ ⟨rfl,rfl⟩;refine⟨rfl,j0p (.cons (j0a (j05 _)) .nil) rfl ?_⟩;repeat'(first|refine gU ?_|apply gE<;>intro h|apply gM<;>intro h|apply gK)<;>conv=>whnf
  refine j0N rfl rfl (.cons (j0a (j05 _)) .nil) rfl rfl rfl rfl (Finds.mono hc ?_);rintro _ _ ⟨rfl,rfl⟩;refine j0p (.cons j0T (.cons (j0a (j05 _)) .nil)) rfl ?_;repeat'(first|refine gU ?_|apply gE<;>intro h|apply gM<;>intro h|apply gK)<;>conv=>whnf
  refine j0O rfl (j02 (j0D rfl (by simp) (j4n _)) j0h) rfl ?_
  rfl
open Go Go.Am Go.Gw
def spF:Tm→Tm×List Tm
 | .mk k n s ls ts=>match ts with
  |[f,a]=>if k=4 then((spF f).1,a::(spF f).2) else(.mk k n s ls [f,a],[])
  |ts=>(.mk k n s ls ts,[])
def Turned(ts us:List Tm)(i:Nat):Prop:=us.length=ts.length∧∀j,j<ts.length→us[j]?=if j<i∨ts.length≤j+i then ts[ts.length-1-j]? else ts[j]?
def j9z(t:Tm):List Tm:=(spF t).2.reverse
def spS(z:List PV)(g:List Tm×Tm×PV):Sto:=match g.1 with
 |[]=>[.box 25 g.2.2.cells,.box 25 z]
 |a::r=>[.box 25 g.2.2.cells,.box 25 z,.row false 25 5 ((a::r).map encT)]
open Go Go.Am Go.Gw
def jeQ:PV:=.fn 205 [] []
def jf4:PV:=.fn 158 [] []
end Go.Proofs.YtnfbeplfnblgjaaGreatDoor
