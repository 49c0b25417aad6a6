/- Texts in a row. -/
import Derived.Test.YtbnodhcijeaceaaGreatDoorZWb
set_option linter.all false
set_option maxHeartbeats 2000000
set_option maxRecDepth 100000
namespace Go.Proofs.YtbnodhcijeaceaaGreatDoor
open Go Go.Am Go.Gw
variable{ns:List (List UInt8)}{ts:List Tm}{j z:Nat}{tc:Tm}
theorem jds{i:Nat}{c:List UInt8}(h:ns[i]?=some c):(svs ns)[i]?=some (sv c):=by simp[svs,h]
theorem j7G(h:z=1∨ns=[]):z=1∨svs ns=[]:=by
 rcases h with rfl|rfl
 ·exact .inl rfl
 ·exact .inr rfl
def je8(s:List UInt8):List (List UInt8)→Nat→Int
 |[],_=>-1
 |c::r,i=>if s=c then i else je8 s r (i+1)
theorem jg1(s:List UInt8):∀(ns:List (List UInt8)) (i:Nat),decide (0≤je8 s ns i)=decide (s∈ns)
 |[],i=>by simp[je8]
 |c::r,i=>by
  rw[je8]
  by_cases h:s=c
  ·rw[if_pos h];simp[h]
  ·rw[if_neg h,jg1 s r (i+1)];simp[h]
theorem jpM(s:List UInt8)(ns:List (List UInt8))(b:Bool)(z:Nat)(hz:z=1∨ns=[])(hbd:ns.length≤8796093022208):Pf C1 394 [.sl b z (svs ns),sv s] [iv (je8 s ns 0)]:=by
 have hln:(svs ns).length=ns.length:=by simp
 refine j00 Tryz.func394 rfl rfl rfl ?_;all_goals try conv=>whnf
 refine j03 (G:=Nat) (fun i=>[(8,iv i)]) (fun _=>_) (fun i=>i≤ns.length∧je8 s (ns.drop i) i=je8 s ns 0) (fun i=>ns.length-i) 0 ⟨by omega,rfl⟩ rfl rfl ?_
 rintro i ⟨hi,hall⟩;dsimp only at hi hall⊢;repeat'(first|refine gU ?_|apply gE<;>intro h)<;>conv=>whnf
 ·have hi':i<ns.length:=by omega
  obtain⟨c,hc⟩:∃c,ns[i]?=some c:=⟨_,List.getElem?_eq_getElem hi'⟩;rw[drop_at hc,je8] at hall;repeat'(first|refine gU ?_|apply gM<;>intro h|refine VIdx.mk _ (jds hc) ?_|refine VOk.mk (j0N rfl (j7G hz)) ?_|refine j4n ?_)<;>conv=>whnf
  ·rw[if_pos (by simpa using h)] at hall
   rw[←hall]
  ·rw[if_neg (by simpa using h)] at hall
   exact VAgain.mk _ rfl _ (j0a rfl rfl rfl) ⟨i+1,⟨hi',hall⟩,by omega,rfl⟩
 ·rw[List.drop_of_length_le (by omega),je8] at hall
  rw[←hall]
theorem jdB(s:List UInt8)(ns:List (List UInt8))(b:Bool)(z:Nat)(hz:z=1∨ns=[])(hbd:ns.length≤8796093022208):Pf C1 392 [.sl b z (svs ns),sv s] [bv (decide (s∈ns))]:=by
 have hi:=jpM s ns b z hz hbd;have e:=jg1 s ns 0;refine j00 Tryz.func392 rfl rfl rfl ?_;repeat'(first|refine gU ?_|refine gX hi ?_)<;>conv=>whnf
 rw[←e]
open Go Go.Am Go.Gw
def valP(b:Bool)(z:Nat)(xs:List PV):PV:=.fn 280 [] [.cp [.sl b z xs]]
theorem jka(b:Bool)(z:Nat)(xs:List PV):Pf C1 241 [.sl b z xs] [valP b z xs]:=by
 refine j00 Tryz.func241 rfl rfl rfl ?_;repeat'(first|refine gU ?_|apply gE<;>intro h|apply gM<;>intro h|apply gK)<;>conv=>whnf
 refine j0n rfl rfl rfl ?_;rfl
def apLP(b:Bool)(z:Nat)(xs:List PV)(a c:Code)(x:LpS):SO:=.lp [(6,valP b z xs),(4,.sl true 0 []),(2,.bp 1 0),(0,.sl true 0 []),(1,valP b z xs)] [7] a c x
def apS(lp:SO)(don:List (List UInt8)):Sto:=match don with
 |[]=>[lp,.box 49 [.sl true 0 []]]
 |d::r=>[lp,.box 49 [.ms 2 (r.length+1)],.row false 9 1 (svs (d::r))]
theorem jpn(lp:SO)(d:List UInt8)(r:List (List UInt8))(s:List UInt8):apS lp (d::r++[s])=[lp,.box 49 [.ms 2 (r.length+1+1)],.row false 9 1 (svs (d::r)++[sv s])]:=by
 simp only[apS,List.cons_append,List.length_append,List.length_cons,List.length_nil,svs,List.map_cons,List.map_append,List.map_nil]
def ApOk(lp:SO):Prop:=∀(don:List (List UInt8)) (s:List UInt8),don.length≤1000000000→FindsY C1 [.yl 0,sv s] (apS lp don) fun r st=>r=.ret [bv true]∧st=apS lp (don++[s])
theorem jr3{b:Bool}{xs:List PV}{a c:Code}(hY:ApOk (apLP b z xs a c .ready))(don:List (List UInt8))(s:List UInt8)(hd:don.length≤1000000000){K:AR→Prop}(k:K (.val (bv true) (apS (apLP b z xs a c .ready) (don++[s])))):VYield C1 0 [sv s] (apS (apLP b z xs a c .ready) don) K:=by
 cases don with
 |nil=>
  refine j2W (st1:=apS (apLP b z xs a c .ready) []) rfl (.cons (j0H rfl rfl) (.cons (j05 rfl rfl) .nil)) rfl rfl rfl rfl (j1O (hY [] s hd) ?_);rintro _ _ ⟨rfl,rfl⟩;exact j1v (.cons (j0H rfl rfl) (.cons (j05 rfl rfl) (.cons (j0l rfl) .nil))) rfl k
 |cons d r=>
  refine j2W (st1:=apS (apLP b z xs a c .ready) (d::r)) rfl (.cons (j0H rfl rfl) (.cons (j05 rfl rfl) (.cons (j0l (j0d _)) .nil))) rfl rfl rfl rfl (j1O (hY (d::r) s hd) ?_);rintro _ _ ⟨rfl,rfl⟩;exact j1v (.cons (j0H rfl rfl) (.cons (j05 rfl rfl) (.cons (j0l (j0d _)) .nil))) rfl k
theorem jip(b:Bool)(z:Nat)(l:List (List UInt8))(hz:z=1∨l=[])(hl:l.length≤1000000000)(a c:Code)(hY:ApOk (apLP b z (svs l) a c .ready)):Finds C1 280 [.yl 0,.cp [.sl b z (svs l)]] (apS (apLP b z (svs l) a c .ready) []) fun r st=>r=.ret []∧st=apS (apLP b z (svs l) a c .ready) l:=by
 have hln:(svs l).length=l.length:=by simp
 refine j00 Tryz.func280 rfl rfl rfl ?_;repeat'(first|refine gU ?_|apply gE<;>intro h|apply gM<;>intro h|apply gK)<;>conv=>whnf
 refine j03 (G:=Nat) (fun i=>[(7,iv i)]) (fun i=>apS (apLP b z (svs l) a c .ready) (l.take i)) (fun i=>i≤l.length) (fun i=>l.length-i) 0 (by omega) rfl rfl ?_
 intro i hi;repeat'(first|refine gU ?_|apply gE<;>intro h|apply gM<;>intro h|apply gK)<;>conv=>whnf
 ·have hi':i<l.length:=by omega
  obtain⟨s,hs⟩:∃s,l[i]?=some s:=⟨_,List.getElem?_eq_getElem hi'⟩;repeat'(first|refine gU ?_|apply gE<;>intro h|apply gM<;>intro h|refine VIdx.mk _ (jds hs) ?_|refine VOk.mk (j0N rfl (j7G hz)) ?_|apply gK)<;>conv=>whnf
  refine jr3 hY _ s (by simp;omega) ?_
  repeat'(first|refine gU ?_|apply gE<;>intro h|apply gM<;>intro h|apply gK)<;>conv=>whnf
  have e:l.take i++[s]=l.take (i+1):=(take_snoc' hs).symm;refine VAgain.mk _ rfl (apS (apLP b z (svs l) a c .ready) (l.take (i+1))) ?_ ⟨i+1,hi',by omega,rfl⟩
  rw[e];generalize l.take (i+1)=don;cases don with
  |nil=>exact j0X rfl
  |cons d r=>exact j0L (.cons (j5F rfl rfl) (.cons (j02 rfl rfl) (.cons (j08 (j0d _)) .nil))) (.cons (j5F rfl rfl) (.cons (j02 rfl rfl) (.cons (j08 (j0d _)) .nil))) rfl rfl rfl rfl rfl
 ·have e:l.take i=l:=List.take_of_length_le (by omega)
  show VRet C1 _ _ _ (apS (apLP b z (svs l) a c .ready) (l.take i)) _
  rw[e];generalize svs l=xs at *;cases l with
  |nil=>exact vret_take rfl rfl ⟨rfl,rfl⟩
  |cons d r=>exact j1j (.inr ⟨rfl,rfl⟩) rfl (j0L (.cons (j5F rfl rfl) (.cons (j02 rfl rfl) (.cons (j08 (j0d _)) .nil))) (.cons (j5F rfl rfl) (.cons (j02 rfl rfl) (.cons (j08 (j0d _)) .nil))) rfl rfl rfl rfl rfl) (j1a rfl) ⟨rfl,rfl⟩
def rowV(l:List (List UInt8)):PV:=match l with
 |[]=>.sl true 0 []
 |_::q=>.ms 0 (q.length+1)
def rowT(l:List (List UInt8)):Sto:=match l with
 |[]=>[]
 |d::q=>[.row false 9 1 (svs (d::q))]
theorem jdy(b:Bool)(z:Nat)(l:List (List UInt8))(hz:z=1∨l=[])(hl:l.length≤1000000000):Finds C1 314 [.sl true 0 [],valP b z (svs l)] [] fun r st=>r=.ret [rowV l]∧st=rowT l:=by
 refine j00 Tryz.func314 rfl rfl rfl ?_;repeat'(first|refine gU ?_|apply gE<;>intro h|apply gM<;>intro h|apply gK)<;>conv=>whnf
 refine j0W rfl rfl (.cons (j05 rfl rfl) (.cons (j0H rfl rfl) .nil)) rfl rfl rfl rfl (Finds.mono (jip b z l hz hl _ _ ?_) ?_)
 ·intro don s hd;cases don with
  |nil=>
   refine j1U rfl rfl ?_;repeat'(first|refine gU ?_|apply gE<;>intro h|apply gM<;>intro h|apply gK)<;>conv=>whnf
   exact⟨rfl,by kernel_rfl⟩
  |cons d r=>
   have hln:(svs (d::r)).length=r.length+1:=by simp
   have hp8:(svs (d::r)++[sv s]).all (pur 8)=true:=by
    rw[show svs (d::r)++[sv s]=svs (d::r++[s]) by simp[svs]]
    exact j0d _
   simp only[List.length_cons] at hd;refine j1U rfl rfl ?_;repeat'(first|refine gU ?_|apply gE<;>intro h|apply gM<;>intro h|refine VOk.mk (j1h (w:=16) (r:=140737488355328) hln rfl rfl rfl rfl (by simp only[List.length_cons,List.length_nil];omega) (by simp only[List.length_cons,List.length_nil];omega)) ?_|apply gK)<;>conv=>whnf
   rw[jpn];exact⟨rfl,j5J rfl (.cons (j0H rfl rfl) (.cons (j05 rfl rfl) (.cons (j0l hp8) .nil))) rfl⟩
 ·rintro _ _ ⟨rfl,rfl⟩;cases l with
  |nil=>
   refine j1v (.cons (j0H rfl rfl) (.cons (j05 rfl rfl) .nil)) rfl ?_;repeat'(first|refine gU ?_|apply gE<;>intro h|apply gM<;>intro h|apply gK)<;>conv=>whnf
   exact⟨rfl,rfl⟩
  |cons d q=>
   refine j1v (.cons (j0H rfl rfl) (.cons (j05 rfl rfl) (.cons (j0l (j0d _)) .nil))) rfl ?_;repeat'(first|refine gU ?_|apply gE<;>intro h|apply gM<;>intro h|apply gK)<;>conv=>whnf
   exact j1j (.inl ⟨rfl,rfl,rfl⟩) rfl (j0L (.cons (j02 rfl rfl) (.cons j0i (.cons (j08 (j0d _)) .nil))) (.cons j0i (.cons j0i (.cons (j08 (j0d _)) .nil))) rfl rfl rfl rfl rfl) (j2U (.cons j2Y (.cons j2Y (.cons (j0l (j0d _)) .nil))) rfl rfl rfl rfl) ⟨rfl,rfl⟩
theorem jh7(b:Bool)(z:Nat)(l:List (List UInt8))(hz:z=1∨l=[])(hl:l.length≤1000000000):Finds C1 278 [valP b z (svs l)] [] fun r st=>r=.ret [rowV l]∧st=rowT l:=by
 have ha:=jdy b z l hz hl;refine j00 Tryz.func278 rfl rfl rfl ?_;repeat'(first|refine gU ?_|apply gE<;>intro h|apply gM<;>intro h|apply gK)<;>conv=>whnf
 cases l with
 |nil=>
  refine j2V rfl (Finds.mono ha ?_);rintro _ _ ⟨rfl,rfl⟩;refine⟨rfl,?_⟩;repeat'(first|refine gU ?_|apply gE<;>intro h|apply gM<;>intro h|apply gK)<;>conv=>whnf
  exact⟨rfl,rfl⟩
 |cons d q=>
  refine j1b rfl (Finds.mono ha ?_);rintro _ _ ⟨rfl,rfl⟩;refine⟨rfl,j1v (.cons (j0l (j0d _)) .nil) rfl ?_⟩;repeat'(first|refine gU ?_|apply gE<;>intro h|apply gM<;>intro h|apply gK)<;>conv=>whnf
  exact j1j (.inl ⟨rfl,rfl,rfl⟩) rfl (j0L (.cons (j08 (j0d _)) .nil) (.cons (j08 (j0d _)) .nil) rfl rfl rfl rfl rfl) (j1a rfl) ⟨rfl,rfl⟩
theorem joN(l:List (List UInt8)):mapO Go.Am.strOf (svs l)=some (l.map fun s=>(⟨s.toArray⟩:ByteArray)):=by
 induction l with
 |nil=>rfl
 |cons s r ih=>simp only[svs,List.map_cons,mapO,Go.Am.strOf] at *;rw[ih]
theorem jta(l:List (List UInt8)):(l.map fun s=>(⟨s.toArray⟩:ByteArray)).map bl=l:=by
 rw[List.map_map];exact(List.map_congr_left fun s _=>by simp[bl]).trans (List.map_id l)
theorem jrF(l:List (List UInt8)):svL l=svs l:=rfl
theorem jsP(d:List UInt8)(q:List (List UInt8))(hl:(d::q).length≤1000000000):Finds C1 279 [.ms 0 (q.length+1)] [.row false 9 1 (svs (d::q))] fun r st=>r=.ret []∧st=[.row false 9 1 (svs (j2T (d::q)))]:=by
 refine jaf (F:=jlJ) rfl ?_ ⟨rfl,rfl⟩;have h1:=joN (d::q);have h2:((Nat.beq (q.length+1) ((d::q).map fun s=>(⟨s.toArray⟩:ByteArray)).length && !Hb.markT 9)&&Nat.ble (q.length+1) 1000000000)=true:=by
  rw[List.length_map,List.length_cons,Nat.beq_refl,Nat.ble_eq_true_of_le (by simpa using hl)]
  rfl
 simp only[jlJ,h1,h2,jta,jrF]
theorem js1(d:List UInt8)(q:List (List UInt8))(hl:(d::q).length≤1000000000):Finds C1 239 [.ms 0 (q.length+1)] [.row false 9 1 (svs (d::q))] fun r st=>r=.ret [.ms 1 (j5X (d::q)).length]∧st=[.dead,.row false 9 1 (svs (j5X (d::q)))]:=by
 refine jaf (F:=jkq) rfl ?_ ⟨rfl,rfl⟩;have h1:=joN (d::q);have h2:((Nat.beq (q.length+1) ((d::q).map fun s=>(⟨s.toArray⟩:ByteArray)).length && !Hb.markT 9)&&(Nat.ble (q.length+1) 1000000000&&Nat.ble 1 (q.length+1)))=true:=by
  rw[List.length_map,List.length_cons,Nat.beq_refl,Nat.ble_eq_true_of_le (by simpa using hl),Nat.ble_eq_true_of_le (by omega)]
  rfl
 simp only[jkq,h1,h2,jta,jrF]
theorem jk9(b:Bool)(z:Nat)(l:List (List UInt8))(hz:z=1∨l=[])(hl:l.length≤1000000000):Finds C1 240 [valP b z (svs l)] [] fun r st=>r=.ret [rowV (j2T l)]∧st=rowT (j2T l):=by
 have ha:=jh7 b z l hz hl;refine j00 Tryz.func240 rfl rfl rfl ?_;repeat'(first|refine gU ?_|apply gE<;>intro h|apply gM<;>intro h|apply gK)<;>conv=>whnf
 cases l with
 |nil=>
  refine j2V rfl (Finds.mono ha ?_);rintro _ _ ⟨rfl,rfl⟩;refine⟨rfl,?_⟩;repeat'(first|refine gU ?_|apply gE<;>intro h|apply gM<;>intro h|apply gK)<;>conv=>whnf
  refine j2V rfl (Finds.mono (jaf (F:=jlJ) (Q:=fun r _=>r=.ret []) rfl rfl rfl) ?_)
  rintro _ _ rfl;refine⟨rfl,?_⟩;repeat'(first|refine gU ?_|apply gE<;>intro h|apply gM<;>intro h|apply gK)<;>conv=>whnf
  exact⟨rfl,rfl⟩
 |cons d q=>
  have hs:=jsP d q hl;have hlen:(j2T (d::q)).length=q.length+1:=by rw[j3m];rfl
  obtain⟨d1,q1,he⟩:∃d1 q1,j2T (d::q)=d1::q1:=by
   cases h:j2T (d::q) with
   |nil=>rw[h] at hlen;simp at hlen
   |cons d1 q1=>exact⟨d1,q1,rfl⟩
  rw[he] at hs hlen⊢;have hq:q.length=q1.length:=by simpa using hlen.symm
  refine j1b rfl (Finds.mono ha ?_);rintro _ _ ⟨rfl,rfl⟩;refine⟨rfl,j1v (.cons (j0l (j0d _)) .nil) rfl ?_⟩;repeat'(first|refine gU ?_|apply gE<;>intro h|apply gM<;>intro h|apply gK)<;>conv=>whnf
  refine j0W rfl rfl (.cons (j0l (j0d _)) .nil) rfl rfl rfl rfl (Finds.mono hs ?_);rintro _ _ ⟨rfl,rfl⟩;refine j1v (.cons (j0l (j0d _)) .nil) rfl ?_;repeat'(first|refine gU ?_|apply gE<;>intro h|apply gM<;>intro h|apply gK)<;>conv=>whnf
  exact j1j (.inl ⟨rfl,rfl,rfl⟩) rfl (j0L (.cons (j08 (j0d _)) .nil) (.cons (j08 (j0d _)) .nil) rfl rfl rfl rfl rfl) (j1a rfl) ⟨congrArg (fun n=>AEnd.ret [.ms 0 (n+1)]) hq,rfl⟩
def jpz(l:List (List UInt8)):PV:=match l with
 |[]=>.sl true 0 []
 |d::q=>.sl false 1 (svs (d::q))
theorem j9R(b:Bool)(z:Nat)(l:List (List UInt8))(hz:z=1∨l=[])(hl:l.length≤1000000000):Pf C1 183 [.sl b z (svs l)] [jpz (j6q l)]:=by
 have hv:=jka b z (svs l);have ha:=jk9 b z l hz hl;refine j00 Tryz.func183 rfl rfl rfl ?_;repeat'(first|refine gU ?_|apply gE<;>intro h|apply gM<;>intro h|refine gX hv ?_|apply gK)<;>conv=>whnf
 unfold j6q;cases hs:j2T l with
 |nil=>
  rw[hs] at ha;refine j2V rfl (Finds.mono ha ?_);rintro _ _ ⟨rfl,rfl⟩;refine⟨rfl,?_⟩;repeat'(first|refine gU ?_|apply gE<;>intro h|apply gM<;>intro h|apply gK)<;>conv=>whnf
  refine j2V rfl (Finds.mono (jaf (F:=jkq) (Q:=fun r _=>r=.ret [.sl true 0 []]) rfl rfl rfl) ?_)
  rintro _ _ rfl;refine⟨rfl,?_⟩;repeat'(first|refine gU ?_|apply gE<;>intro h|apply gM<;>intro h|apply gK)<;>conv=>whnf
  rfl
 |cons d q=>
  rw[hs] at ha;have hc:=js1 d q (by rw[←hs,j3m];exact hl)
  obtain⟨d1,q1,he⟩:∃d1 q1,j5X (d::q)=d1::q1:=⟨_,_,rfl⟩;rw[he] at hc⊢;refine j1b rfl (Finds.mono ha ?_);rintro _ _ ⟨rfl,rfl⟩;refine⟨rfl,j1v (.cons (j0l (j0d _)) .nil) rfl ?_⟩;repeat'(first|refine gU ?_|apply gE<;>intro h|apply gM<;>intro h|apply gK)<;>conv=>whnf
  refine j0W rfl rfl (.cons (j0l (j0d _)) .nil) rfl rfl rfl rfl (Finds.mono hc ?_);rintro _ _ ⟨rfl,rfl⟩;refine j1v (.cons j2Y (.cons (j0l (j0d _)) .nil)) rfl ?_;repeat'(first|refine gU ?_|apply gE<;>intro h|apply gM<;>intro h|apply gK)<;>conv=>whnf
  refine j0n rfl (j04 (j0D rfl (by simp) (j8B _)) j0m) rfl ?_
  rfl
open Go Go.Am Go.Gw
def jtU(cs:List PV):PV:=.fn 237 [] [.cp cs]
theorem jqX(t:Tm)(v:PV)(h:TmP t v):Pf C1 182 [v] [jtU v.cells]:=by
 obtain⟨k,n,s,ls,ts,b,z,xs,c,y,ys,rfl,rfl,-⟩:=h.open;refine j00 Tryz.func182 rfl rfl rfl ?_;repeat'(first|refine gU ?_|apply gE<;>intro h|apply gM<;>intro h|apply gK)<;>conv=>whnf
 refine j0n rfl rfl rfl ?_;rfl
structure TVu where
 k:Int
 n:Int
 s:List UInt8
 b:Bool
 z:Nat
 xs:List PV
 c:Bool
 y:Nat
 ys:List PV
def TVu.cs(q:TVu):List PV:=[iv q.k,iv q.n,sv q.s,.sl q.b q.z q.xs,.sl q.c q.y q.ys]
def coLP(q:TVu)(g h:Bool)(a c:Code)(x:LpS):SO:=.lp [(9,jtU q.cs),(8,.ag q.cs),(3,.bp 1 0),(7,bv g),(6,bv h),(5,.ag q.cs),(2,.sl true 0 []),(1,.bp 2 0),(0,.ag q.cs)] [10] a c x
def coS(lp:SO)(q:TVu)(don:List (List UInt8)):Sto:=match don with
 |[]=>[lp,.box 49 [.sl true 0 []],.box 25 q.cs]
 |d::r=>[lp,.box 49 [.ms 3 (r.length+1)],.box 25 q.cs,.row false 9 1 (svs (d::r))]
theorem jps(lp:SO)(q:TVu)(d:List UInt8)(r m:List (List UInt8)):coS lp q (d::r++m)=[lp,.box 49 [.ms 3 (r.length+m.length+1)],.box 25 q.cs,.row false 9 1 (svs (d::r)++svs m)]:=by
 simp only[coS,List.cons_append,List.length_append,svs,List.map_cons,List.map_append]
def coB(lp:SO)(q:TVu)(cs:List PV)(acc:List (List UInt8)):Sto:=match acc with
 |[]=>[lp,.box 49 [.sl true 0 []],.box 25 q.cs,.box 25 cs]
 |d::r=>[lp,.box 49 [.ms 5 (r.length+1)],.box 25 q.cs,.box 25 cs,.dead,.row false 9 1 (svs (d::r))]
def coV(lp:SO)(q:TVu)(cs:List PV)(d:List UInt8)(r:List (List UInt8)):Sto:=[lp,.box 49 [.ms 4 (r.length+1)],.box 25 q.cs,.box 25 cs,.row false 9 1 (svs (d::r))]
def coX(lp:SO)(q:TVu)(cs cs2:List PV)(d:List UInt8)(r:List (List UInt8)):Sto:=[lp,.box 49 [.ms 5 (r.length+1)],.box 25 q.cs,.box 25 cs,.box 25 cs2,.row false 9 1 (svs (d::r))]
def ownC(t:Tm):List (List UInt8):=if t.kind=3 then[t.name] else[]
def CoOk(lp:SO)(q:TVu):Prop:=∀(t:Tm) (v:PV),TmP t v→∀don:List (List UInt8),don.length≤1000000000→FindsY C1 [.yl 0,v] (coS lp q don) fun r st=>r=.ret [bv true]∧st=coS lp q (don++ownC t)
theorem jku{k n:Int}{s:List UInt8}{ls:List Lv}:j0K (.mk k n s ls ts)=ownC (.mk k n s ls ts)++j0p ts:=by rw[j0K];rfl
mutual
theorem j8W:∀t:Tm,(j0K t).length≤sizT t
 | .mk k n s ls ts=>by
  have:=j5k ts;rw[j0K,sizT,List.length_append];split
  ·simp only[List.length_cons,List.length_nil];omega
  ·simp only[List.length_nil];omega
theorem j5k:∀ts:List Tm,(j0p ts).length≤j0t ts
 |[]=>by simp[j0p]
 |t::r=>by
  have h1:=j8W t;have h2:=j5k r;rw[j0p,j0t,List.length_append];omega
end
theorem j5j(h:ts[j]?=some tc):j0p (ts.take (j+1))=j0p (ts.take j)++j0K tc:=by
 rw[take_snoc' h];generalize ts.take j=l
 induction l with
 |nil=>simp[j0p]
 |cons a r ih=>rw[List.cons_append,j0p,j0p,ih,List.append_assoc]
theorem jgM:∀{ts:List Tm}{t:Tm},t∈ts→sizT t≤j0t ts
 |x::r,t,h=>by
  rw[j0t];rcases List.mem_cons.1 h with rfl|h
  ·omega
  ·have:=jgM h;omega
theorem jdm(h:ts[j]?=some tc):j0t (ts.take j)+sizT tc≤j0t ts:=by
 have e:ts=ts.take j++tc::ts.drop (j+1):=by rw[←drop_at h,List.take_append_drop]
 have add:∀a b:List Tm,j0t (a++b)=j0t a+j0t b:=fun a b=>by
  induction a with
  |nil=>simp[j0t]
  |cons x r ih=>rw[List.cons_append,j0t,j0t,ih];omega
 rw[e,add,j0t];have e2:(ts.take j++tc::ts.drop (j+1)).take j=ts.take j:=by rw[←e]
 rw[e2];omega
theorem jp1(q:TVu)(gb hb:Bool)(a c:Code)(hY:CoOk (coLP q gb hb a c .ready) q)(t:Tm):∀v,TmP t v→∀p kk,allT t p kk=true→∀don:List (List UInt8),don.length+sizT t≤1000000000 →
  Finds C1 238 [v,.yl 0] (coS (coLP q gb hb a c .ready) q don) fun r st=>r=.ret [bv true]∧st=coS (coLP q gb hb a c .ready) q (don++j0K t):=by
 induction t using Tm.ind with
 |_ k nn s ls ts ih=>
 intro v hv p kk hall don hdon;have hyd:=hY _ _ hv don (by omega)
 have hsz:1+j0t ts≤sizT (.mk k nn s ls ts):=by rw[sizT];omega
 have hargs:=j5c hall;obtain⟨hk17,hlenk,hnode,-,hats⟩:=j0r hall;rw[jku];obtain⟨_,_,_,_,_,b,z,xs,c1,y,ys,⟨rfl,rfl,rfl,rfl,rfl⟩,rfl,hz,hxs,hlen,hbd,hy,hys,hlen2,hbd2,hsl⟩:=hv.open
 by_cases h3:k=3
 ·obtain rfl:=hargs.1 (by omega)
  obtain rfl:ys=[]:=by simpa using hlen2
  have e:ownC (.mk k nn s ls [])=[s]:=if_pos h3;rw[e] at hyd⊢;rw[j0p,List.append_nil];refine j00 Tryz.func238 rfl rfl rfl ?_;cases don with
  |nil=>
   repeat'(first|refine gU ?_|apply gE<;>intro h|apply gM<;>intro h|apply gK)<;>conv=>whnf
   refine j2W rfl (.cons (j0H rfl rfl) (.cons (j05 rfl rfl) (.cons (j05 rfl rfl) (.cons (j05 rfl rfl) .nil)))) rfl rfl rfl rfl (j1O hyd ?_);rintro _ _ ⟨rfl,rfl⟩;refine j1K (st':=coV (coLP q gb hb a c .ready) q [iv k,iv nn,sv s,.sl b z xs,.sl c1 y []] s []) (.cons (j0H rfl rfl) (.cons (j05 rfl rfl) (.cons (j05 rfl rfl) (.cons (j0l (j0d _)) .nil)))) rfl rfl (by kernel_rfl) ?_
   repeat'(first|refine gU ?_|apply gE<;>intro h|apply gM<;>intro h|apply gK)<;>conv=>whnf
   refine j03 (G:=Unit) (fun _=>[]) (fun _=>_) (fun _=>True) (fun _=>0) () trivial rfl rfl ?_
   rintro _ _;repeat'(first|refine gU ?_|apply gE<;>intro h|apply gM<;>intro h|apply gK)<;>conv=>whnf
   exact j1j (.inr ⟨rfl,rfl⟩) rfl (j0L (.cons (j5F rfl rfl) (.cons (j02 rfl rfl) (.cons (j02 rfl rfl) (.cons (j02 rfl rfl) (.cons (j08 (j0d _)) .nil))))) (.cons (j5F rfl rfl) (.cons (j02 rfl rfl) (.cons (j02 rfl rfl) (.cons j0i (.cons (j08 (j0d _)) .nil))))) rfl rfl rfl rfl rfl) (j2U (.cons (j0H rfl rfl) (.cons (j05 rfl rfl) (.cons (j05 rfl rfl) (.cons j2Y (.cons (j0l (j0d _)) .nil))))) rfl rfl rfl rfl) ⟨rfl,rfl⟩
  |cons d r=>
   repeat'(first|refine gU ?_|apply gE<;>intro h|apply gM<;>intro h|apply gK)<;>conv=>whnf
   refine j2W rfl (.cons (j0H rfl rfl) (.cons (j05 rfl rfl) (.cons (j05 rfl rfl) (.cons (j0l (j0d _)) (.cons (j05 rfl rfl) .nil))))) rfl rfl rfl rfl (j1O hyd ?_);rintro _ _ ⟨rfl,rfl⟩;refine j1K (st':=coS (coLP q gb hb a c .ready) q (d::r++[s])++[.box 25 [iv k,iv nn,sv s,.sl b z xs,.sl c1 y []]]) (.cons (j0H rfl rfl) (.cons (j05 rfl rfl) (.cons (j05 rfl rfl) (.cons (j0l (j0d _)) .nil)))) rfl rfl (by kernel_rfl) ?_
   repeat'(first|refine gU ?_|apply gE<;>intro h|apply gM<;>intro h|apply gK)<;>conv=>whnf
   refine j03 (G:=Unit) (fun _=>[]) (fun _=>_) (fun _=>True) (fun _=>0) () trivial rfl rfl ?_
   rintro _ _;repeat'(first|refine gU ?_|apply gE<;>intro h|apply gM<;>intro h|apply gK)<;>conv=>whnf
   exact j0Z rfl rfl (.cons (j0H rfl rfl) (.cons (j05 rfl rfl) (.cons (j05 rfl rfl) (.cons (j0l (j0d _)) .nil)))) rfl ⟨rfl,rfl⟩
 ·have e:ownC (.mk k nn s ls ts)=[]:=if_neg h3;rw[e,List.append_nil] at hyd;rw[e,List.nil_append];have hround:∀(j:Nat) (hj':j<ts.length),∃tc,ts[j]?=some tc∧tc∈ts∧∃w,ys[j]?=some w∧TmP tc w∧(∀acc:List (List UInt8),acc.length+sizT tc≤1000000000→Finds C1 238 [w,.yl 0] (coS (coLP q gb hb a c .ready) q acc) fun r st=>r=.ret [bv true]∧st=coS (coLP q gb hb a c .ready) q (acc++j0K tc)):=fun j hj'=>by
   obtain⟨tc,htc⟩:∃tc,ts[j]?=some tc:=⟨_,List.getElem?_eq_getElem hj'⟩;obtain⟨w,hw,hl⟩:=hys.at htc;have hmem:=List.mem_of_getElem? htc;exact⟨tc,htc,hmem,w,hw,hl,ih _ hmem w hl p _ (j2t hats htc)⟩
  refine j00 Tryz.func238 rfl rfl rfl ?_;cases don with
  |nil=>
   repeat'(first|refine gU ?_|apply gE<;>intro h|apply gM<;>intro h|apply gK)<;>conv=>whnf
   refine j2W rfl (.cons (j0H rfl rfl) (.cons (j05 rfl rfl) (.cons (j05 rfl rfl) (.cons (j05 rfl rfl) .nil)))) rfl rfl rfl rfl (j1O hyd ?_);rintro _ _ ⟨rfl,rfl⟩;refine j1K (st':=coB (coLP q gb hb a c .ready) q [iv k,iv nn,sv s,.sl b z xs,.sl c1 y ys] []) (.cons (j0H rfl rfl) (.cons (j05 rfl rfl) (.cons (j05 rfl rfl) .nil))) rfl rfl (by kernel_rfl) ?_
   repeat'(first|refine gU ?_|apply gE<;>intro h|apply gM<;>intro h|apply gK)<;>conv=>whnf
   refine j03 (G:=Nat) (fun j=>[(14,iv j)]) (fun j=>coB (coLP q gb hb a c .ready) q [iv k,iv nn,sv s,.sl b z xs,.sl c1 y ys] (j0p (ts.take j))) (fun j=>j≤ts.length) (fun j=>ts.length-j) 0 (by omega) rfl (by simp only[List.take_zero,j0p]) ?_
   intro j hj;dsimp only;generalize hacc:j0p (ts.take j)=acc;cases acc with
   |nil=>
    repeat'(first|refine gU ?_|apply gE<;>intro h|apply gM<;>intro h|apply gK)<;>conv=>whnf
    ·obtain⟨tc,htc,hmem,w,hw,hl,hrec0⟩:=hround j (by omega)
     have hrec:=hrec0 [] (by have:=jgM hmem;simp only[List.length_nil] at *;omega)
     have e2:j0p (ts.take (j+1))=j0K tc:=by rw[j5j htc,hacc];rfl
     rw[List.nil_append] at hrec;obtain⟨k1,n1,s1,l1,t1,b1,z1,x1,c2,y1,ys1,rfl,rfl,-⟩:=hl.open;repeat'(first|refine gU ?_|apply gE<;>intro h|apply gM<;>intro h|refine VIdx.mk _ hw ?_|refine gZ hy ?_|apply gK)<;>conv=>whnf
     refine j0W rfl rfl (.cons (j0H rfl rfl) (.cons (j05 rfl rfl) (.cons (j05 rfl rfl) (.cons (j05 rfl rfl) (.cons (j05 rfl rfl) .nil))))) rfl rfl rfl rfl (Finds.mono hrec ?_);rintro _ _ ⟨rfl,rfl⟩;cases hct:j0K (.mk k1 n1 s1 l1 t1) with
     |nil=>
      rw[hct] at e2;refine j1K (st':=coB (coLP q gb hb a c .ready) q [iv k,iv nn,sv s,.sl b z xs,.sl c1 y ys] []++[.box 25 [iv k1,iv n1,sv s1,.sl b1 z1 x1,.sl c2 y1 ys1]]) (.cons (j0H rfl rfl) (.cons (j05 rfl rfl) (.cons (j05 rfl rfl) .nil))) rfl rfl (by kernel_rfl) ?_
      repeat'(first|refine gU ?_|apply gE<;>intro h|apply gM<;>intro h|apply gK)<;>conv=>whnf
      exact VAgain.mk _ rfl _ (j0L (.cons (j5F rfl rfl) (.cons (j02 rfl rfl) (.cons (j02 rfl rfl) (.cons (j02 rfl rfl) (.cons (j02 rfl rfl) .nil))))) (.cons (j5F rfl rfl) (.cons (j02 rfl rfl) (.cons (j02 rfl rfl) (.cons (j02 rfl rfl) .nil)))) rfl rfl rfl rfl rfl) ⟨j+1,by omega,by omega,by rw[e2];rfl⟩
     |cons d1 r1=>
      rw[hct] at e2;refine j1K (st':=coX (coLP q gb hb a c .ready) q [iv k,iv nn,sv s,.sl b z xs,.sl c1 y ys] [iv k1,iv n1,sv s1,.sl b1 z1 x1,.sl c2 y1 ys1] d1 r1) (.cons (j0H rfl rfl) (.cons (j05 rfl rfl) (.cons (j05 rfl rfl) (.cons (j0l (j0d _)) .nil)))) rfl rfl (by kernel_rfl) ?_
      repeat'(first|refine gU ?_|apply gE<;>intro h|apply gM<;>intro h|apply gK)<;>conv=>whnf
      exact VAgain.mk _ rfl _ (j0L (.cons (j5F rfl rfl) (.cons (j02 rfl rfl) (.cons (j02 rfl rfl) (.cons (j02 rfl rfl) (.cons (j02 rfl rfl) (.cons (j08 (j0d _)) .nil)))))) (.cons (j5F rfl rfl) (.cons (j02 rfl rfl) (.cons (j02 rfl rfl) (.cons (j02 rfl rfl) (.cons j0i (.cons (j08 (j0d _)) .nil)))))) rfl rfl rfl rfl rfl) ⟨j+1,by omega,by omega,by rw[e2];rfl⟩
    ·have e2:j0p ts=[]:=by rw[←hacc,List.take_of_length_le (by omega)]
     rw[e2];exact⟨rfl,rfl⟩
   |cons d0 r0=>
    repeat'(first|refine gU ?_|apply gE<;>intro h|apply gM<;>intro h|apply gK)<;>conv=>whnf
    ·obtain⟨tc,htc,hmem,w,hw,hl,hrec0⟩:=hround j (by omega)
     have hs1:=jdm htc;have hs2:=j5k (ts.take j);rw[hacc] at hs2;have hrec:=hrec0 (d0::r0) (by simp only[List.length_nil] at hdon;omega)
     have e2:j0p (ts.take (j+1))=d0::r0++j0K tc:=by rw[j5j htc,hacc]
     obtain⟨k1,n1,s1,l1,t1,b1,z1,x1,c2,y1,ys1,rfl,rfl,-⟩:=hl.open;repeat'(first|refine gU ?_|apply gE<;>intro h|apply gM<;>intro h|refine VIdx.mk _ hw ?_|refine gZ hy ?_|apply gK)<;>conv=>whnf
     refine j0W rfl rfl (.cons (j0H rfl rfl) (.cons (j05 rfl rfl) (.cons (j05 rfl rfl) (.cons (j05 rfl rfl) (.cons j2Y (.cons (j0l (j0d _)) (.cons (j05 rfl rfl) .nil))))))) rfl rfl rfl rfl (Finds.mono hrec ?_);rintro _ _ ⟨rfl,rfl⟩;refine j1K (st':=coB (coLP q gb hb a c .ready) q [iv k,iv nn,sv s,.sl b z xs,.sl c1 y ys] (d0::r0++j0K (.mk k1 n1 s1 l1 t1))++[.box 25 [iv k1,iv n1,sv s1,.sl b1 z1 x1,.sl c2 y1 ys1]]) (.cons (j0H rfl rfl) (.cons (j05 rfl rfl) (.cons (j05 rfl rfl) (.cons (j0l (j0d _)) .nil)))) rfl rfl (by kernel_rfl) ?_
     repeat'(first|refine gU ?_|apply gE<;>intro h|apply gM<;>intro h|apply gK)<;>conv=>whnf
     exact VAgain.mk _ rfl _ (j0L (.cons (j5F rfl rfl) (.cons (j02 rfl rfl) (.cons (j02 rfl rfl) (.cons (j02 rfl rfl) (.cons j0i (.cons (j08 (j0d _)) (.cons (j02 rfl rfl) .nil))))))) (.cons (j5F rfl rfl) (.cons (j02 rfl rfl) (.cons (j02 rfl rfl) (.cons (j02 rfl rfl) (.cons j0i (.cons (j08 (j0d _)) .nil)))))) rfl rfl rfl rfl rfl) ⟨j+1,by omega,by omega,by rw[e2];rfl⟩
    ·have e2:j0p ts=d0::r0:=by rw[←hacc,List.take_of_length_le (by omega)]
     rw[e2];exact j1j (.inr ⟨rfl,rfl⟩) rfl (j0L (.cons (j5F rfl rfl) (.cons (j02 rfl rfl) (.cons (j02 rfl rfl) (.cons (j02 rfl rfl) (.cons j0i (.cons (j08 (j0d _)) .nil)))))) (.cons (j5F rfl rfl) (.cons (j02 rfl rfl) (.cons (j02 rfl rfl) (.cons j0i (.cons j0i (.cons (j08 (j0d _)) .nil)))))) rfl rfl rfl rfl rfl) (j2U (.cons (j0H rfl rfl) (.cons (j05 rfl rfl) (.cons (j05 rfl rfl) (.cons j2Y (.cons j2Y (.cons (j0l (j0d _)) .nil)))))) rfl rfl rfl rfl) ⟨rfl,rfl⟩
  |cons d r=>
   repeat'(first|refine gU ?_|apply gE<;>intro h|apply gM<;>intro h|apply gK)<;>conv=>whnf
   refine j2W rfl (.cons (j0H rfl rfl) (.cons (j05 rfl rfl) (.cons (j05 rfl rfl) (.cons (j0l (j0d _)) (.cons (j05 rfl rfl) .nil))))) rfl rfl rfl rfl (j1O hyd ?_);rintro _ _ ⟨rfl,rfl⟩;refine j1K (st':=coS (coLP q gb hb a c .ready) q (d::r)++[.box 25 [iv k,iv nn,sv s,.sl b z xs,.sl c1 y ys]]) (.cons (j0H rfl rfl) (.cons (j05 rfl rfl) (.cons (j05 rfl rfl) (.cons (j0l (j0d _)) .nil)))) rfl rfl (by kernel_rfl) ?_
   repeat'(first|refine gU ?_|apply gE<;>intro h|apply gM<;>intro h|apply gK)<;>conv=>whnf
   refine j03 (G:=Nat) (fun j=>[(14,iv j)]) (fun j=>coS (coLP q gb hb a c .ready) q (d::r++j0p (ts.take j))++[.box 25 [iv k,iv nn,sv s,.sl b z xs,.sl c1 y ys]]) (fun j=>j≤ts.length) (fun j=>ts.length-j) 0 (by omega) rfl (by simp only[List.take_zero,j0p,List.append_nil]) ?_
   intro j hj;dsimp only;generalize hacc:j0p (ts.take j)=acc;repeat'(first|refine gU ?_|apply gE<;>intro h|apply gM<;>intro h|apply gK)<;>conv=>whnf
   ·obtain⟨tc,htc,hmem,w,hw,hl,hrec0⟩:=hround j (by omega)
    have hs1:=jdm htc;have hs2:=j5k (ts.take j);rw[hacc] at hs2;have hrec:=hrec0 (d::r++acc) (by simp only[List.length_append] at *;omega)
    have e2:d::r++j0p (ts.take (j+1))=d::r++acc++j0K tc:=by rw[j5j htc,hacc,List.append_assoc]
    obtain⟨k1,n1,s1,l1,t1,b1,z1,x1,c2,y1,ys1,rfl,rfl,-⟩:=hl.open;repeat'(first|refine gU ?_|apply gE<;>intro h|apply gM<;>intro h|refine VIdx.mk _ hw ?_|refine gZ hy ?_|apply gK)<;>conv=>whnf
    refine j0W rfl rfl (.cons (j0H rfl rfl) (.cons (j05 rfl rfl) (.cons (j05 rfl rfl) (.cons (j0l (j0d _)) (.cons (j05 rfl rfl) (.cons (j05 rfl rfl) .nil)))))) rfl rfl rfl rfl (Finds.mono hrec ?_);rintro _ _ ⟨rfl,rfl⟩;refine j1K (st':=coS (coLP q gb hb a c .ready) q (d::r++acc++j0K (.mk k1 n1 s1 l1 t1))++[.box 25 [iv k,iv nn,sv s,.sl b z xs,.sl c1 y ys],.box 25 [iv k1,iv n1,sv s1,.sl b1 z1 x1,.sl c2 y1 ys1]]) (.cons (j0H rfl rfl) (.cons (j05 rfl rfl) (.cons (j05 rfl rfl) (.cons (j0l (j0d _)) .nil)))) rfl rfl (by kernel_rfl) ?_
    repeat'(first|refine gU ?_|apply gE<;>intro h|apply gM<;>intro h|apply gK)<;>conv=>whnf
    exact VAgain.mk _ rfl _ (j0L (.cons (j5F rfl rfl) (.cons (j02 rfl rfl) (.cons (j02 rfl rfl) (.cons (j08 (j0d _)) (.cons (j02 rfl rfl) (.cons (j02 rfl rfl) .nil)))))) (.cons (j5F rfl rfl) (.cons (j02 rfl rfl) (.cons (j02 rfl rfl) (.cons (j08 (j0d _)) (.cons (j02 rfl rfl) .nil))))) rfl rfl rfl rfl rfl) ⟨j+1,by omega,by omega,by rw[e2];rfl⟩
   ·have e2:j0p ts=acc:=by rw[←hacc,List.take_of_length_le (by omega)]
    rw[e2];exact j0Z rfl rfl (.cons (j0H rfl rfl) (.cons (j05 rfl rfl) (.cons (j05 rfl rfl) (.cons (j0l (j0d _)) .nil)))) rfl ⟨rfl,rfl⟩
theorem jp6(q:TVu)(gb hb:Bool)(a c:Code)(hY:CoOk (coLP q gb hb a c .ready) q)(t:Tm)(hv:TmP t (.ag q.cs))(p kk:Int)(hall:allT t p kk=true)(hs:sizT t≤1000000000):
  Finds C1 237 [.yl 0,.cp q.cs] (coS (coLP q gb hb a c .ready) q []) fun r st=>r=.ret []∧st=coS (coLP q gb hb a c .ready) q (j0K t):=by
 have hvis:=jp1 q gb hb a c hY t _ hv p kk hall [] (by simpa using hs)
 refine j00 Tryz.func237 rfl rfl rfl ?_;repeat'(first|refine gU ?_|apply gE<;>intro h|apply gM<;>intro h|apply gK)<;>conv=>whnf
 refine j0W rfl rfl (.cons (j0H rfl rfl) (.cons (j05 rfl rfl) (.cons (j05 rfl rfl) .nil))) rfl rfl rfl rfl (Finds.mono hvis ?_);rintro _ _ ⟨rfl,rfl⟩;rw[List.nil_append];cases j0K t with
 |nil=>
  refine j1K (st':=coS (coLP q gb hb a c .ready) q []) (.cons (j0H rfl rfl) (.cons (j05 rfl rfl) (.cons (j05 rfl rfl) .nil))) rfl rfl (by kernel_rfl) ?_
  repeat'(first|refine gU ?_|apply gE<;>intro h|apply gM<;>intro h|apply gK)<;>conv=>whnf
  exact⟨rfl,rfl⟩
 |cons d r=>
  refine j1K (st':=coS (coLP q gb hb a c .ready) q (d::r)) (.cons (j0H rfl rfl) (.cons (j05 rfl rfl) (.cons (j05 rfl rfl) (.cons (j0l (j0d _)) .nil)))) rfl rfl (by kernel_rfl) ?_
  repeat'(first|refine gU ?_|apply gE<;>intro h|apply gM<;>intro h|apply gK)<;>conv=>whnf
  exact j1j (.inr ⟨rfl,rfl⟩) rfl (j0L (.cons (j5F rfl rfl) (.cons (j02 rfl rfl) (.cons (j02 rfl rfl) (.cons (j08 (j0d _)) .nil)))) (.cons (j5F rfl rfl) (.cons (j02 rfl rfl) (.cons (j02 rfl rfl) (.cons (j08 (j0d _)) .nil)))) rfl rfl rfl rfl rfl) (j1a rfl) ⟨rfl,rfl⟩
def j4W(t:Tm):List (List UInt8):=if anyT t=true then j6q (j0K t) else[]
theorem jk7(t:Tm)(v:PV)(h:TmP t v):Pf C1 116 [v] [jpz (j4W t)]:=by
 have hr:=j0I t v h 4 1125899906842624;have hw:=jqX t v h;have hoff:¬anyT t=true→j4W t=[]:=fun e=>if_neg e
 have hon:anyT t=true→j4W t=j6q (j0K t):=fun e=>if_pos e
 have hlen:anyT t=true→(j0K t).length≤2000:=fun e=>Nat.le_trans (j8W t) (jdP e)
 have h0:=h;obtain⟨k,n,s,ls,ts,b,z,xs,c,y,ys,rfl,rfl,-⟩:=h.open;refine j00 Tryz.func116 rfl rfl rfl ?_;repeat'(first|refine gU ?_|apply gE<;>intro h|apply gM<;>intro h|refine gX hr ?_|refine gX hw ?_|apply gK)<;>conv=>whnf
 ·have hany:anyT (.mk k n s ls ts)=true:=h;refine j0W (st0:=coS (coLP ⟨k,n,s,b,z,xs,c,y,ys⟩ (!j0w (.mk k n s ls ts) 4 1125899906842624) (j0w (.mk k n s ls ts) 4 1125899906842624) _ _ .ready) ⟨k,n,s,b,z,xs,c,y,ys⟩ []) (args0:=[.yl 0,.cp [iv k,iv n,sv s,.sl b z xs,.sl c y ys]]) rfl rfl (.cons (j05 rfl rfl) (.cons (j05 rfl rfl) (.cons (j0H rfl rfl) .nil))) rfl rfl rfl rfl (Finds.mono (jp6 ⟨k,n,s,b,z,xs,c,y,ys⟩ _ _ _ _ ?_ (.mk k n s ls ts) h0 4 _ (j2u hany).2 (by have:=jdP hany;omega)) ?_)
  ·intro t1 v1 ht1 don hd;obtain⟨k1,n1,s1,l1,t1,b1,z1,x1,c1,y1,ys1,rfl,rfl,-⟩:=ht1.open
   by_cases h3:k1=3
   ·have e:ownC (.mk k1 n1 s1 l1 t1)=[s1]:=if_pos h3;rw[e];cases don with
    |nil=>
     refine j1U rfl rfl ?_;repeat'(first|refine gU ?_|apply gE<;>intro h|apply gM<;>intro h|apply gK)<;>conv=>whnf
     exact⟨rfl,by kernel_rfl⟩
    |cons d r=>
     have hln:(svs (d::r)).length=r.length+1:=by simp
     have hp8:(svs (d::r)++[sv s1]).all (pur 8)=true:=by
      rw[show svs (d::r)++[sv s1]=svs (d::r++[s1]) by simp[svs]]
      exact j0d _
     simp only[List.length_cons] at hd;refine j1U rfl rfl ?_;repeat'(first|refine gU ?_|apply gE<;>intro h|apply gM<;>intro h|refine VOk.mk (j1h (w:=16) (r:=140737488355328) hln rfl rfl rfl rfl (by simp only[List.length_cons,List.length_nil];omega) (by simp only[List.length_cons,List.length_nil];omega)) ?_|apply gK)<;>conv=>whnf
     rw[jps];exact⟨rfl,j5J rfl (.cons (j0H rfl rfl) (.cons (j05 rfl rfl) (.cons (j05 rfl rfl) (.cons (j0l hp8) .nil)))) rfl⟩
   ·have e:ownC (.mk k1 n1 s1 l1 t1)=[]:=if_neg h3;rw[e,List.append_nil];cases don with
    |nil=>
     refine j1U rfl rfl ?_;repeat'(first|refine gU ?_|apply gE<;>intro h|apply gM<;>intro h|apply gK)<;>conv=>whnf
     exact⟨rfl,by kernel_rfl⟩
    |cons d r=>
     refine j1U rfl rfl ?_;repeat'(first|refine gU ?_|apply gE<;>intro h|apply gM<;>intro h|apply gK)<;>conv=>whnf
     exact⟨rfl,j5J rfl (.cons (j0H rfl rfl) (.cons (j05 rfl rfl) (.cons (j05 rfl rfl) (.cons (j0l (j0d _)) .nil)))) rfl⟩
  ·rintro _ _ ⟨rfl,rfl⟩;rw[hon hany];have hl0:=hlen hany;have hpu:∀l:List (List UInt8),[jpz l].all (pur 8)=true:=fun l=>by cases l<;>rfl
   cases hct:j0K (.mk k n s ls ts) with
   |nil=>
    have hso:=j9R true 0 [] (.inr rfl) (by simp)
    refine j1v (.cons (j0H rfl rfl) (.cons (j05 rfl rfl) (.cons (j05 rfl rfl) .nil))) rfl ?_;repeat'(first|refine gU ?_|apply gE<;>intro h|apply gM<;>intro h|refine gX hso ?_|apply gK)<;>conv=>whnf
    rfl
   |cons d r=>
    rw[hct] at hl0;have hso:=j9R false 1 (d::r) (.inl rfl) (by omega)
    refine j1v (.cons (j0H rfl rfl) (.cons (j05 rfl rfl) (.cons (j05 rfl rfl) (.cons (j0l (j0d _)) .nil)))) rfl ?_;repeat'(first|refine gU ?_|apply gE<;>intro h|apply gM<;>intro h|apply gK)<;>conv=>whnf
    refine jp0 rfl rfl (by simp) (j8B _) hso (hpu _) ?_
    repeat'(first|refine gU ?_|apply gE<;>intro h|apply gM<;>intro h|apply gK)<;>conv=>whnf
    exact vret_pf (hpu _) rfl
 ·rw[hoff (fun e=>by rw[show j0w _ 4 1125899906842624=anyT _ from rfl,e] at h;cases h)]
  rfl
open Go Go.Am Go.Gw
theorem jkH(l:List (List UInt8)):∃b z,jpz l=.sl b z (svs l)∧(z=1∨l=[]):=by
 cases l with
 |nil=>exact⟨_,_,rfl,.inr rfl⟩
 |cons d r=>exact⟨_,_,rfl,.inl rfl⟩
theorem jh8(t:Tm):(j4W t).length≤2000:=by
 unfold j4W;split
 ·rename_i h;unfold j6q;refine Nat.le_trans (j9K _) ?_;rw[j3m];exact Nat.le_trans (j8W t) (jdP h)
 ·simp
def LoP(x:List UInt8×Tm)(v:PV):Prop:=∃cs,v=.ag (sv x.1::cs)∧TmP x.2 (.ag cs)∧x.1.length≤140737488355328
def LosP:List (List UInt8×Tm)→List PV→Prop
 |[],xs=>xs=[]
 |l::r,xs=>∃v xs',xs=v::xs'∧LoP l v∧LosP r xs'
theorem LosP.len:∀{ls:List (List UInt8×Tm)}{xs:List PV},LosP ls xs→xs.length=ls.length
 |[],xs,h=>by simp only[LosP] at h;simp[h]
 |l::r,xs,h=>by
  simp only[LosP] at h;obtain⟨v,xs',rfl,_,h⟩:=h;simp[LosP.len h]
theorem LosP.at:∀{ls:List (List UInt8×Tm)}{xs:List PV}{i:Nat}{l:List UInt8×Tm},LosP ls xs→ls[i]?=some l→∃v,xs[i]?=some v∧LoP l v
 |[],xs,i,l,_,h=>by simp at h
 |x::r,xs,i,l,h,e=>by
  simp only[LosP] at h;obtain⟨v,xs',rfl,h1,h2⟩:=h;cases i with
  |zero=>simp at e;subst e;exact⟨v,rfl,h1⟩
  |succ i=>simpa using LosP.at h2 (by simpa using e)
theorem LoP.open{x:List UInt8×Tm}{v:PV}(h:LoP x v):∃s k n s1 b z xs c y ys t,x=(s,t)∧v=.ag [sv s,iv k,iv n,sv s1,.sl b z xs,.sl c y ys]∧TmP t (.ag [iv k,iv n,sv s1,.sl b z xs,.sl c y ys])∧s.length≤140737488355328:=by
 obtain⟨s,t⟩:=x;obtain⟨cs,rfl,h1,h2⟩:=h;obtain⟨k,n,s0,ls,ts,b,z,xs,c,y,ys,-,e,-⟩:=h1.open;cases e;exact⟨s,_,_,_,_,_,_,_,_,_,t,rfl,rfl,h1,h2⟩
end Go.Proofs.YtbnodhcijeaceaaGreatDoor
