/- A family's form (posit.Shape), for any declaration. -/
import Derived.Test.YtnfbeplfnblgjaaGreatDoorZVe
set_option linter.all false
set_option maxRecDepth 100000
namespace Go.Proofs.YtnfbeplfnblgjaaGreatDoor
open Go Go.Am Go.Gw
def recF(nm:List UInt8):List UInt8:=if(j1t nm&&j1t (nm++[46,114,101,99]))=true then nm++[46,114,101,99] else[]
def jc8(d:Dc):List (List UInt8):=if d.k=5 then d.nm::(d.cs.map (·.1)++[recF d.nm]) else[d.nm]
def jeL:PV:=.fn 121 [] []
def nmS(c:SO)(nm:List UInt8)(cs:List (List UInt8×Tm)):Nat→Sto
 |0=>[c]
 |i+1=>[c,.dead,.row false 9 1 (sv nm::svs ((cs.take (i+1)).map (·.1)))]
def nmV(nm:List UInt8):Nat→PV
 |0=>.sl true 1 [sv nm]
 |i+1=>.ms 2 (i+2)
open Go Go.Am Go.Gw
inductive MkP (nm:List UInt8) (p fx idx:Int) (self:Tm):PV→Prop where
 |mk (k:Int) (a1 a2 a3 a4 a5 v1 v2 v3 v4 v5 cs:PV) (j1 j2:Int) (js:List UInt8) (j3:Bool) (j4:Nat) (j5:List PV) (j6:Bool) (j7:Nat) (j8:List PV) (h:TmP self (.ag [iv j1,iv j2,sv js,.sl j3 j4 j5,.sl j6 j7 j8])) :
  MkP nm p fx idx self (.cp [iv k,iv p,sv nm,a1,a2,a3,a4,a5,v1,v2,v3,v4,v5,iv fx,cs,iv j1,iv j2,sv js,.sl j3 j4 j5,.sl j6 j7 j8,iv idx])
def stF(nm:List UInt8)(t:Tm):Bool:=decide (nm∈j0s t)
def jeC(M:PV):PV:=.fn 160 [M] []
section
variable{nm:List UInt8}{p fx idx:Int}{self:Tm}{M:PV}
def jdC(deep:Int):List Tm→Int→Bool
 |[],_=>true
 |t::r,i=>(decide (t.kind=1)&&decide (t.num=deep-1-i))&&jdC deep r (i+1)
def endF(nm:List UInt8)(self:Tm)(fx idx deep:Int)(t:Tm):List Tm×Bool:=
 if(eqTm (spF t).1 self&&(decide (((j9z t).length:Int)=fx+idx)&&jdC deep ((j9z t).take fx.toNat) 0))=true then((j9z t).drop fx.toNat,!((j9z t).drop fx.toNat).any (stF nm)) else([],false)
end
open Go Go.Am Go.Gw
def jd5(nm:List UInt8)(self:Tm)(fx idx deep:Int):Tm→Int→Int×Bool
 | .mk k n s ls ts,c=>
  let fin:=if(endF nm self fx idx (deep+c) (.mk k n s ls ts)).2=true then(c,true) else(0,false)
  match ts with
  |[a,b]=>if k=6 then(if stF nm a=true then(0,false) else jd5 nm self fx idx deep b (c+1)) else fin
  |_=>fin
def jd4(nm:List UInt8)(self:Tm)(fx idx deep:Int)(t:Tm):Int×Bool:=if stF nm t=true then jd5 nm self fx idx deep t 0 else(-1,true)
section
variable{nm:List UInt8}{p fx idx:Int}{self:Tm}{M:PV}
end
end Go.Proofs.YtnfbeplfnblgjaaGreatDoor
namespace Go.Proofs.YtnfbeplfnblgjaaGreatDoor
open Go Go.Am Go.Gw
def piF:Tm→List Tm×Tm
 | .mk k n s ls ts=>match ts with
  |[a,b]=>if k=6 then(a::(piF b).1,(piF b).2) else([],.mk k n s ls [a,b])
  |ts=>([],.mk k n s ls ts)
def Tm.levels:Tm→List Lv
 | .mk _ _ _ ls _=>ls
def parL(p:Nat):List Lv:=(List.range p).map fun(i:Nat)=>.mk 2 (i:Int) []
def jdJ(d:Dc):Tm:=.mk 3 0 d.nm (parL d.p.toNat) []
def idxD(d:Dc):Int:=((piF d.ty).1.length:Int)-d.fx
def lvD(d:Dc):Lv:=(Tm.levels (piF d.ty).2).headD (.mk 0 0 [])
def j7S(d:Dc):Int:=
 if ¬(jcF d=true∧d.k=5) then 10
 else if 4≤d.p∨16<(piF d.ty).1.length then 15
 else if j2S [] (jc8 d)=false then 14
 else if((piF d.ty).1.length:Int)<d.fx∨¬(piF d.ty).2.kind=2 then 19
 else 0
def je5:PV:=.ag [iv 0,iv 0,iv 0,.sl true 0 [],.sl true 0 []]
def famV(d:Dc):PV:=.ag (iv (idxD d)::((encL (lvD d)).cells++[.sl true 0 []]))
def jeR(d:Dc)(M:PV):List PV:=if j7S d=0 then[M,famV d,iv 0] else[.sc (.pointer none),je5,iv (j7S d)]
def paS(c x:SO)(nm:List UInt8):Nat→Sto
 |0=>[c,.box 44 [iv 0,iv 0,iv 0,.sl true 0 [],.sl true 0 []],x,.box 25 [iv 3,iv 0,sv nm,.sl true 0 [],.sl true 0 []]]
 |i+1=>[c,.box 44 [iv 0,iv 0,iv 0,.sl true 0 [],.sl true 0 []],x,.box 25 [iv 3,iv 0,sv nm,.ms 4 (i+1),.sl true 0 []],.row false 41 3 ((parL (i+1)).map encL)]
open Go Go.Am Go.Gw
structure Co where
 fs:List Tm
 tg:List Tm
 ar:List Int
def ints(l:List Int):List PV:=l.map fun n=>iv n
def CoP(c:Co)(v:PV):Prop:=∃b z xs b' z' xs' b'' z'',v=.ag [.sl b z xs,.sl b' z' xs',.sl b'' z'' (ints c.ar)]∧(z=5∨xs=[])∧TmsP c.fs xs∧(z'=5∨xs'=[])∧TmsP c.tg xs'∧(z''=1∨c.ar=[])
def jd3(nm:List UInt8)(self:Tm)(fx idx:Int):List Tm→Int→Option (List Int)
 |[],_=>some []
 |t::r,deep=>if(jd4 nm self fx idx deep t).2=true then(jd3 nm self fx idx r (deep+1)).map fun l=>(jd4 nm self fx idx deep t).1::l else none
def jcv(nm:List UInt8)(self:Tm)(fx idx:Int)(t:Tm):Int×Co:=
 let P:=piF t
 let e:=endF nm self fx idx P.1.length P.2
 if(P.1.length:Int)<fx∨e.2=false then(18,⟨[],[],[]⟩)
 else if 16<(P.1.drop fx.toNat).length then(15,⟨[],[],[]⟩)
 else match jd3 nm self fx idx (P.1.drop fx.toNat) fx with
  |none=>(21,⟨[],[],[]⟩)
  |some l=>(0,⟨P.1.drop fx.toNat,e.1,l⟩)
mutual
theorem jcx:∀t:Tm,depT t≤sizT t
 | .mk _ _ _ ls ts=>by
  have:=j7I ts;simp only[depT,sizT];omega
theorem j7I:∀ts:List Tm,j2Y ts≤j0j ts
 |[]=>by simp[j2Y]
 |t::r=>by
  have h1:=jcx t;have h2:=j7I r;simp only[j2Y,j0j];omega
end
def ctS(x y z:SO)(f g:PV):List Int→Sto
 |[]=>[x,y,z,.box 56 [f,g,.sl true 0 []]]
 |a::r=>[x,y,z,.box 56 [f,g,.ms 5 (r.length+1)],.dead,.row false 3 1 (ints (a::r))]
section
variable{nm:List UInt8}{p fx idx:Int}{self:Tm}{M:PV}
end
end Go.Proofs.YtnfbeplfnblgjaaGreatDoor
namespace Go.Proofs.YtnfbeplfnblgjaaGreatDoor
open Go Go.Am Go.Gw
theorem j5f{C:Cfg}(hC:∀n,CallOk C.P (ev C n).call){f:FuncId}{F:List PV→Sto→Option (AEnd×Sto)}(h:∀args st r st',F args st=some (r,st')→Finds C f args st fun q s=>q=r∧s=st'):DoesOk (CallD C.P f) F:=does_of (C':=C) (C:=C) rfl hC fun args st r st' hx=>by
 obtain⟨_,_,⟨rfl,rfl⟩,N,hN⟩:=h _ _ _ _ hx;exact⟨N,hN N (Nat.le_refl N)⟩
def j6Q(ms:List PV):List PV→Option (List (List (List UInt8×Tm)))
 |[]=>some []
 | .sl _ z ys::r=>match mapO asLo ys,j6Q ms r,Nat.beq z 6||ys.isEmpty with
  |some l,some ls,true=>some (l::ls)
  |_,_,_=>none
 | .ms i n::r=>match mapO asLo ms,j6Q ms r,Nat.beq i 1&&Nat.beq n ms.length with
  |some l,some ls,true=>some (l::ls)
  |_,_,_=>none
 |_::_=>none
theorem j4U{ms:List PV}:∀{xs:List PV}{ls:List (List (List UInt8×Tm))},j6Q ms xs=some ls→LsmP ms ls xs
 |[],ls,h=>by
  simp only[j6Q] at h;cases h;simp only[LsmP]
 |x::r,ls,h=>by
  unfold j6Q at h;split at h
  ·rename_i heq;cases heq
  ·rename_i b z ys r' heq;cases heq;split at h
   ·rename_i l ls' h1 h2 h3;cases h;simp only[LsmP];exact⟨_,_,rfl,.inl ⟨_,_,_,rfl,emp h3,j2L h1⟩,j4U h2⟩
   ·cases h
  ·rename_i i n r' heq;cases heq;split at h
   ·rename_i l ls' h1 h2 h3;cases h;rw[Bool.and_eq_true] at h3;obtain⟨h3,h4⟩:=h3;obtain rfl:=Nat.eq_of_beq_eq_true h3;obtain rfl:=Nat.eq_of_beq_eq_true h4;simp only[LsmP];exact⟨_,_,rfl,.inr ⟨rfl,j2L h1⟩,j4U h2⟩
   ·cases h
  ·cases h
def j7a(args:List PV)(st:Sto):Option (AEnd×Sto):=match args,st with
 |[.ms 0 k],[.row p T z xs,.row q U y ms]=>match j6Q ms xs,(Nat.beq T 93&&Nat.beq z 1&&(Nat.beq U 94&&Nat.beq y 6))&&(Nat.beq k xs.length&&ms.all (pur 8)&&(Nat.blt 0 ms.length&&Nat.ble xs.length 1000000)&&(Nat.ble (catM ms xs).length 1000000&&Nat.blt 0 (catM ms xs).length)) with
  |some _,true=>some (.ret [catW ms xs],[.row p T z xs,.row q U y ms])
  |_,_=>none
 |_,_=>none
theorem j8I:DoesOk (CallD C1.P 148) j7a:=j5f (C:=C9) (fun n=>(j6V n).call) fun args st r st' h=>by
 unfold j7a at h;split at h
 ·rename_i k p T z xs q U y ms;split at h
  ·rename_i ls hl hb;cases h;simp only[Bool.and_eq_true] at hb;obtain⟨⟨⟨h1,h2⟩,h3,h4⟩,⟨⟨h5,h6⟩,h7,h8⟩,h9,h10⟩:=hb;obtain rfl:=Nat.eq_of_beq_eq_true h1;obtain rfl:=Nat.eq_of_beq_eq_true h2;obtain rfl:=Nat.eq_of_beq_eq_true h3;obtain rfl:=Nat.eq_of_beq_eq_true h4;obtain rfl:=Nat.eq_of_beq_eq_true h5;exact j2K p q ls xs ms (j4U hl) h6 (Nat.le_of_ble_eq_true h7) (Nat.le_of_ble_eq_true h8) (Nat.le_of_ble_eq_true h9) (Nat.le_of_ble_eq_true h10)
  ·cases h
 ·cases h
def j2U(kind:Int):List (List UInt8×Tm)→Tm→Tm
 |[],out=>out
 |x::r,out=>j2U kind r (.mk kind 0 [] [] [x.2,plF (abF x.1) out 0])
def sizL:List (List UInt8×Tm)→Nat
 |[]=>0
 |x::r=>sizT x.2+1+sizL r
def jaQ:List (List UInt8×Tm)→Bool
 |[]=>true
 |x::r=>allT x.2 4 0&&jaQ r
theorem j9p{kind:Int}(hk:kind=6∨kind=5){a b:Tm}{p kk:Int}(ha:allT a p kk=true)(hb:allT b p (kk+1)=true):allT (.mk kind 0 [] [] [a,b]) p kk=true:=by
 have h1:j1O kind=2:=by rcases hk with rfl|rfl<;>rfl
 have h2:j06 kind=1:=by rcases hk with rfl|rfl<;>rfl
 have h3:¬kind=1∧¬kind=3:=by omega
 have e1:j08 1 0 kk=kk:=by simp[j08]
 have e2:j08 1 (0+1) kk=kk+1:=by simp[j08]
 refine j0J (by omega) (by rw[h1];rfl) ?_ ?_ ?_
 ·rcases hk with rfl|rfl<;>simp[j1A,j1g]
 ·simp[j0F]
 ·simp only[j0g,h2,e1,e2,ha,hb,Bool.and_self]
theorem j3h{t:Tm}(h:allT t 4 0=true)(hs:sizT t≤2000):anyT t=true:=jbb.2 ⟨hs,j2R t 4 0 _ h (by omega)⟩
theorem j4Z{kind:Int}(hk:kind=6∨kind=5):∀(l:List (List UInt8×Tm)) (out:Tm),allT out 4 0=true→jaQ l=true→sizT out+sizL l≤2000→j0P kind l out=some (j2U kind l out)∧anyT (j2U kind l out)=true
 |[],out,h,hl,hs=>⟨rfl,j3h h (by simpa[sizL,j2U] using hs)⟩
 |x::r,out,h,hl,hs=>by
  simp only[jaQ,Bool.and_eq_true] at hl;simp only[sizL] at hs;have h1:=jb4 x.1 (j3h h (by omega))
  have h2:=j9o (c:=x.1) out 4 0 0 h (by omega) (by omega)
  have h3:sizT (plF (abF x.1) out 0)≤sizT out:=jcP (j9m x.1) (by omega)
  have h4:=j9p hk hl.1 (by simpa using h2)
  have h5:sizT (.mk kind 0 [] [] [x.2,plF (abF x.1) out 0])≤1+sizT x.2+sizT out:=by
   simp only[sizT,j0j,j0c];omega
  have ih:=j4Z hk r _ h4 hl.2 (by omega)
  rw[j0P,h1];simp only[j2U];rw[if_pos (j3h hl.1 (by omega))]
  exact ih
def j6Y(args:List PV)(st:Sto):Option (AEnd×Sto):=match args,st with
 |[.sc (.int .i64 kind),v,.sl b z xs],[]=>match asTm v,mapO asLo xs,Nat.ble xs.length 1000000&&(Nat.beq z 6||xs.isEmpty) with
  |some t,some l,true=>match(decide (kind=6)||decide (kind=5))&&(allT t 4 0&&(jaQ l.reverse&&Nat.ble (sizT t+sizL l.reverse) 2000)) with
   |true=>match pur 8 (encT (j2U kind l.reverse t)) with
    |true=>some (.ret [encT (j2U kind l.reverse t),bv true],[])
    |false=>none
   |false=>none
  |_,_,_=>none
 |_,_=>none
theorem j9X:DoesOk (CallD C1.P 149) j6Y:=j0H (fun n=>(j3B n).call) fun args st r st' h=>by
 unfold j6Y at h;split at h
 ·rename_i kind v b z xs;split at h
  ·rename_i t l ht hl hb;split at h
   ·rename_i hq;split at h
    ·rename_i hp;cases h;simp only[Bool.and_eq_true,Bool.or_eq_true,decide_eq_true_eq] at hq hb;obtain⟨q1,q2,q3,q4⟩:=hq;have hlo:=j2L hl;have hlen:=hlo.len;have h1:=Nat.le_of_ble_eq_true hb.1;have hz:z=6∨xs=[]:=emp (by rw[Bool.or_eq_true];exact hb.2)
     have hsz:=Nat.le_of_ble_eq_true q4;obtain⟨e1,e2⟩:=j4Z q1 l.reverse t q2 q3 hsz;have e3:j0u kind t l=some (j2U kind l.reverse t):=by
      unfold j0u;rw[if_pos ⟨by rcases q1 with rfl|rfl<;>rfl,j3h q2 (by omega)⟩,e1]
      dsimp only;rw[if_pos e2]
     refine⟨rfl,rfl,_,rfl,by simp only[List.all_cons,List.all_nil,Bool.and_true,hp];rfl,?_⟩
     have:=j1B kind t v (j0W ht) l b z xs hz hlo (by omega)
     rw[e3] at this;exact this
    ·cases h
   ·cases h
  ·cases h
 ·cases h
def j9O(args:List PV)(st:Sto):Option (AEnd×Sto):=match args,st with
 |[.sc (.string u),.sl _ _ []],[]=>some (.ret [.ag [iv 3,iv 0,.sc (.string u),.sl true 0 [],.sl true 0 []]],[])
 |_,_=>none
noncomputable def jc2(args:List PV)(st:Sto):Option (AEnd×Sto):=(ev C1 60).call 24 args st
theorem jbo:DoesOk (CallD C1.P 24) (orN j9O jc2):=j2C (j0H (C:=C1) (fun n=>(j3B n).call) fun args st r st' h=>by
 unfold j9O at h;split at h
 ·rename_i u b z;cases h;refine⟨rfl,rfl,_,rfl,rfl,?_⟩;have:=j3G u.data.toList b z;rw[show encT (.mk 3 0 u.data.toList [] [])=.ag [iv 3,iv 0,sv u.data.toList,.sl true 0 [],.sl true 0 []] from j3S u.data.toList,show sv u.data.toList=.sc (.string u) by rw[j3A u]] at this
  exact this
 ·cases h) (does_of (C':=C1) (C:=C1) rfl (fun n=>(j3B n).call) fun args st r st' h=>⟨60,h⟩)
def j5I(args:List PV)(st:Sto):Option (AEnd×Sto):=match args,st with
 |[.sl b z xs],[]=>match mapO asLo xs,Nat.ble xs.length 1000000&&(Nat.beq z 6||xs.isEmpty) with
  |some l,true=>match pur 8 (j2g (l.map fun x=>cn x.1)) with
   |true=>some (.ret [j2g (l.map fun x=>cn x.1)],[])
   |false=>none
  |_,_=>none
 |_,_=>none
theorem j8J:DoesOk (CallD C1.P 90) j5I:=j0H (fun n=>(j3B n).call) fun args st r st' h=>by
 unfold j5I at h;split at h
 ·rename_i b z xs;split at h
  ·rename_i l hl hb;split at h
   ·rename_i hp;cases h;rw[Bool.and_eq_true] at hb;have hlo:=j2L hl;have hlen:=hlo.len;have h1:=Nat.le_of_ble_eq_true hb.1;exact⟨rfl,rfl,_,rfl,by simp only[List.all_cons,List.all_nil,Bool.and_true];exact hp,j0V l b z xs (emp hb.2) hlo (by omega)⟩
   ·cases h
  ·cases h
 ·cases h
open Go Go.Am Go.Gw
def jeB(l:Lv):Tm:=.mk 2 0 [] [l] []
def jf5(l:Lv):PV:=.ag [iv 2,iv 0,sv [],.sl true 3 [encL l],.sl true 0 []]
def j4b:List Lv→List Lv→Option (List Lv)
 |[],_=>some []
 |l::r,bys=>match Go.Gw.InstF l bys with
  |none=>none
  |some x=>(j4b r bys).map (x :: ·)
mutual
def lvT:Tm→List Lv→Option Tm
 | .mk k n s ls ts,bys=>match j4b ls bys with
  |none=>none
  |some ls'=>(lvTs ts bys).map fun ts'=>.mk k n s ls' ts'
def lvTs:List Tm→List Lv→Option (List Tm)
 |[],_=>some []
 |t::r,bys=>match lvT t bys with
  |none=>none
  |some x=>(lvTs r bys).map (x :: ·)
end
open Go Go.Am Go.Gw
def LvW(l:Lv):Prop:=LvP l (encL l)
variable{k n:Int}{ls:List Lv}{ts:List Tm}{s:List UInt8}{l:Lv}
theorem LvP.w{v:PV}(h:LvP l v):LvW l:=ja0 _ _ h
theorem LvsP.ws:∀{ls:List Lv}{xs:List PV},LvsP ls xs→∀l∈ls,LvW l
 |[],_,_,l,hl=>by cases hl
 |a::r,xs,h,l,hl=>by
  simp only[LvsP] at h;obtain⟨v,xs',rfl,h1,h2⟩:=h;rcases List.mem_cons.1 hl with rfl|hl
  ·exact h1.w
  ·exact LvsP.ws h2 l hl
theorem j8e:∀{ls:List Lv},(∀l∈ls,LvW l)→LvsP ls (ls.map encL)
 |[],_=>by simp only[List.map_nil,LvsP]
 |l::r,h=>by
  simp only[List.map_cons,LvsP];exact⟨_,_,rfl,h l (by simp),j8e fun x hx=>h x (by simp[hx])⟩
theorem j4E(h:∀l∈ls,LvW l):∃b z xs,j2N ls=.sl b z xs∧(z=3∨xs=[])∧LvsP ls xs:=j7L (j8e h)
theorem jc7(hl:ls.length≤3518437208780)(h:∀l∈ls,LvW l):LvW (.mk k n ls):=by
 obtain⟨b,z,xs,e,hz,hx⟩:=j4E h;unfold LvW;rw[j5g,e];exact⟨b,z,xs,rfl,hz,hx,hl⟩
theorem LvW.args(h:LvW (.mk k n ls)):(∀l∈ls,LvW l)∧ls.length≤3518437208780:=by
 unfold LvW at h;simp only[LvP] at h;obtain⟨b,z,xs,_,hz,hx,hb⟩:=h;exact⟨hx.ws,hb⟩
theorem j4L(h:∀t∈ts,TmW t):∃b z xs,j2g ts=.sl b z xs∧(z=5∨xs=[])∧TmsP ts xs:=by
 cases ts with
 |nil=>exact⟨_,_,_,rfl,.inr rfl,by simp only[TmsP]⟩
 |cons a r=>exact⟨_,_,_,j0L (by simp),.inl rfl,j3F h⟩
theorem jdO(hn:i64 n)(hs:s.length≤140737488355328)(hl:ls.length≤3518437208780)(h:∀l∈ls,LvW l)(ht:ts.length≤1759218604441)(h':∀t∈ts,TmW t):TmW (.mk k n s ls ts):=by
 obtain⟨b,z,xs,e,hz,hx⟩:=j4E h;obtain⟨c,y,ys,e',hy,hys⟩:=j4L h';unfold TmW;rw[j1r,e,e'];exact⟨b,z,xs,c,y,ys,rfl,hz,hx,hl,hy,hys,ht,hs,hn⟩
theorem TmW.parts(h:TmW (.mk k n s ls ts)):i64 n∧s.length≤140737488355328∧ls.length≤3518437208780∧(∀l∈ls,LvW l)∧ts.length≤1759218604441∧∀t∈ts,TmW t:=by
 unfold TmW at h;simp only[TmP] at h;obtain⟨b,z,xs,c,y,ys,_,hz,hxs,hb,hy,hys,hc,hs,hn⟩:=h;exact⟨hn,hs,hb,hxs.ws,hc,hys.ws⟩
mutual
theorem jam{bys:List Lv}(hb:∀l∈bys,LvW l):∀(l:Lv),LvW l→LvW (j5q l bys)
 | .mk k n ls,h=>by
  by_cases hk:k=2
  ·subst hk;rw[jal,List.getD_eq_getElem?_getD];cases e:bys[n.toNat]? with
   |none=>exact jc7 (by simp) (by simp)
   |some x=>exact hb x (List.mem_of_getElem? e)
  ·rw[jbx hk,←j2A];obtain⟨h1,h2⟩:=h.args;have:=j7Y hb ls h1;exact jc7 (by rw[j2A,List.length_map];exact h2) this
theorem j7Y{bys:List Lv}(hb:∀l∈bys,LvW l):∀(ls:List Lv),(∀l∈ls,LvW l)→∀x∈j4C ls bys,LvW x
 |[],_,x,hx=>by cases hx
 |l::r,h,x,hx=>by
  rw[j4C] at hx;rcases List.mem_cons.1 hx with rfl|hx
  ·exact jam hb l (h l (by simp))
  ·exact j7Y hb r (fun l hl=>h l (by simp[hl])) x hx
end
theorem jcj{x:Lv}{bys:List Lv}(hb:∀l∈bys,LvW l)(hl:LvW l)(h:Go.Gw.InstF l bys=some x):LvW x:=by
 unfold Go.Gw.InstF at h;(repeat' split at h)<;>simp at h
 subst h;exact jam hb l hl
theorem j7Z{bys:List Lv}(hb:∀l∈bys,LvW l):∀{ls xs:List Lv},(∀l∈ls,LvW l)→j4b ls bys=some xs→(∀l∈xs,LvW l)∧xs.length=ls.length
 |[],xs,_,h=>by simp[j4b] at h;subst h;simp
 |l::r,xs,hl,h=>by
  rw[j4b] at h;cases h0:Go.Gw.InstF l bys with
  |none=>rw[h0] at h;simp at h
  |some x=>
   rw[h0] at h;cases h1:j4b r bys with
   |none=>rw[h1] at h;simp at h
   |some ys=>
    rw[h1] at h;simp at h;subst h;obtain⟨a,b⟩:=j7Z hb (fun l hl'=>hl l (by simp[hl'])) h1
    refine⟨?_,by simp[b]⟩
    intro y hy;rcases List.mem_cons.1 hy with rfl|hy
    ·exact jcj hb (hl l (by simp)) h0
    ·exact a y hy
mutual
theorem je9{bys:List Lv}(hb:∀l∈bys,LvW l):∀{t x:Tm},TmW t→lvT t bys=some x→TmW x
 | .mk k n s ls ts,x,hw,h=>by
  obtain⟨hn,hs,hll,hl,htl,ht⟩:=hw.parts;rw[lvT] at h;cases h0:j4b ls bys with
  |none=>rw[h0] at h;simp at h
  |some ls'=>
   rw[h0] at h;cases h1:lvTs ts bys with
   |none=>rw[h1] at h;simp at h
   |some ts'=>
    rw[h1] at h;simp at h;subst h;obtain⟨a,b⟩:=j7Z hb hl h0;obtain⟨c,d⟩:=jc6 hb ht h1;exact jdO hn hs (by omega) a (by omega) c
theorem jc6{bys:List Lv}(hb:∀l∈bys,LvW l):∀{ts xs:List Tm},(∀t∈ts,TmW t)→lvTs ts bys=some xs→(∀t∈xs,TmW t)∧xs.length=ts.length
 |[],xs,_,h=>by simp[lvTs] at h;subst h;simp
 |t::r,xs,hl,h=>by
  rw[lvTs] at h;cases h0:lvT t bys with
  |none=>rw[h0] at h;simp at h
  |some x=>
   rw[h0] at h;cases h1:lvTs r bys with
   |none=>rw[h1] at h;simp at h
   |some ys=>
    rw[h1] at h;simp at h;subst h;obtain⟨a,b⟩:=jc6 hb (fun l hl'=>hl l (by simp[hl'])) h1
    refine⟨?_,by simp[b]⟩
    intro y hy;rcases List.mem_cons.1 hy with rfl|hy
    ·exact je9 hb (hl t (by simp)) h0
    ·exact a y hy
end
def jdW(t:Tm)(bys:List Lv):Option Tm:=if j1c t bys.length 1125899906842624=true then match lvT t bys with
  |none=>none
  |some x=>if j0r x≤2000 then some x else none
 else none
end Go.Proofs.YtnfbeplfnblgjaaGreatDoor
namespace Go.Proofs.YtnfbeplfnblgjaaGreatDoor
open Go Go.Am Go.Gw
def CosP:List Co→List PV→Prop
 |[],xs=>xs=[]
 |c::r,xs=>∃v xs',xs=v::xs'∧CoP c v∧CosP r xs'
theorem CosP.len:∀{cs:List Co}{xs:List PV},CosP cs xs→xs.length=cs.length
 |[],xs,h=>by simp only[CosP] at h;simp[h]
 |c::r,xs,h=>by
  simp only[CosP] at h;obtain⟨v,xs',rfl,_,h⟩:=h;simp[CosP.len h]
theorem CosP.at:∀{cs:List Co}{xs:List PV}{i:Nat}{c:Co},CosP cs xs→cs[i]?=some c→∃v,xs[i]?=some v∧CoP c v
 |[],xs,i,c,_,h=>by simp at h
 |x::r,xs,i,c,h,e=>by
  simp only[CosP] at h;obtain⟨v,xs',rfl,h1,h2⟩:=h;cases i with
  |zero=>simp at e;subst e;exact⟨v,rfl,h1⟩
  |succ i=>simpa using CosP.at h2 (by simpa using e)
theorem CosP.snoc:∀{cs:List Co}{xs:List PV}{c:Co}{v:PV},CosP cs xs→CoP c v→CosP (cs++[c]) (xs++[v])
 |[],xs,c,v,h,hv=>by
  simp only[CosP] at h;subst h;simp only[List.nil_append,CosP];exact⟨v,[],rfl,hv,rfl⟩
 |x::r,xs,c,v,h,hv=>by
  simp only[CosP] at h;obtain⟨y,xs',rfl,h1,h2⟩:=h;simp only[List.cons_append,CosP];exact⟨y,_,rfl,h1,CosP.snoc h2 hv⟩
theorem CosP.pure:∀{cs:List Co}{xs:List PV}(n:Nat),CosP cs xs→xs.all (pur (n+2))=true
 |[],xs,n,h=>by simp only[CosP] at h;subst h;rfl
 |c::r,xs,n,h=>by
  simp only[CosP] at h;obtain⟨v,xs',rfl,⟨b,z,ys,b',z',ys',b'',z'',rfl,-⟩,h2⟩:=h;rw[List.all_cons,CosP.pure n h2];rfl
def j6E(nm:List UInt8)(self:Tm)(fx idx:Int):List (List UInt8×Tm)→Int×List Co
 |[]=>(0,[])
 |c::r=>if(jcv nm self fx idx c.2).1=0 then(if(j6E nm self fx idx r).1=0 then(0,(jcv nm self fx idx c.2).2::(j6E nm self fx idx r).2) else((j6E nm self fx idx r).1,[])) else((jcv nm self fx idx c.2).1,[])
def jf1(g:List Co)(r:Int×List Co):Int×List Co:=if r.1=0 then(0,g++r.2) else(r.1,[])
def jeU(d:Dc):Int:=if j7S d=0 then(j6E d.nm (jdJ d) d.fx (idxD d) d.cs).1 else j7S d
def jdK(d:Dc):List Co:=(j6E d.nm (jdJ d) d.fx (idxD d) d.cs).2
def FamP(idx:Int)(l:Lv)(cs:List Co)(v:PV):Prop:=∃b z xs,v=.ag (iv idx::((encL l).cells++[.sl b z xs]))∧(z=3∨xs=[])∧CosP cs xs
def shS(x y:SO)(fc:List PV):List PV→Sto
 |[]=>[x,y,.box 44 (fc++[.sl true 0 []])]
 |v::r=>[x,y,.box 44 (fc++[.ms 5 (r.length+1)]),.dead,.dead,.row false 56 3 (v::r)]
open Go Go.Am Go.Gw
abbrev Lo:=List UInt8×Tm
structure Kn where
 field:Tm
 arms:List Lo
 tg:List Tm
structure Sp where
 fields:List Lo
 known:List Kn
 tg:List Tm
structure Bd where
 d:Dc
 params:List Lo
 index:List Lo
 major:Lo
 motive:Lo
 rc:Tm
def j1p(l:List Lo):List Tm:=l.map fun x=>cn x.1
def takeB(ns:List (List UInt8))(n:Nat):Option (List (List UInt8)×List (List UInt8)):=match Nat.ble n ns.length with
 |true=>some (ns.take n,ns.drop n)
 |false=>none
def take1(ns:List (List UInt8)):Option (List UInt8×List (List UInt8)):=match ns with
 |s::r=>some (s,r)
 |[]=>none
def jbL(ns:List (List UInt8))(t:Tm)(n:Nat):Option (List Lo×Tm×List (List UInt8)):=match takeB ns n with
 |some (xs,r)=>match j8r t 6 xs with
  |some (l,b)=>some (l,b,r)
  |none=>none
 |none=>none
def j3N(f:Tm)(l:List Lo):Tm:=appF f (j1p l)
def holdsB(motive:Lo)(tg:List Tm)(thing:Tm):Tm:=appF (cn motive.1) (tg++[thing])
def jdN(fx:Int)(t:Tm):List Tm:=(j9z t).drop fx.toNat
def cnl(s:List UInt8)(ls:List Lv):Tm:=.mk 3 0 s ls []
def jd9(d:Dc)(rc:Tm)(sort:Lv)(ns:List (List UInt8)):Option (Bd×List (List UInt8)):=match jbL ns d.ty d.fx.toNat with
 |some (params,rest,n1)=>match jbL n1 rest (jc3 6 rest) with
  |some (index,_,n2)=>match take1 n2 with
   |some (mj,n3)=>match take1 n3 with
    |some (mt,n4)=>match j0u 6 (jeB sort) (index++[(mj,j3N (cnl d.nm (parL d.p.toNat)) (params++index))]) with
     |some ty=>some (⟨d,params,index,(mj,j3N (cnl d.nm (parL d.p.toNat)) (params++index)),(mt,ty),rc⟩,n4)
     |none=>none
    |none=>none
   |none=>none
  |none=>none
 |none=>none
def jar(fx:Int):List (Lo×Int)→List (List UInt8)→Option (List Kn×List (List UInt8))
 |[],ns=>some ([],ns)
 |(f,n)::r,ns=>match decide (n<0) with
  |true=>jar fx r ns
  |false=>match jbL ns f.2 n.toNat with
   |some (arms,e,n1)=>match jar fx r n1 with
    |some (ks,n2)=>some (⟨cn f.1,arms,jdN fx e⟩::ks,n2)
    |none=>none
   |none=>none
def jeD(b:Bd)(ty:Tm)(form:Co)(ns:List (List UInt8)):Option (Sp×List (List UInt8)):=match j5O ty (j1p b.params) with
 |some body=>match jbL ns body form.fs.length with
  |some (fields,e,n1)=>match jar b.d.fx (fields.zip form.ar) n1 with
   |some (ks,n2)=>some (⟨fields,ks,jdN b.d.fx e⟩,n2)
   |none=>none
  |none=>none
 |none=>none
def jdo(b:Bd):List Kn→List (List UInt8)→Option (List Lo×List (List UInt8))
 |[],ns=>some ([],ns)
 |k::r,ns=>match take1 ns with
  |some (s,n1)=>match j0u 6 (holdsB b.motive k.tg (j3N k.field k.arms)) k.arms with
   |some ty=>match jdo b r n1 with
    |some (hs,n2)=>some ((s,ty)::hs,n2)
    |none=>none
   |none=>none
  |none=>none
def jdy(b:Bd)(nm:List UInt8)(s:Sp)(ns:List (List UInt8)):Option (Lo×List (List UInt8)):=match jdo b s.known ns with
 |some (hs,n1)=>match take1 n1 with
  |some (x,n2)=>match j0u 6 (holdsB b.motive s.tg (j3N (cnl nm (parL b.d.p.toNat)) (b.params++s.fields))) (s.fields++hs) with
   |some ty=>some ((x,ty),n2)
   |none=>none
  |none=>none
 |none=>none
def jax(b:Bd):List (Lo×Co)→List (List UInt8)→Option (List (Sp×Lo)×List (List UInt8))
 |[],ns=>some ([],ns)
 |(c,f)::r,ns=>match jeD b c.2 f ns with
  |some (s,n1)=>match jdy b c.1 s n1 with
   |some (m,n2)=>match jax b r n2 with
    |some (l,n3)=>some ((s,m)::l,n3)
    |none=>none
   |none=>none
  |none=>none
def jbZ(b:Bd)(front:List Lo):List Kn→Tm→Option Tm
 |[],out=>some out
 |k::r,out=>match j0u 5 (appF (j3N b.rc front) (k.tg++[j3N k.field k.arms])) k.arms with
  |some l=>jbZ b front r (appF out [l])
  |none=>none
def jey(b:Bd)(minors:List Lo)(s:Sp)(m:Lo):Option Tm:=match jbZ b (b.params++b.motive::minors) s.known (j3N (cn m.1) s.fields) with
 |some out=>j0u 5 out ((b.params++b.motive::minors)++s.fields)
 |none=>none
def jdT(b:Bd)(minors:List Lo):Option Tm:=j0u 6 (holdsB b.motive (j1p b.index) (cn b.major.1)) (b.params++b.motive::minors++b.index++[b.major])
def jce(b:Bd)(minors:List Lo):List (Sp×Lo)→Option (List Tm)
 |[]=>some []
 |(s,m)::r=>match jey b minors s m with
  |some t=>match jce b minors r with
   |some l=>some (t::l)
   |none=>none
  |none=>none
structure RecT where
 nm:List UInt8
 p:Int
 ty:Tm
 rules:List Tm
def recP(d:Dc)(large:Bool):Nat:=match large with
 |true=>d.p.toNat+1
 |false=>d.p.toNat
def sortB(d:Dc)(large:Bool):Lv:=match large with
 |true=>.mk 2 d.p []
 |false=>.mk 1 0 []
def jdZ(d:Dc):List Tm:=d.ty::(d.cs.map (·.2)++(jc8 d).map cn)
def jeS(d:Dc)(large:Bool):Option RecT:=match jd9 d (cnl (recF d.nm) (parL (recP d large))) (sortB d large) (j1I (j3b (jdZ d)) 200) with
 |some (b,n1)=>match jax b (d.cs.zip (jdK d)) n1 with
  |some (l,_)=>match jdT b (l.map (·.2)),jce b (l.map (·.2)) l with
   |some ty,some rs=>some ⟨recF d.nm,recP d large,ty,rs⟩
   |_,_=>none
  |none=>none
 |none=>none
end Go.Proofs.YtnfbeplfnblgjaaGreatDoor
namespace Go.Am
open Go Go.Gw
def rdyA(ops:Array Oper)(W:List Row4)(K:List Nat)(j:Nat):Bool:=isAct W j&&(!K.elem j&&rdyK (clos [] ops.toList) W K j)
def rdyL(ops:Array Oper)(W:List Row4)(K:List Nat)(j:Nat):Bool:=rdyK (clos [] ops.toList) W K j && !(K.any fun i=>((clos [] ops.toList).getD i []).elem j)
def lookV(C:Cfg)(ops:Array Oper)(W:List Row4)(K:List Nat)(st:Sto):List Nat→Prop
 |[]=>True
 |j::r=>(match W[j]? with
  |some (o,ρ,v,.k _)=>match rdyL ops W K j with
   |true=>aK C.P ρ st o.op=some v
   |false=>True
  |_=>True)∧lookV C ops W K st r
def actV(C:Cfg)(ops:Array Oper)(W:List Row4)(K:List Nat)(st:Sto)(next:List Nat→Sto→Prop):List Nat→Prop
 |[]=>True
 |j::r=>(match rdyA ops W K j with
  |true=>match W[j]? with
   |some (o,ρ,v,_)=>vcGuard ops ρ o.guard (vcDrawOp C (actK ops o) o.op ρ st (fun v' st' _=>v'=v∧next (insK ops.size K j) st') (fun _ _=>False)) False
   |none=>True
  |false=>True)∧actV C ops W K st next r
def vcExp(C:Cfg)(ops:Array Oper)(W:List Row4)(F:List Nat→Sto→Prop):Nat→List Nat→Sto→Prop
 |0,K,st=>F K st∧(lookV C ops W K st (List.range ops.size)∧(List.range ops.size).all (fun j=>!rdyA ops W K j)=true)
 |n+1,K,st=>F K st∧(lookV C ops W K st (List.range ops.size)∧actV C ops W K st (vcExp C ops W F n) (List.range ops.size))
def finV(ops:Array Oper)(W:List Row4)(sf:Sto)(K:List Nat)(st:Sto):Prop:=match Nat.beq K.length ((List.range ops.size).filter (isAct W)).length with
 |true=>st=sf
 |false=>True
def panV(C:Cfg)(ops:Array Oper)(W:List Row4)(q:Nat)(v:PV)(sp:Sto)(K:List Nat)(st:Sto):Prop:=match rdyK (clos [] ops.toList) W K q with
 |true=>match W[q]? with
  |some (o,ρ,_,_)=>vcGuard ops ρ o.guard (vcDrawOp C (actK ops o) o.op ρ st (fun _ _ _=>False) (fun v' st'=>v'=v∧weakS st' sp)) False
  |none=>True
 |false=>True
section
variable{C:Cfg}
def expE(C:Cfg)(e:Ev)(ops:Array Oper)(W:List Row4)(F:List Nat→Sto→Prop):Nat→List Nat→Sto→Prop
 |0,K,st=>F K st∧(lookV C ops W K st (List.range ops.size)∧(List.range ops.size).all (fun j=>!rdyA ops W K j)=true)
 |n+1,K,st=>F K st∧(lookV C ops W K st (List.range ops.size)∧∀j∈List.range ops.size,rdyA ops W K j=true→∀o ρ v d,W[j]?=some (o,ρ,v,d)→∃st' d',drawOp C e ops o ρ st=some (v,st',d')∧expE C e ops W F n (insK ops.size K j) st')
end
end Go.Am
namespace Go.Proofs.YtnfbeplfnblgjaaGreatDoor
open Go Go.Am Go.Gw
structure Bc where
 k:Int
 p:Int
 nm:List UInt8
 t1:Int
 t2:Int
 t3:List UInt8
 t4:Bool
 t5:Nat
 t6:List PV
 t7:Bool
 t8:Nat
 t9:List PV
 v1:Int
 v2:Int
 v3:List UInt8
 v4:Bool
 v5:Nat
 v6:List PV
 v7:Bool
 v8:Nat
 v9:List PV
 fx:Int
 cb:Bool
 cz:Nat
 cx:List PV
 nb:Bool
 nz:Nat
 ns:List (List UInt8)
 lb:Bool
 lz:Nat
 lx:List PV
 pb:Bool
 pz:Nat
 px:List PV
 ib:Bool
 iz:Nat
 ix:List PV
 mj:List UInt8
 m1:Int
 m2:Int
 m3:List UInt8
 m4:Bool
 m5:Nat
 m6:List PV
 m7:Bool
 m8:Nat
 m9:List PV
 mt:List UInt8
 o1:Int
 o2:Int
 o3:List UInt8
 o4:Bool
 o5:Nat
 o6:List PV
 o7:Bool
 o8:Nat
 o9:List PV
 r1:Int
 r2:Int
 r3:List UInt8
 r4:Bool
 r5:Nat
 r6:List PV
 r7:Bool
 r8:Nat
 r9:List PV
def Bc.cells(c:Bc)(s m:PV):List PV:=[iv c.k,iv c.p,sv c.nm,iv c.t1,iv c.t2,sv c.t3,.sl c.t4 c.t5 c.t6,.sl c.t7 c.t8 c.t9,iv c.v1,iv c.v2,sv c.v3,.sl c.v4 c.v5 c.v6,.sl c.v7 c.v8 c.v9,iv c.fx,.sl c.cb c.cz c.cx,.sl c.nb c.nz (svs c.ns),.sl c.lb c.lz c.lx,.sl c.pb c.pz c.px,.sl c.ib c.iz c.ix,sv c.mj,iv c.m1,iv c.m2,sv c.m3,.sl c.m4 c.m5 c.m6,.sl c.m7 c.m8 c.m9,sv c.mt,iv c.o1,iv c.o2,sv c.o3,.sl c.o4 c.o5 c.o6,.sl c.o7 c.o8 c.o9,s,m,iv c.r1,iv c.r2,sv c.r3,.sl c.r4 c.r5 c.r6,.sl c.r7 c.r8 c.r9]
def bsS(c:Bc)(ss ms:List PV):Sto:=match ss,ms with
 |[],_=>[.box 97 (c.cells (.sl true 0 []) (.sl true 0 []))]
 |s::r,[]=>[.box 97 (c.cells (.ms 1 (r.length+1)) (.sl true 0 [])),.row false 101 3 (s::r)]
 |s::r,m::q=>[.box 97 (c.cells (.ms 1 (r.length+1)) (.ms 2 (q.length+1))),.row false 101 3 (s::r),.row false 94 6 (m::q)]
def jeV:PV:=.ifc 139 (.ag [])
theorem j5m(t:Tm)(v:PV)(h:TmP t v):Pf C9 88 [v,bv true] [v]:=by
 cases h.c;refine run_intro Tryz.func88 rfl rfl rfl ?_;repeat'(first|refine gU ?_|apply gE<;>intro h|apply gM<;>intro h|apply gK)<;>conv=>whnf
 all_goals rfl
def Bc.took(c:Bc)(n:Nat):Bc:={ c with nb:=c.nb&&Nat.beq (svs c.ns).length (svs c.ns).length,ns:=c.ns.drop n }
end Go.Proofs.YtnfbeplfnblgjaaGreatDoor
