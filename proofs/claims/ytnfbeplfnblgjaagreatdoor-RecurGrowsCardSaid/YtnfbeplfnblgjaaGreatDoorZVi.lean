/- Words for what package recur binds and applies; settings for the longest closed runs. -/
import Derived.Test.YtnfbeplfnblgjaaGreatDoorZVf
set_option linter.all false
set_option maxHeartbeats 4000000
set_option maxRecDepth 1000000
namespace Go.Proofs.YtnfbeplfnblgjaaGreatDoor
open Go Go.Am Go.Gw
def cloF(kind:Int)(t:Tm)(l:List Lo):Option Tm:=match(decide (kind=6)||decide (kind=5))&&(allT t 4 0&&(jaQ l.reverse&&Nat.ble (sizT t+sizL l.reverse) 2000)) with
 |true=>some (j2U kind l.reverse t)
 |false=>j0u kind t l
theorem j9H(kind:Int)(t:Tm)(l:List Lo):cloF kind t l=j0u kind t l:=by
 unfold cloF;split
 ·rename_i hq;simp only[Bool.and_eq_true,Bool.or_eq_true,decide_eq_true_eq] at hq;obtain⟨q1,q2,q3,q4⟩:=hq;have hsz:=Nat.le_of_ble_eq_true q4;obtain⟨e1,e2⟩:=j4Z q1 l.reverse t q2 q3 hsz;unfold j0u;rw[if_pos ⟨by rcases q1 with rfl|rfl<;>rfl,j3h q2 (by omega)⟩,e1]
  dsimp only;rw[if_pos e2]
 ·rfl
def jcN(xs:List PV):Bool:=match xs.flatMap (ids 8) with
 |[i]=>Nat.beq i 1
 |_=>false
theorem jbK{xs:List PV}(h:jcN xs=true):xs.flatMap (ids 8)=[1]:=by
 unfold jcN at h;split at h
 ·rename_i i e;rw[e,Nat.eq_of_beq_eq_true h]
 ·cases h
def j8x(kind:Int)(args:List PV)(st:Sto):Option (AEnd×Sto):=match args,st with
 |[v,.sl _ z xs],[]=>match asTm v,j6R xs,(Nat.beq z 1||xs.isEmpty)&&(Nat.ble xs.length 1000000&&Nat.ble (catP xs).length 1000000) with
  |some t,some ls,true=>match cloF kind t ls.flatten with
   |some x=>some (.ret [encT x],[])
   |none=>none
  |_,_,_=>none
 |_,_=>none
def j8w(kind:Int)(args:List PV)(st:Sto):Option (AEnd×Sto):=match args,st with
 |[v,.ms i k],[.row p T z xs,.row q U y ms]=>match asTm v,j6Q ms xs,(Nat.beq T 93&&Nat.beq z 1&&(Nat.beq U 94&&Nat.beq y 6))&&(Nat.beq i 0&&Nat.beq k xs.length&&ms.all (pur 8)&&(Nat.blt 0 ms.length&&Nat.ble xs.length 1000000)&&(Nat.ble (catM ms xs).length 1000000&&Nat.blt 0 (catM ms xs).length)&&jcN xs) with
  |some t,some ls,true=>match cloF kind t ls.flatten with
   |some x=>some (.ret [encT x],[.row p T z xs,.row q U y ms])
   |none=>none
  |_,_,_=>none
 |_,_=>none
theorem j8N(x:Tm):[encT x].all (pur 8)=true:=by
 obtain⟨k9,n9,s9,b9,z9,x9,c9,y9,ys9,he9⟩:=j04 x;rw[he9];rfl
variable{f:FuncId}{kind p:Int}{args rs:List PV}{nm:List UInt8}{n:Nat}{st:Sto}{q:Tm→List PV→Bool}
theorem j5Z(h1:∀(t:Tm) (v:PV),TmP t v→∀(ls:List (List Lo)) (b:Bool) (z:Nat) (xs:List PV),(z=1∨xs=[])→LssP ls xs→xs.length≤1000000→(catP xs).length≤1000000→∀(x:Tm),j0u kind t ls.flatten=some x→TmW x→Pf C9 f [v,.sl b z xs] [encT x]):∀args st r st',j8x kind args st=some (r,st')→st=[]∧st'=[]∧∃rs,r=.ret rs∧rs.all (pur 8)=true∧Pf C9 f args rs:=fun args st r st' h=>by
 unfold j8x at h;split at h
 ·rename_i v b z xs;split at h
  ·rename_i t ls ht hl hb;split at h
   ·rename_i x hx;cases h;simp only[Bool.and_eq_true] at hb;obtain⟨hz,hb1,hb2⟩:=hb;have hL:=j4V hl;rw[j9H] at hx;have hT:=j0W ht;exact⟨rfl,rfl,_,rfl,j8N x,h1 t v hT ls b z xs (emp hz) hL (Nat.le_of_ble_eq_true hb1) (Nat.le_of_ble_eq_true hb2) x hx (j4Q hT.w (j2x hL).ws hx)⟩
   ·cases h
  ·cases h
 ·cases h
theorem j5Y(h2:∀(t:Tm) (v:PV),TmP t v→∀(p q:Bool) (ls:List (List Lo)) (xs ms:List PV),LsmP ms ls xs→xs.flatMap (ids 8)=[1]→ms.all (pur 8)=true→0<ms.length→xs.length≤1000000→(catM ms xs).length≤1000000→0<(catM ms xs).length→∀(x:Tm),j0u kind t ls.flatten=some x→Finds C9 f [v,.ms 0 xs.length] (lmS p q xs ms) fun r st=>r=.ret [encT x]∧st=lmS p q xs ms):∀args st r st',j8w kind args st=some (r,st')→Finds C9 f args st fun q s=>q=r∧s=st':=fun args st r st' h=>by
 unfold j8w at h;split at h
 ·rename_i v i k p T z xs q U y ms;split at h
  ·rename_i t ls ht hl hb;split at h
   ·rename_i x hx;cases h;simp only[Bool.and_eq_true] at hb;obtain⟨⟨⟨h3,h4⟩,h5,h6⟩,⟨⟨⟨⟨h7,h8⟩,h9⟩,h10,h11⟩,h12,h13⟩,h14⟩:=hb;obtain rfl:=Nat.eq_of_beq_eq_true h3;obtain rfl:=Nat.eq_of_beq_eq_true h4;obtain rfl:=Nat.eq_of_beq_eq_true h5;obtain rfl:=Nat.eq_of_beq_eq_true h6;obtain rfl:=Nat.eq_of_beq_eq_true h7;obtain rfl:=Nat.eq_of_beq_eq_true h8;rw[j9H] at hx;exact h2 t v (j0W ht) p q ls xs ms (j4U hl) (jbK h14) h9 (Nat.le_of_ble_eq_true h10) (Nat.le_of_ble_eq_true h11) (Nat.le_of_ble_eq_true h12) (Nat.le_of_ble_eq_true h13) x hx
   ·cases h
  ·cases h
 ·cases h
theorem jdj:DoesOk (CallD C1.P 94) (orN (j8x 5) (j8w 5)):=j2C (j0H (C:=C9) (fun n=>(j6V n).call) (j5Z fun t v h ls b z xs hz hxs hl hbd x hx hw=>jdr t v h ls b z xs hz hxs hl hbd x hx hw)) (j5f (C:=C9) (fun n=>(j6V n).call) (j5Y fun t v h p q ls xs ms hxs hids hm hm0 hl hbd hpos x hx=>jcJ t v h p q ls xs ms hxs hids hm hm0 hl hbd hpos x hx))
theorem je4:DoesOk (CallD C1.P 86) (orN (j8x 6) (j8w 6)):=j2C (j0H (C:=C9) (fun n=>(j6V n).call) (j5Z fun t v h ls b z xs hz hxs hl hbd x hx hw=>jew t v h ls b z xs hz hxs hl hbd x hx hw)) (j5f (C:=C9) (fun n=>(j6V n).call) (j5Y fun t v h p q ls xs ms hxs hids hm hm0 hl hbd hpos x hx=>jdE t v h p q ls xs ms hxs hids hm hm0 hl hbd hpos x hx))
def j9v(args:List PV)(st:Sto):Option (AEnd×Sto):=match args,st with
 |[v,.sl _ z xs],[]=>match asTm v,j6R xs,(Nat.beq z 1||xs.isEmpty)&&(Nat.ble xs.length 1000000&&Nat.ble (catP xs).length 1000000) with
  |some t,some ls,true=>match pur 8 (appV (encT t) (j1p ls.flatten)) with
   |true=>some (.ret [appV (encT t) (j1p ls.flatten)],[])
   |false=>none
  |_,_,_=>none
 |_,_=>none
theorem j9V:DoesOk (CallD C1.P 85) j9v:=j0H (C:=C9) (fun n=>(j6V n).call) fun args st r st' h=>by
 unfold j9v at h;split at h
 ·rename_i v b z xs;split at h
  ·rename_i t ls ht hl hb;split at h
   ·rename_i hp;cases h;simp only[Bool.and_eq_true] at hb;obtain⟨hz,hb1,hb2⟩:=hb;exact⟨rfl,rfl,_,rfl,by simp only[List.all_cons,List.all_nil,Bool.and_true];exact hp,jbe t v (j0W ht) ls b z xs (emp hz) (j4V hl) (Nat.le_of_ble_eq_true hb1) (Nat.le_of_ble_eq_true hb2)⟩
   ·cases h
  ·cases h
 ·cases h
noncomputable def j4N:List (FuncId×NatF):=[(94,orN (j8x 5) (j8w 5)),(86,orN (j8x 6) (j8w 6)),(85,j9v)]
theorem j6K:∀p∈j4N,DoesOk (CallD C1.P p.1) p.2:=by
 intro p hp;simp only[j4N,List.mem_cons,List.not_mem_nil,or_false] at hp;rcases hp with rfl|rfl|rfl
 ·exact jdj
 ·exact je4
 ·exact j9V
noncomputable def jea(f:FuncId):Option (List PV→Sto→Option (AEnd×Sto)):=j2p f (j4N++(words++natC))
noncomputable def CR2:Cfg:=⟨CR.P,CR.fz,CR.raw,CR.keep,CR.lit,jea,CR.fzc,CR.pst,false⟩
theorem jct:NatOk CR2:=j3D (l:=j4N++(words++natC)) (fun _=>rfl) fun p hp=>by
 rcases List.mem_append.1 hp with h|h
 ·exact j6K p h
 ·rcases List.mem_append.1 h with h|h
  ·exact j5M p h
  ·exact j5w p h
theorem jc4(n:Nat):EvOk CR2 (ev CR2 n):=ev_ok (by kernel_rfl) (by kernel_rfl) jct n
noncomputable def run2(f:FuncId)(args:List PV):Option (AEnd×Sto):=(ev CR2 400).call f args []
theorem jaO(h:run2 f args=some (.ret rs,st)):Pf CR2 f args rs:=pf_of 400 h
theorem jan(h:j4r nm p n q (run2 f args)=true):∃t k nn s lb lz lx tb tz tx rb rz rs,TmP t (.ag [iv k,iv nn,sv s,.sl lb lz lx,.sl tb tz tx])∧q t (.ag [iv k,iv nn,sv s,.sl lb lz lx,.sl tb tz tx]::rs)=true∧rs.length=n∧(rz=5∨rs=[])∧rs.all (pur 6)=true∧Pf CR2 f args [.ag [sv nm,iv p,iv k,iv nn,sv s,.sl lb lz lx,.sl tb tz tx,.sl rb rz rs],iv 0]:=by
 unfold j4r at h;split at h
 ·rename_i a b w z rs e heq;simp only[Bool.and_eq_true,decide_eq_true_eq] at h;obtain⟨rfl,rfl,rfl,h4,h5,h6,h7⟩:=h;split at h7
  ·rename_i t ht;have hT:=j0W ht;unfold recOf at heq;split at heq
   ·rename_i u p0 k nn s ls ts rb z0 rs0 e0 st hr;cases heq;obtain⟨k1,n1,s1,ls1,ts1,b1,z1,x1,c1,y1,ys1,-,e1,-⟩:=hT.open;have e2:[k,nn,s,ls,ts]=[iv k1,iv n1,sv s1,.sl b1 z1 x1,.sl c1 y1 ys1]:=PV.ag.inj e1;simp only[List.cons.injEq,and_true] at e2;obtain⟨rfl,rfl,rfl,rfl,rfl⟩:=e2;refine⟨t,k1,n1,s1,b1,z1,x1,c1,y1,ys1,rb,_,_,hT,h7,Nat.eq_of_beq_eq_true h4,emp h5,h6,?_⟩;rw[show sv u.data.toList=.sc (.string u) by rw[j3A u]]
    exact jaO hr
   ·cases heq
  ·cases h7
 ·cases h
open Go Go.Am Go.Gw
def tyC:List PV:=[iv 2,iv 0,sv [],.sl true 3 [.ag [iv 1,iv 1,.sl true 0 []]],.sl true 0 []]
def tC:List PV:=[iv 3,iv 0,sv [116],.sl true 0 [],.sl true 0 []]
def ctV(i:Nat):PV:=.ag [sv [UInt8.ofNat (97+i)],iv 3,iv 0,sv [116],.sl true 0 [],.sl true 0 []]
def csV(n:Nat):List PV:=(List.range n).map ctV
def csS(n:Nat):PV:=match n with
 |0=>.sl true 0 []
 |k+1=>.sl false 6 (csV (k+1))
def j5e(n:Nat):PV:=.ag [iv 5,iv 0,sv [116],iv 2,iv 0,sv [],.sl true 3 [.ag [iv 1,iv 1,.sl true 0 []]],.sl true 0 [],iv 0,iv 0,sv [],.sl true 0 [],.sl true 0 [],iv 0,csS n]
def piN:Nat→Tm→Option Nat
 |0,_=>none
 |f+1,.mk k _ _ _ ts=>match decide (k=6),ts with
  |false,_=>some 0
  |true,_::b::_=>(piN f b).map (· + 1)
  |true,_=>none
noncomputable def okN(n:Nat)(lg:Bool):Bool:=j4r [116,46,114,101,99] (match lg with
 |true=>1
 |false=>0) n (fun t _=>match piN 40 t with
  |some q=>Nat.beq q (n+2)
  |none=>false) (run2 10 [j5e n,bv lg])
open Go Go.Am Go.Gw
def eqV:Value→Value→Bool
 | .int .i64 a,.int .i64 b=>decide (a=b)
 | .string s,.string t=>decide (s.data.toList=t.data.toList)
 |_,_=>false
theorem jdl{a b:Value}(h:eqV a b=true):a=b:=by
 unfold eqV at h;split at h
 ·rw[of_decide_eq_true h]
 ·rename_i s t;have e:=of_decide_eq_true h;exact congrArg Value.string (ByteArray.ext (Array.toList_inj.1 e))
 ·cases h
def eqPs(e:PV→PV→Bool):List PV→List PV→Bool
 |[],[]=>true
 |x::xs,y::ys=>e x y&&eqPs e xs ys
 |_,_=>false
theorem j5j{e:PV→PV→Bool}(he:∀x y,e x y=true→x=y):∀{xs ys:List PV},eqPs e xs ys=true→xs=ys
 |[],[],_=>rfl
 |[],_::_,h=>by simp[eqPs] at h
 |_::_,[],h=>by simp[eqPs] at h
 |x::xs,y::ys,h=>by
  simp only[eqPs,Bool.and_eq_true] at h;rw[he x y h.1,j5j he h.2]
def eqP:Nat→PV→PV→Bool
 |0,_,_=>false
 |n+1,x,y=>match x,y with
  | .sc a,.sc b=>eqV a b
  | .ag xs,.ag ys=>eqPs (eqP n) xs ys
  | .sl f z xs,.sl g w ys=>decide (f=g)&&(Nat.beq z w&&eqPs (eqP n) xs ys)
  |_,_=>false
theorem j7P:∀(n:Nat) (x y:PV),eqP n x y=true→x=y
 |0,_,_,h=>by cases h
 |n+1,x,y,h=>by
  unfold eqP at h;split at h
  ·rw[jdl h]
  ·rw[j5j (j7P n) h]
  ·simp only[Bool.and_eq_true,decide_eq_true_eq] at h;rw[h.1,Nat.eq_of_beq_eq_true h.2.1,j5j (j7P n) h.2.2]
  ·cases h
def jcf:List PV:=[.ag [iv 0,iv 1,iv 1,.sl true 0 [],.sl false 3 (List.replicate 8 (.ag [.sl true 0 [],.sl true 0 [],.sl true 0 []]))],iv 0]
def jcI(l:List PV):Option (AEnd×Sto)→Bool
 |some (.ret rs,_)=>eqPs (eqP 8) rs l
 |_=>false
theorem jby{l:List PV}(h:jcI l (run2 f args)=true):Pf CR2 f args l:=by
 unfold jcI at h;split at h
 ·rename_i rs st heq;rw[←j5j (j7P 8) h];exact jaO heq
 ·cases h
theorem j9a:jcI jcf (run2 12 [j5e 8])=true:=by kernel_rfl
def j8m(args:List PV)(st:Sto):Option (AEnd×Sto):=match args,st with
 |[v],[]=>match eqP 8 v (j5e 8) with
  |true=>some (.ret jcf,[])
  |false=>none
 |_,_=>none
theorem jbr:DoesOk (CallD C1.P 12) j8m:=j0H (C:=CR2) (fun n=>(jc4 n).call) fun args st r st' h=>by
 unfold j8m at h;split at h
 ·split at h
  ·rename_i he;cases h;rw[j7P 8 _ _ he];exact⟨rfl,rfl,_,rfl,rfl,jby j9a⟩
  ·cases h
 ·cases h
noncomputable def jeb(f:FuncId):Option (List PV→Sto→Option (AEnd×Sto)):=j2p f ((12,j8m)::(j4N++(words++natC)))
noncomputable def CR3:Cfg:=⟨CR.P,CR.fz,CR.raw,CR.keep,CR.lit,jeb,CR.fzc,CR.pst,false⟩
theorem jcu:NatOk CR3:=j3D (l:=(12,j8m)::(j4N++(words++natC))) (fun _=>rfl) fun p hp=>by
 rcases List.mem_cons.1 hp with rfl|hp
 ·exact jbr
 ·rcases List.mem_append.1 hp with h|h
  ·exact j6K p h
  ·rcases List.mem_append.1 h with h|h
   ·exact j5M p h
   ·exact j5w p h
theorem jde(n:Nat):EvOk CR3 (ev CR3 n):=ev_ok (by kernel_rfl) (by kernel_rfl) jcu n
noncomputable def run3(f:FuncId)(args:List PV):Option (AEnd×Sto):=(ev CR3 400).call f args []
theorem jcT(h:run3 f args=some (.ret rs,st)):Pf CR3 f args rs:=pf_of 400 h
theorem jao(h:j4r nm p n q (run3 f args)=true):∃t k nn s lb lz lx tb tz tx rb rz rs,TmP t (.ag [iv k,iv nn,sv s,.sl lb lz lx,.sl tb tz tx])∧q t (.ag [iv k,iv nn,sv s,.sl lb lz lx,.sl tb tz tx]::rs)=true∧rs.length=n∧(rz=5∨rs=[])∧rs.all (pur 6)=true∧Pf CR3 f args [.ag [sv nm,iv p,iv k,iv nn,sv s,.sl lb lz lx,.sl tb tz tx,.sl rb rz rs],iv 0]:=by
 unfold j4r at h;split at h
 ·rename_i a b w z rs e heq;simp only[Bool.and_eq_true,decide_eq_true_eq] at h;obtain⟨rfl,rfl,rfl,h4,h5,h6,h7⟩:=h;split at h7
  ·rename_i t ht;have hT:=j0W ht;unfold recOf at heq;split at heq
   ·rename_i u p0 k nn s ls ts rb z0 rs0 e0 st hr;cases heq;obtain⟨k1,n1,s1,ls1,ts1,b1,z1,x1,c1,y1,ys1,-,e1,-⟩:=hT.open;have e2:[k,nn,s,ls,ts]=[iv k1,iv n1,sv s1,.sl b1 z1 x1,.sl c1 y1 ys1]:=PV.ag.inj e1;simp only[List.cons.injEq,and_true] at e2;obtain⟨rfl,rfl,rfl,rfl,rfl⟩:=e2;refine⟨t,k1,n1,s1,b1,z1,x1,c1,y1,ys1,rb,_,_,hT,h7,Nat.eq_of_beq_eq_true h4,emp h5,h6,?_⟩;rw[show sv u.data.toList=.sc (.string u) by rw[j3A u]]
    exact jcT hr
   ·cases heq
  ·cases h7
 ·cases h
noncomputable def okN3(lg:Bool):Bool:=j4r [116,46,114,101,99] (match lg with
 |true=>1
 |false=>0) 8 (fun t _=>match piN 40 t with
  |some q=>Nat.beq q (8+2)
  |none=>false) (run3 10 [j5e 8,bv lg])
end Go.Proofs.YtnfbeplfnblgjaaGreatDoor
