/- Ticks, and the steps at a term's head: what each part of package whnf answers. -/
import Derived.Test.YtbnodhcijeaceaaGreatDoorXKr
set_option linter.all false
set_option maxHeartbeats 4000000
set_option maxRecDepth 100000
namespace Go.Proofs.YtbnodhcijeaceaaGreatDoor
open Go Go.Am Go.Gw
def runB(cs:List PV)(tot l:Int):SO:=.box 104 [.cp cs,iv (tot-l),iv l]
def Fr(f:FuncId)(args:List PV)(cs:List PV)(tot l:Int)(r:AEnd)(l':Int):Prop:=Finds C1 f args [runB cs tot l] fun r' st'=>r'=r∧st'=[runB cs tot l']
variable{r:AEnd}{K Q:AEnd→Sto→Prop}{e:En}{f:FuncId}{l l' tot:Int}{args cs rs:List PV}{ts:List Tm}{s:List UInt8}{E:Nv}{o:Option Tm}{v:PV}{st:Sto}{t x:Tm}
def jrF(h:Fr f args cs tot l r l')(hw:handed C1 f args st=some (args,st))(hp:args.all (pur 8)=false)(hπ:(close st 64 (args.flatMap (ids 8)) []).reverse=[0])(hi:args.all (j0e (fun i=>[0].elem i) 8)=true)
  (hf:fetch (fun i=>place i 0 [0]) (fun i=>[0].elem i) st [0]=some [runB cs tot l]) (ha:args.map (j1p (fun i=>place i 0 [0]) 8)=args) (hb:jbo (fun j=>Nat.blt j 1) r=true) (k:K (j5n (back [0] st.length) r) (st.set 0 (runB cs tot l'))):VCall C1 f args st K:=by
 refine j0K hw hp hπ hi hf ha (Finds.mono h ?_);rintro _ _ ⟨rfl,rfl⟩;refine j1z ?_ ?_
 ·simp only[AC,AG,AP,hb,CG];rfl
 ·have e:(st.set 0 (runB cs tot l'))++[]=st.set 0 (runB cs tot l'):=BF _;rw[←e] at k;exact k
def gW(h:Fr f args cs tot l r l')(k:K (j5n (back [0] st.length) r) (st.set 0 (runB cs tot l')))(hw:handed C1 f args st=some (args,st):=by exact rfl)(hp:args.all (pur 8)=false:=by exact rfl)(hπ:(close st 64 (args.flatMap (ids 8)) []).reverse=[0]:=by exact rfl)(hi:args.all (j0e (fun i=>[0].elem i) 8)=true:=by exact rfl)
  (hf:fetch (fun i=>place i 0 [0]) (fun i=>[0].elem i) st [0]=some [runB cs tot l]:=by exact rfl) (ha:args.map (j1p (fun i=>place i 0 [0]) 8)=args:=by exact rfl) (hb:jbo (fun j=>Nat.blt j 1) r=true:=by exact rfl):VCall C1 f args st K:=jrF h hw hp hπ hi hf ha hb k
def j0F(h:Finds C1 f args [] fun r _=>r=.pan v)(hp:args.all (pur 8)=true)(hv:pur 8 v=true)(k:K (.pan v) st):VCall C1 f args st K:=
 j3j hp (Finds.mono h fun r _ e=>by subst e;exact⟨hv,k⟩)
def j1s(h:Finds C1 f args [] fun r _=>r=.pan v)(k:∀st,K (.pan v) st):Finds C1 f args [] K:=Finds.mono h fun r st e=>by subst e;exact k st
def j2c(e:Int):PV:=.ifc 304 (.ag [iv e])
def j1m(e:Int):Pf C1 276 [bv true,iv e] []:=by
 refine gR Tryz.func276 ?_;repeat'(refine gU ?_)<;>conv=>whnf
 all_goals rfl
def j4G(e:Int):Finds C1 276 [bv false,iv e] [] fun r _=>r=.pan (j2c e):=by
 refine gR Tryz.func276 ?_;repeat'(refine gU ?_)<;>conv=>whnf
 all_goals rfl
def jfn(cs:List PV)(tot l:Int)(h1:1≤l)(h2:l≤tot)(h3:tot≤1048576):Fr 110 [.bp 0 0,iv 1] cs tot l (.ret [bv true]) (l-1):=by
 refine gR Tryz.func110 ?_;repeat'(first|refine gU ?_|apply gE<;>intro h)<;>conv=>whnf
 all_goals first|(exfalso;omega)|skip
 refine⟨rfl,?_⟩;rw[show tot-l+1=tot-(l-1) by omega]
 rfl
def jfm(cs:List PV)(tot l:Int)(h1:l<1):Fr 110 [.bp 0 0,iv 1] cs tot l (.ret [bv false]) l:=by
 refine gR Tryz.func110 ?_;repeat'(refine gU ?_)<;>conv=>whnf
 all_goals first|(exfalso;omega)|exact⟨rfl,rfl⟩
def jmh(cs:List PV)(tot l:Int):Fr 155 [.bp 0 0] cs tot l (.ret [.cp cs]) l:=by
 refine gR Tryz.func155 ?_;repeat'(refine gU ?_)<;>conv=>whnf
 all_goals exact gJ
def jpV(t:Tm)(v:PV)(h:TmP t v)(hn:j0A t≤2000):Pf C1 313 [v] [v]:=by
 have h1:=j2h t v h;have h2:Pf C1 276 [bv (decide (j0A t≤2000)),iv 15] []:=by
  rw[decide_eq_true hn];exact j1m 15
 obtain⟨k1,n1,s1,l1,t1,b1,z1,x1,c1,y1,ys1,rfl,rfl,-⟩:=h.open;refine gR Tryz.func313 ?_;repeat'(first|refine gU ?_|refine gX h1 ?_|refine gX h2 ?_)<;>conv=>whnf
 all_goals rfl
def jpU(t:Tm)(v:PV)(h:TmP t v)(hn:¬j0A t≤2000):Finds C1 313 [v] [] fun r _=>r=.pan (j2c 15):=by
 have h1:=j2h t v h;have h2:Finds C1 276 [bv (decide (j0A t≤2000)),iv 15] [] fun r _=>r=.pan (j2c 15):=by
  rw[decide_eq_false hn];exact j4G 15
 obtain⟨k1,n1,s1,l1,t1,b1,z1,x1,c1,y1,ys1,rfl,rfl,-⟩:=h.open;refine gR Tryz.func313 ?_;repeat'(first|refine gX h1 ?_|refine j0F h2 rfl rfl ?_)<;>conv=>whnf
 all_goals rfl
def OutP(o:Option Tm)(w:PV):Prop:=(∃k n s b z xs c y ys,w=.ag [iv k,iv n,sv s,.sl b z xs,.sl c y ys])∧∀x,o=some x→TmP x w
def TmsP.drop:∀{ts:List Tm}{xs:List PV}(i:Nat),TmsP ts xs→TmsP (ts.drop i) (xs.drop i)
 |ts,xs,0,h=>h
 |[],xs,i+1,h=>by
  simp only[TmsP] at h;subst h;simp[TmsP]
 |a::r,xs,i+1,h=>by
  simp only[TmsP] at h;obtain⟨v,xs',rfl,h1,h2⟩:=h;exact TmsP.drop i h2
def getD_at{i:Nat}(h:i<ts.length):ts[i]?=some (ts.getD i tz):=by
 rw[AQ,AA h];rfl
def j5W(o:Option Tm):putV o=[encT (o.getD tz),bv o.isSome]:=by cases o<;>rfl
def j7M(h:∀x,o=some x→TmW x):TmW (o.getD tz):=by
 cases o with
 |none=>exact jkB
 |some x=>exact h x rfl
def jf0(h:∀x,o=some x→TmW x)(hA:∀a∈ts,TmW a):OutP (appO o ts) (appV (encT (o.getD tz)) ts):=by
 obtain⟨k2,n2,s2,b2,z2,x2,c2,y2,ys2,qA⟩:=j06 (o.getD tz);refine⟨?_,fun x hx=>?_⟩
 ·rw[qA];exact j8s _ _ _ _ _ _ _ _ _ _
 ·cases o with
  |none=>cases hx
  |some y=>
   cases hx;exact jhF (h y rfl) hA
def jn5(h:Tm)(hv:PV)(hh:TmP h hv)(hs:shT h=true)(hk:h.kind=5)(args:List Tm)(b:Bool)(z:Nat)(xs:List PV)(hz:z=5∨xs=[])(hA:TmsP args xs)(wB:¬args.length=0)(qD:args.length≤2000):
  ∃w,OutP (appO (InstF (h.arg 1) [args.getD 0 tz]) (args.drop 1)) w∧Pf C1 366 [.cp hv.cells,.cp [.sl b z xs]] [w,bv (InstF (h.arg 1) [args.getD 0 tz]).isSome]:=by
 obtain⟨k,n,s,ls,ts⟩:=h;obtain⟨a1,a2,a3,a4,a5,a6⟩:=j0w hs;simp only[Tm.kind] at hk;subst hk;have hlen2:ts.length=2:=by
  have:j0Y 5=2:=rfl;omega
 obtain⟨_,_,_,_,_,hb,wC,hB,hc,hy,hD,⟨rfl,rfl,rfl,rfl,rfl⟩,rfl,-,-,-,-,wA,qA,-,-,-⟩:=hh.open;obtain⟨v1,qB,h1⟩:=qA.at (getD_at (ts:=ts) (i:=1) (by omega))
 obtain⟨v0,gB,h0⟩:=hA.at (getD_at (ts:=args) (i:=0) (by omega))
 have hI:=j7k _ v1 h1 [args.getD 0 tz] true 5 [v0] (.inl rfl) ⟨v0,[],rfl,h0,rfl⟩ (by simp)
 have hd:TmsP (args.drop 1) ((xs.take xs.length).drop 1):=by
  rw[BT];exact hA.drop 1
 have hlen:=hA.len;have e:(Tm.mk 5 n s ls ts).arg 1=ts.getD 1 tz:=rfl;rw[e];have hw:∀x,InstF (ts.getD 1 tz) [args.getD 0 tz]=some x→TmW x:=fun x hx=>j9n (by simpa using h0.w) h1.w hx
 have ho:=jf0 hw fun a ha=>hd.ws a ha
 have ha:=j8r _ _ (j7M hw) (args.drop 1) (b&&Nat.beq xs.length xs.length) z ((xs.take xs.length).drop 1) (hz.imp id fun e=>by rw[e];rfl) hd (by simp;omega)
 rw[j5W] at hI;generalize InstF (ts.getD 1 tz) [args.getD 0 tz]=o at *;obtain⟨k2,n2,s2,b2,z2,x2,c2,y2,ys2,gC⟩:=j06 (o.getD tz);rw[gC] at hI ha ho;obtain⟨⟨k3,n3,s3,b3,z3,x3,c3,y3,ys3,qC⟩,gA⟩:=ho;rw[qC] at ha gA;refine⟨_,⟨⟨k3,n3,s3,b3,z3,x3,c3,y3,ys3,rfl⟩,gA⟩,?_⟩;cases h1.c;cases h0.c;have hC:(xs.length.ble xs.length&&Nat.ble 1 xs.length)=true:=by simp only[FS,AB];omega
 refine gR Tryz.func366 ?_;repeat'(first|refine gU ?_|refine VIdx.mk _ qB ?_|refine VIdx.mk _ gB ?_|refine gZ wA ?_|refine gZ hz ?_|refine j01 hI fun _=>?_|refine VOk.mk hC ?_|refine j01 ha fun _=>?_|apply gK)<;>conv=>whnf
 all_goals rfl
open Go Go.Am Go.Gw
def jjI:C1.nat 393=some jlt:=rfl
def jqt(n:Int)(h0:0<n)(hn:n≤1000000):Finds C1 393 [.sl true 0 [],iv n] [] fun r st=>r=.ret [.ms 0 0]∧st=[.row false 25 5 []]:=by
 have hg:jlt [.sl true 0 [],iv n] []=some (.ret [.ms 0 0],[.row false 25 5 []]):=by
  simp only[jlt,iv,decide_eq_true h0,decide_eq_true hn,CP]
 refine⟨_,_,⟨rfl,rfl⟩,1,fun k hk=>?_⟩
 obtain⟨q,rfl⟩:∃q,k=q+1:=⟨k-1,by omega⟩
 show j6n C1 (ev C1 q) 393 [.sl true 0 [],iv n] []=_
 simp only[j6n,jjI,hg]
def jo5:Pf C1 393 [.sl true 0 [],iv 0] [.sl true 0 []]:=by
 refine⟨_,[],rfl,1,fun k hk=>?_⟩
 obtain⟨q,rfl⟩:∃q,k=q+1:=⟨k-1,by omega⟩
 show j6n C1 (ev C1 q) 393 [.sl true 0 [],iv 0] []=_
 simp only[j6n,jjI];rfl
def okz{z:Nat}{xs:List PV}(h:z=5∨xs=[]):(true&&(Nat.beq 5 z||xs.isEmpty))=true:=by
 rcases h with rfl|rfl<;>simp
def jl3(b1 b2 b3:Bool)(z1 z2 z3:Nat)(x1 x2 x3:List PV)(h1:z1=5∨x1=[])(h2:z2=5∨x2=[])(h3:z3=5∨x3=[])(p1:x1.all (pur 6)=true)(p2:x2.all (pur 6)=true)(p3:x3.all (pur 6)=true)(l1:x1.length≤10000)(l2:x2.length≤10000)(l3:x3.length≤10000):
  ∃b z,(z=5∨x1++(x2++x3)=[])∧Pf C1 389 [.sl true 1 [.sl b1 z1 x1,.sl b2 z2 x2,.sl b3 z3 x3]] [.sl b z (x1++(x2++x3))]:=by
 by_cases h0:x1.length+x2.length+x3.length=0
 ·obtain rfl:x1=[]:=AJ (by omega)
  obtain rfl:x2=[]:=AJ (by omega)
  obtain rfl:x3=[]:=AJ (by omega)
  refine⟨true,0,.inr rfl,?_⟩;refine gR Tryz.func389 ?_;all_goals try conv=>whnf
  refine j04 (G:=Nat) (fun i=>[(11,iv i)]) (fun _=>_) (fun i=>i≤3) (fun i=>3-i) 0 (by omega) rfl rfl ?_
  intro i hi;obtain rfl|rfl|rfl|rfl:i=0∨i=1∨i=2∨i=3:=by omega
  ·repeat'(first|refine gU ?_|refine VIdx.mk _ rfl ?_)<;>conv=>whnf
   exact VAgain.mk _ rfl _ (j1a rfl) ⟨1,by omega,by omega,rfl⟩
  ·repeat'(first|refine gU ?_|refine VIdx.mk _ rfl ?_)<;>conv=>whnf
   exact VAgain.mk _ rfl _ (j1a rfl) ⟨2,by omega,by omega,rfl⟩
  ·repeat'(first|refine gU ?_|refine VIdx.mk _ rfl ?_)<;>conv=>whnf
   exact VAgain.mk _ rfl _ (j1a rfl) ⟨3,by omega,by omega,rfl⟩
  ·repeat'(first|refine gU ?_|refine gX jo5 ?_)<;>conv=>whnf
   refine j04 (G:=Nat) (fun i=>[(27,iv i)]) (fun _=>_) (fun i=>i≤3) (fun i=>3-i) 0 (by omega) rfl rfl ?_
   intro i hi;obtain rfl|rfl|rfl|rfl:i=0∨i=1∨i=2∨i=3:=by omega
   ·repeat'(first|refine gU ?_|refine VIdx.mk _ rfl ?_|refine VOk.mk (by simp) ?_)<;>conv=>whnf
    exact VAgain.mk _ rfl _ (j1a rfl) ⟨1,by omega,by omega,rfl⟩
   ·repeat'(first|refine gU ?_|refine VIdx.mk _ rfl ?_|refine VOk.mk (by simp) ?_)<;>conv=>whnf
    exact VAgain.mk _ rfl _ (j1a rfl) ⟨2,by omega,by omega,rfl⟩
   ·repeat'(first|refine gU ?_|refine VIdx.mk _ rfl ?_|refine VOk.mk (by simp) ?_)<;>conv=>whnf
    exact VAgain.mk _ rfl _ (j1a rfl) ⟨3,by omega,by omega,rfl⟩
   ·repeat'(refine gU ?_)<;>conv=>whnf
    all_goals rfl
 ·refine⟨false,5,.inl rfl,?_⟩;have hg:=jqt (0+x1.length+x2.length+x3.length) (by omega) (by omega)
  have n1:¬((0:Int)+(x1.length:Int)<0):=by omega
  have n2:¬((0:Int)+(x1.length:Int)+(x2.length:Int)<0):=by omega
  have n3:¬((0:Int)+(x1.length:Int)+(x2.length:Int)+(x3.length:Int)<0):=by omega
  refine gR Tryz.func389 ?_;all_goals try conv=>whnf
  refine j04 (G:=Nat×Int) (fun g=>[(11,iv g.1),(3,iv g.2)]) (fun _=>_) (fun g=>(g.1=0∧g.2=0)∨(g.1=1∧g.2=0+x1.length)∨(g.1=2∧g.2=0+x1.length+x2.length)∨(g.1=3∧g.2=0+x1.length+x2.length+x3.length)) (fun g=>3-g.1) (0,0) (.inl ⟨rfl,rfl⟩) rfl rfl ?_
  rintro⟨i,q⟩ hi;dsimp only at hi⊢;rcases hi with⟨rfl,rfl⟩|⟨rfl,rfl⟩|⟨rfl,rfl⟩|⟨rfl,rfl⟩
  ·repeat'(first|refine gU ?_|refine VIdx.mk _ rfl ?_)<;>conv=>whnf
   exact VAgain.mk _ rfl _ (j1a rfl) ⟨(1,_),.inr (.inl ⟨rfl,rfl⟩),by dsimp only;omega,rfl⟩
  ·repeat'(first|refine gU ?_|refine VIdx.mk _ rfl ?_)<;>conv=>whnf
   exact VAgain.mk _ rfl _ (j1a rfl) ⟨(2,_),.inr (.inr (.inl ⟨rfl,rfl⟩)),by dsimp only;omega,rfl⟩
  ·repeat'(first|refine gU ?_|refine VIdx.mk _ rfl ?_)<;>conv=>whnf
   exact VAgain.mk _ rfl _ (j1a rfl) ⟨(3,_),.inr (.inr (.inr ⟨rfl,rfl⟩)),by dsimp only;omega,rfl⟩
  ·repeat'(refine gU ?_)<;>conv=>whnf
   refine j1d rfl (Finds.mono hg ?_);rintro _ _ ⟨rfl,rfl⟩;refine⟨rfl,?_⟩;refine j4w (.cons (j0o rfl) .nil) rfl ?_;all_goals try conv=>whnf
   refine j04 (G:=Nat) (fun i=>[(27,iv i),(6,.ms 0 (match i with
    |0=>0
    |1=>0+x1.length
    |2=>0+x1.length+x2.length
    |_=>0+x1.length+x2.length+x3.length))]) (fun i=>[.row false 25 5 (match i with
    |0=>[]
    |1=>[]++x1
    |2=>([]++x1)++x2
    |_=>(([]++x1)++x2)++x3)]) (fun i=>i≤3) (fun i=>3-i) 0 (by omega) rfl rfl ?_
   intro i hi;have hR:∀l:List PV,l.all (pur 6)=true→l.all (pur 8)=true:=fun l h=>p68 h
   obtain rfl|rfl|rfl|rfl:i=0∨i=1∨i=2∨i=3:=by omega
   ·cases x1 with
    |nil=>
     repeat'(first|refine gU ?_|refine VIdx.mk _ rfl ?_|refine VOk.mk (okz h1) ?_)<;>conv=>whnf
     exact VAgain.mk _ rfl _ (j1a rfl) ⟨1,by omega,by omega,rfl⟩
    |cons a r=>
     have hB:=hR _ p1;repeat'(first|refine gU ?_|refine VIdx.mk _ rfl ?_|refine VOk.mk (okz h1) ?_|refine VOk.mk (j0N (w:=80) (r:=140737488355328) rfl rfl rfl rfl rfl (by simp only[AC] at *;omega) (by simp only[AC] at *;omega)) ?_)<;>conv=>whnf
     exact VAgain.mk _ rfl _ (j1a rfl) ⟨1,by omega,by omega,rfl⟩
   ·have qA:([]++x1).length=0+x1.length:=by simp
    cases x2 with
    |nil=>
     repeat'(first|refine gU ?_|refine VIdx.mk _ rfl ?_|refine VOk.mk (okz h2) ?_|refine VOk.mk (j0N (w:=80) (r:=140737488355328) qA rfl rfl rfl rfl (by simp only[AC,AG] at *;omega) (by simp only[AC,AG] at *;omega)) ?_)<;>conv=>whnf
     refine VAgain.mk _ rfl _ (j1a rfl) ⟨2,by omega,by omega,?_⟩
     simp only[BF];rfl
    |cons a r=>
     repeat'(first|refine gU ?_|refine VIdx.mk _ rfl ?_|refine VOk.mk (okz h2) ?_|refine VOk.mk (j0N (w:=80) (r:=140737488355328) qA rfl rfl rfl rfl (by simp only[AC] at *;omega) (by simp only[AC] at *;omega)) ?_)<;>conv=>whnf
     exact VAgain.mk _ rfl _ (j1a rfl) ⟨2,by omega,by omega,rfl⟩
   ·have hA:([]++x1++x2).length=0+x1.length+x2.length:=by simp
    cases x3 with
    |nil=>
     repeat'(first|refine gU ?_|refine VIdx.mk _ rfl ?_|refine VOk.mk (okz h3) ?_|refine VOk.mk (j0N (w:=80) (r:=140737488355328) hA rfl rfl rfl rfl (by simp only[AC,AG] at *;omega) (by simp only[AC,AG] at *;omega)) ?_)<;>conv=>whnf
     refine VAgain.mk _ rfl _ (j1a rfl) ⟨3,by omega,by omega,?_⟩
     simp only[BF];rfl
    |cons a r=>
     repeat'(first|refine gU ?_|refine VIdx.mk _ rfl ?_|refine VOk.mk (okz h3) ?_|refine VOk.mk (j0N (w:=80) (r:=140737488355328) hA rfl rfl rfl rfl (by simp only[AC] at *;omega) (by simp only[AC] at *;omega)) ?_)<;>conv=>whnf
     exact VAgain.mk _ rfl _ (j1a rfl) ⟨3,by omega,by omega,rfl⟩
   ·have wA:([]++x1++x2++x3).length=0+x1.length+x2.length+x3.length:=by simp only[BV,AL];omega
    have gA:([]++x1++x2++x3).all (pur 6)=true:=by simp only[BV,DF,p1,p2,p3,CP]
    repeat'(refine gU ?_)<;>conv=>whnf
    refine j0m rfl (j03 (j0p rfl wA.symm gA) j0h) rfl ?_;simp only[BV,BZ]
open Go Go.Am Go.Gw
def jpX(h:Tm)(hv:PV)(hh:TmP h hv)(hs:shT h=true)(hk:h.kind=7)(args:List Tm)(b:Bool)(z:Nat)(xs:List PV)(hz:z=5∨xs=[])(qA:TmsP args xs)(hD:args.length≤2000):
  ∃w,OutP (appO (InstF (h.arg 2) [h.arg 1]) args) w∧Pf C1 367 [.cp hv.cells,.cp [.sl b z xs]] [w,bv (InstF (h.arg 2) [h.arg 1]).isSome]:=by
 obtain⟨k,n,s,ls,ts⟩:=h;obtain⟨a1,a2,a3,a4,a5,a6⟩:=j0w hs;simp only[Tm.kind] at hk;subst hk;have wA:ts.length=3:=by
  have:j0Y 7=3:=rfl;omega
 obtain⟨_,_,_,_,_,hb,gC,qB,hc,hy,wC,⟨rfl,rfl,rfl,rfl,rfl⟩,rfl,-,-,-,-,hB,hA,-,-,-⟩:=hh.open;obtain⟨v1,gB,h1⟩:=hA.at (getD_at (ts:=ts) (i:=2) (by omega))
 obtain⟨v0,wB,h0⟩:=hA.at (getD_at (ts:=ts) (i:=1) (by omega))
 have hI:=j7k _ v1 h1 [ts.getD 1 tz] true 5 [v0] (.inl rfl) ⟨v0,[],rfl,h0,rfl⟩ (by simp)
 have hlen:=qA.len;have e:(Tm.mk 7 n s ls ts).arg 2=ts.getD 2 tz:=rfl;have e':(Tm.mk 7 n s ls ts).arg 1=ts.getD 1 tz:=rfl;rw[e,e'];have hw:∀x,InstF (ts.getD 2 tz) [ts.getD 1 tz]=some x→TmW x:=fun x hx=>j9n (by simpa using h0.w) h1.w hx
 have ho:=jf0 hw fun a ha=>qA.ws a ha
 have ha:=j8r _ _ (j7M hw) args b z xs hz qA (by omega)
 rw[j5W] at hI;generalize InstF (ts.getD 2 tz) [ts.getD 1 tz]=o at *;obtain⟨k2,n2,s2,b2,z2,x2,c2,y2,ys2,qC⟩:=j06 (o.getD tz);rw[qC] at hI ha ho;obtain⟨⟨k3,n3,s3,b3,z3,x3,c3,y3,ys3,hC⟩,gA⟩:=ho;rw[hC] at ha gA;refine⟨_,⟨⟨k3,n3,s3,b3,z3,x3,c3,y3,ys3,rfl⟩,gA⟩,?_⟩;cases h1.c;cases h0.c;refine gR Tryz.func367 ?_;repeat'(first|refine gU ?_|refine VIdx.mk _ gB ?_|refine VIdx.mk _ wB ?_|refine gZ hB ?_|refine j01 hI fun _=>?_|refine gX ha ?_|apply gK)<;>conv=>whnf
 all_goals rfl
def errN(o:Except Int Tm):Int:=match o with
 | .ok _=>0
 | .error e=>e
def jsZ(o:Except Int Tm):errV o=[encT ((okO o).getD tz),iv (errN o)]:=by cases o<;>rfl
def jpL(E:Nv)(s:List UInt8)(bys:List Lv):decide (errN (j2X E s bys)=0)=(okO (j2X E s bys)).isSome:=by
 unfold j2X jcS;split
 ·rfl
 ·dsimp only;unfold jcp;split
  ·split
   ·unfold atF;split
    ·rfl
    ·split<;>rfl
   ·rfl
  ·rfl
def jch{F:En→Except Int Tm}(h:jcS E s F=.ok x):∃e,j0E E s=some e∧F e=.ok x:=by
 unfold jcS at h;split at h
 ·cases h
 ·rename_i e he;exact⟨e,he,h⟩
def j9f{E:Nv}{s:List UInt8}{bys:List Lv}{x:Tm}(h:j2X E s bys=.ok x):∃e,j0E E s=some e∧j1S e.val bys=some x:=by
 obtain⟨e,h1,h2⟩:=jch h;unfold jcp at h2;split at h2
 ·split at h2
  ·exact⟨e,h1,jfT h2⟩
  ·cases h2
 ·cases h2
def jhl{E:Nv}{s:List UInt8}{bys:List Lv}{x:Tm}(h:typeAt E s bys=.ok x):∃e,j0E E s=some e∧j1S e.ty bys=some x:=by
 obtain⟨e,h1,h2⟩:=jch h;unfold jiY at h2;split at h2
 ·exact⟨e,h1,jfT h2⟩
 ·cases h2
def EnP.tys{e:En}{v:PV}(h:EnP e v):TmW e.ty∧TmW e.val:=by
 obtain⟨tk,tn,ts,tb,tz',txs,tc,ty',tys,vk,vn,vs,vb,vz,vxs,vc,vy,vys,b,z,rfl,qA,hA,-⟩:=h;exact⟨qA.w,hA.w⟩
def NvP.entry(h:NvP E v)(he:j0E E s=some e):TmW e.ty∧TmW e.val∧j1y e=true:=by
 obtain⟨b,z,xs,rfl,hz,hx,hA⟩:=h;unfold j0E at he;split at he
 ·cases he
 ·obtain⟨w,hw,hP⟩:=hx.at he;exact⟨hP.tys.1,hP.tys.2,hA.right e (AE he)⟩
def jl6(E:Nv)(cs:List PV)(hE:NvP E (.cp cs))(tot:Int)(h:Tm)(hv:PV)(hh:TmP h hv)(hs:shT h=true)(hk:h.kind=3)(args:List Tm)(b:Bool)(z:Nat)(xs:List PV)(hz:z=5∨xs=[])(gA:TmsP args xs)(hD:args.length≤2000):
  ∃w,OutP (appO (okO (j2X E h.name h.levels)) args) w∧∀l,Fr 385 [.ci [.bp 0 0],.cp hv.cells,.cp [.sl b z xs]] cs tot l (.ret [w,bv (okO (j2X E h.name h.levels)).isSome]) l:=by
 obtain⟨k,n,s,ls,ts⟩:=h;obtain⟨a1,a2,a3,a4,a5,a6⟩:=j0w hs;simp only[Tm.kind] at hk;have wC:=a3 hk;obtain⟨_,_,_,_,_,hb,hB,qA,hc,hy,gC,⟨rfl,rfl,rfl,rfl,rfl⟩,rfl,gB,hA,-,-,qC,qB,-,-,-⟩:=hh.open;have hV:=jgj E (.cp cs) hE s ls hb hB qA gB hA (by omega)
 have e:(Tm.mk k n s ls ts).name=s:=rfl;have e':(Tm.mk k n s ls ts).levels=ls:=rfl;rw[e,e'];have hw:∀x,okO (j2X E s ls)=some x→TmW x:=fun x hx=>by
  cases hq:j2X E s ls with
  |error _=>rw[hq] at hx;cases hx
  |ok y=>
   rw[hq] at hx;cases hx;obtain⟨e,h1,h2⟩:=j9f hq;exact jb2 hA.ws (hE.entry h1).2.1 h2
 have ho:=jf0 hw fun a ha=>gA.ws a ha
 have ha:=j8r _ _ (j7M hw) args b z xs hz gA (by omega)
 have hn:=jpL E s ls;rw[jsZ] at hV;generalize okO (j2X E s ls)=o at *;generalize errN (j2X E s ls)=q at *;obtain⟨k2,n2,s2,b2,z2,x2,c2,y2,ys2,hC⟩:=j06 (o.getD tz);rw[hC] at hV ha ho;obtain⟨⟨k3,n3,s3,b3,z3,x3,c3,y3,ys3,wB⟩,wA⟩:=ho;rw[wB] at ha wA;refine⟨_,⟨⟨k3,n3,s3,b3,z3,x3,c3,y3,ys3,rfl⟩,wA⟩,fun l=>?_⟩
 refine gR Tryz.func385 ?_;repeat'(first|refine gU ?_|refine j01 hV fun _=>?_|refine gX ha ?_|apply gK)<;>conv=>whnf
 all_goals
  refine⟨?_,rfl⟩;rw[←hn];rfl
open Go Go.Am Go.Gw
def TmsP.take:∀{ts:List Tm}{xs:List PV}(i:Nat),TmsP ts xs→TmsP (ts.take i) (xs.take i)
 |ts,xs,0,h=>by simp[TmsP]
 |[],xs,i+1,h=>by
  simp only[TmsP] at h;subst h;simp[TmsP]
 |a::r,xs,i+1,h=>by
  simp only[TmsP] at h;obtain⟨v,xs',rfl,h1,h2⟩:=h;exact⟨v,xs'.take i,rfl,h1,TmsP.take i h2⟩
def TmsP.append:∀{ts us:List Tm}{xs ys:List PV},TmsP ts xs→TmsP us ys→TmsP (ts++us) (xs++ys)
 |[],us,xs,ys,h,h'=>by
  simp only[TmsP] at h;subst h;exact h'
 |a::r,us,xs,ys,h,h'=>by
  simp only[TmsP] at h;obtain⟨v,xs',rfl,h1,h2⟩:=h;exact⟨v,xs'++ys,rfl,h1,TmsP.append h2 h'⟩
def TmsP.pure6:∀{ts:List Tm}{xs:List PV},TmsP ts xs→xs.all (pur 6)=true
 |[],xs,h=>by
  simp only[TmsP] at h;subst h;rfl
 |a::r,xs,h=>by
  simp only[TmsP] at h;obtain⟨v,xs',rfl,h1,h2⟩:=h;obtain⟨k1,n1,s1,l1,t1,b1,z1,x1,c1,y1,ys1,rfl,rfl,-⟩:=h1.open;rw[BH,TmsP.pure6 h2];rfl
def jlz(fr mj:Nat)(args:List Tm)(fx:Nat)(fs:List Tm):List Tm:=args.take fr++(fs.drop fx++args.drop (mj+1))
def jon(k:En)(kv:PV)(hk:EnP k kv)(h:Tm)(hv:PV)(hh:TmP h hv)(hs:shT h=true)(hA:h.kind=3)(args:List Tm)(b:Bool)(z:Nat)(xs:List PV)(hz:z=5∨xs=[])(hB:TmsP args xs)(hG:args.length≤2000)(fs:List Tm)(b2:Bool)(z2:Nat)(ys:List PV)(qB:z2=5∨ys=[])(gB:TmsP fs ys)(qE:fs.length≤2000)
  (fr mj:Nat) (frI mjI:Int) (e1:frI=fr) (e2:mjI=mj) (gF:fr≤args.length) (hF:mj<args.length) (fx:Nat) (qC:k.fixd=fx) (wF:fx≤fs.length) :
  ∃w,OutP (appO (j1S k.val h.levels) (jlz fr mj args fx fs)) w∧Pf C1 388 [.cp kv.cells,.cp hv.cells,.cp [.sl b z xs],.cp [iv frI],.cp [.sl b2 z2 ys],.cp [iv mjI]] [w,bv (j1S k.val h.levels).isSome]:=by
 obtain⟨kd,n,s,ls,ts⟩:=h;obtain⟨a1,a2,a3,a4,a5,a6⟩:=j0w hs;simp only[Tm.kind] at hA;have kF:=a3 hA;obtain⟨_,_,_,_,_,hb,wC,wA,hc,hy,hD,⟨rfl,rfl,rfl,rfl,rfl⟩,rfl,wD,gA,-,-,wE,qD,-,-,-⟩:=hh.open;obtain⟨kind,pars,nm,ty,val,qF,fam,fixd,idx,flds,ctors⟩:=k;obtain⟨tk,tn,tts,tb,tz',txs,tc,ty',tys,vk,vn,vs,vb,vz,vxs,vc,vy,vys,b',z',rfl,gD,qA,-⟩:=hk;dsimp only at gD qA qC⊢;subst qC;have e:(Tm.mk kd n s ls ts).levels=ls:=rfl;rw[e];have hL:=jcW ls hb wC wA wD gA (by omega) val _ qA
 have hlen:=hB.len;have hlen2:=gB.len;have hw:∀x,j1S val ls=some x→TmW x:=fun x hx=>jb2 gA.ws qA.w hx
 have t1:TmsP (args.take fr) ((xs.take fr).drop 0):=hB.take fr;have t2:TmsP (fs.drop fx) ((ys.take ys.length).drop fx):=by
  rw[BT];exact gB.drop fx
 have t3:TmsP (args.drop (mj+1)) ((xs.take xs.length).drop (mj+1)):=by
  rw[BT];exact hB.drop (mj+1)
 have e2':mjI+1=Int.ofNat (mj+1):=by rw[e2];rfl
 have o1:(fr.ble xs.length&&Nat.ble 0 fr)=true:=by simp only[FS,AB];omega
 have o2:(ys.length.ble ys.length&&fx.ble ys.length)=true:=by simp only[FS,AB];omega
 have o3:(xs.length.ble xs.length&&(mj+1).ble xs.length)=true:=by simp only[FS,AB];omega
 have tt:=t1.append (t2.append t3);obtain⟨bb,zz,gC,hC⟩:=jl3 (b&&Nat.beq fr xs.length) (b2&&Nat.beq ys.length ys.length) (b&&Nat.beq xs.length xs.length) z z2 z ((xs.take fr).drop 0) ((ys.take ys.length).drop fx) ((xs.take xs.length).drop (mj+1)) (hz.imp id fun e=>by rw[e];simp) (qB.imp id fun e=>by rw[e];simp) (hz.imp id fun e=>by rw[e];simp) t1.pure6 t2.pure6 t3.pure6 (by simp;omega) (by simp;omega) (by simp;omega)
 have ho:=jf0 (ts:=jlz fr mj args fx fs) hw fun a ha=>tt.ws a ha
 have ha:=j8r _ _ (j7M hw) (jlz fr mj args fx fs) bb zz _ gC tt (by simp[jlz];omega)
 rw[j5W] at hL;generalize j1S val ls=o at *;obtain⟨k2,n2,s2,q2,y2,x2,c2,y2',ys2,kE⟩:=j06 (o.getD tz);rw[kE] at hL ha ho;obtain⟨⟨k3,n3,s3,q3,z3,x3,c3,y3,ys3,hE⟩,wB⟩:=ho;rw[hE] at ha wB;refine⟨_,⟨⟨k3,n3,s3,q3,z3,x3,c3,y3,ys3,rfl⟩,wB⟩,?_⟩;refine gR Tryz.func388 ?_;repeat'(first|refine gU ?_|refine gX hL ?_|refine j01 hC fun _=>?_|refine gZ hz ?_|refine gZ qB ?_|refine VNat.mk fr e1 ?_|refine VNat.mk (mj+1) e2' ?_|refine VOk.mk o1 ?_|refine VOk.mk o2 ?_|refine VOk.mk o3 ?_|refine j01 ha fun _=>?_|apply gK)<;>conv=>whnf
 all_goals rfl
def jhX(h:NvP E v)(s:List UInt8)(hk:((j0E E s).getD enz).kind=6∨((j0E E s).getD enz).kind=7):(0≤((j0E E s).getD enz).fixd∧((j0E E s).getD enz).fixd≤32)∧(0≤((j0E E s).getD enz).idx∧((j0E E s).getD enz).idx≤32)∧(0≤((j0E E s).getD enz).flds∧((j0E E s).getD enz).flds≤32):=by
 cases he:j0E E s with
 |none=>
  rw[he] at hk;simp[enz] at hk
 |some e=>
  rw[he] at hk;simp only[CF] at hk⊢;exact j5p (h.entry he).2.2 hk
def TmP.kind{k:Int}{r:List PV}(h:TmP t (.ag (iv k::r))):t.kind=k:=by
 obtain⟨k1,n1,s1,l1,t1,b1,z1,x1,c1,y1,ys1,rfl,e,-⟩:=h.open;cases e;rfl
def jtx{x y:PV}{a b:Bool}(h:a=b):AEnd.ret [x,y,bv a]=AEnd.ret [x,y,bv b]:=by rw[h]
def juT(o:Option (En×List Tm))(w a:PV):Prop:=(∃e,EnP e w)∧(∃b z xs,a=.sl b z xs∧(∀k fs,o=some (k,fs)→EnP k w∧(z=5∨xs=[])∧TmsP fs xs))
def jqf(E:Nv)(cs:List PV)(hE:NvP E (.cp cs))(tot l:Int)(t:Tm)(v:PV)(h:TmP t v)(hsz:sizT t≤2000)(ofs:List (List UInt8))(b:Bool)(z:Nat)(hz:z=1∨ofs=[])(wF:ofs.length≤1000000):
  ∃w a,juT (jbh E t ofs) w a∧Fr 387 [.bp 0 0,v,.sl b z (svs ofs)] cs tot l (.ret [w,a,bv (jbh E t ofs).isSome]) l:=by
 have qF:=ja1 t;have hS:=jb4 t v h (by omega)
 obtain⟨hF,wC⟩:=jrw t h.w;have gA:TmsP (j1i t) ((j1i t).map encT):=jaY fun a ha=>wC a (j3o.1 ha)
 have hG:(j1i t).length≤2000:=by simp[j1i];omega
 have wD:∃b z xs,j8y (j1i t)=.sl b z xs∧(z=5∨xs=[])∧TmsP (j1i t) xs:=by
  cases hc:j1i t with
  |nil=>exact⟨true,0,[],rfl,.inr rfl,by simp[TmsP]⟩
  |cons x r=>rw[←hc];exact⟨false,5,_,j1V (by rw[hc];simp),.inl rfl,gA⟩
 obtain⟨ab,az,axs,qE,kE,qA⟩:=wD;have wA:=qA.len;have hA:=jdZ (spF t).1.name ofs b z hz (by omega)
 obtain⟨dm,qC⟩:∃dm,dm=decide ((spF t).1.name∈ofs):=⟨_,rfl⟩;rw[←qC] at hA;have hC:dm=true↔(spF t).1.name∈ofs:=by rw[qC];exact decide_eq_true_iff
 clear qC;have hg:=jdf E (.cp cs) hE (spF t).1.name;have wB:=jhX hE (spF t).1.name;obtain⟨w0,hB,-⟩:=j6z E (.cp cs) hE (spF t).1.name;have wE:=j5H hB;have e0:jbh E t ofs=if(spF t).1.kind=3∧(spF t).1.name∈ofs then
  match j0E E (spF t).1.name with
  |none=>none
  |some e=>if e.kind=6∧¬e.val.kind=0∧((j1i t).length:Int)=e.fixd+e.flds then some (e,j1i t) else none
  else none:=rfl
 have e1:∀hc:(spF t).1.kind=3∧(spF t).1.name∈ofs,jbh E t ofs=if((j0E E (spF t).1.name).getD enz).kind=6∧¬((j0E E (spF t).1.name).getD enz).val.kind=0∧((j1i t).length:Int)=((j0E E (spF t).1.name).getD enz).fixd+((j0E E (spF t).1.name).getD enz).flds then some ((j0E E (spF t).1.name).getD enz,j1i t) else none:=fun hc=>by
  rw[e0,if_pos hc];cases j0E E (spF t).1.name with
  |none=>simp[enz]
  |some e=>rfl
 generalize(j0E E (spF t).1.name).getD enz=en at *;generalize gF:(spF t).1=hd at *;obtain⟨k2,n2,s2,ls2,ts2⟩:=hd;simp only[Tm.name,Tm.kind] at hA hg hC;obtain⟨b2,z2,x2,gD⟩:=j9z ls2;obtain⟨c2,y2,ys2,qD⟩:=j9A ts2;rw[j2O,gD,qD,qE] at hS;obtain⟨k1,n1,s1,l1,t1,b1,z1,x1,c1,y1,ys1,rfl,rfl,-⟩:=h.open
 by_cases hc:k2=3∧s2∈ofs
 ·have e1':=e1 hc;clear e1;obtain rfl:=hC.2 hc.2;obtain⟨rfl,-⟩:=hc;obtain⟨tk,tn,ts,tb,tz',txs,tc,ty',tys,vk,vn,vs,vb,vz,vxs,vc,vy,vys,b',z',qB,kF,gB,-⟩:=wE;have hD:=gB.kind;rw[qB] at hg;refine⟨.ag [iv en.kind,iv en.pars,sv en.nm,iv tk,iv tn,sv ts,.sl tb tz' txs,.sl tc ty' tys,iv vk,iv vn,sv vs,.sl vb vz vxs,.sl vc vy vys,iv en.ht,sv en.fam,iv en.fixd,iv en.idx,iv en.flds,.sl b' z' (svs en.ctors)],.sl ab az axs,⟨⟨en,qB▸j5H hB⟩,ab,az,axs,rfl,fun k fs hk=>?_⟩,?_⟩
  ·rw[e1'] at hk;split at hk
   ·cases hk;exact⟨qB▸j5H hB,kE,qA⟩
   ·cases hk
  ·have gC:(jbh E (.mk k1 n1 s1 l1 t1) ofs).isSome=(decide (en.kind=6)&&(decide (¬vk=0)&&decide ((axs.length:Int)=en.fixd+en.flds))):=by
    rw[e1',hD,wA];split
    ·rename_i hc;simp[hc.1,hc.2.1,hc.2.2]
    ·rename_i hc
     by_cases q1:en.kind=6<;>by_cases q2:vk=0<;>by_cases q3:((j1i (.mk k1 n1 s1 l1 t1)).length:Int)=en.fixd+en.flds<;>simp_all
   rw[gC];clear gC e0 e1';refine gR Tryz.func387 ?_;repeat'(first|refine gU ?_|apply gE<;>intro h|refine gX hS ?_|refine gX hA ?_|refine j01 hg fun _=>?_|apply gK)<;>conv=>whnf
   all_goals
    refine⟨jtx ?_,rfl⟩;clear hS hA hg hB wB
    simp_all
 ·have e1:jbh E (.mk k1 n1 s1 l1 t1) ofs=none:=by rw[e0];exact if_neg hc
  rw[e1];refine⟨.ag zEn,.sl true 0 [],⟨⟨enz,jnK⟩,true,0,[],rfl,fun k fs hk=>by cases hk⟩,?_⟩
  refine gR Tryz.func387 ?_;repeat'(first|refine gU ?_|apply gE<;>intro h|apply gM<;>intro h|refine gX hS ?_|refine gX hA ?_|apply gK)<;>conv=>whnf
  all_goals first
   |exact⟨rfl,rfl⟩
   |exact absurd ⟨by assumption,hC.1 (by assumption)⟩ hc
open Go Go.Am Go.Gw
def FrT(f:FuncId)(args cs:List PV)(tot l:Int)(r:Except Int Tm)(l':Int):Prop:=match r with
 | .ok x=>∃w,TmP x w∧Fr f args cs tot l (.ret [w]) l'
 | .error e=>Fr f args cs tot l (.pan (j2c e)) l'
def jfB(cs:List PV)(tot:Int)(hd:Tm→M Tm):Prop:=∀(t:Tm) (v:PV),TmP t v→shT t=true→sizT t≤2000→∀l r l',0≤l→l≤tot→hd t l=some (r,l')→(∀x,r=.ok x→shT x=true∧sizT x≤2000)∧FrT 236 [.bp 0 0,v] cs tot l r l'
def RdxP(cs:List PV)(tot:Int)(rd:Rdx)(v:PV):Prop:=match rd with
 |none=>v=.ag [iv 0,.sc .nilFunc]
 |some (k,o)=>¬k=0∧(∀x,o=some x→shT x=true)∧∃g cl w,v=.ag [iv k,.fn g [] cl]∧OutP o w∧callable C1.P g=true ∧
  ((((∃a b,cl=[.cp a,.cp b])∨∃a b c d e f,cl=[.cp a,.cp b,.cp c,.cp d,.cp e,.cp f])∧Pf C1 g cl [w,bv o.isSome]) ∨
   (g=385∧(∃a b,cl=[.ci [.bp 0 0],.cp a,.cp b])∧∀l,Fr g cl cs tot l (.ret [w,bv o.isSome]) l))
def FrR(f:FuncId)(args cs:List PV)(tot l:Int)(r:Except Int Rdx)(l':Int):Prop:=match r with
 | .ok rd=>∃w,RdxP cs tot rd w∧Fr f args cs tot l (.ret [w]) l'
 | .error e=>Fr f args cs tot l (.pan (j2c e)) l'
def jpP{C:Cfg}{k0:Nat}{rs':List PV}{st':Sto}(hk:C.keep f=false)(hp:pubL C rs st=some (rs',st'))(hr:rs'.all (pur 8)=true)(h0:(st'.take k0).all (soIn fun i=>Nat.blt i k0)=true)(k:Q (.ret rs') (st'.take k0)):VRet C f k0 rs st Q:=by
 refine⟨rs',st'.take k0,?_,k⟩;simp only[aret,hk,hp,hr,h0];rfl
def jq9(h:Tm)(hv:PV)(hh:TmP h hv)(b:Bool)(z:Nat)(xs:List PV):Pf C1 341 [hv,.sl b z xs] [.ag [iv 1,.fn 366 [] [.cp hv.cells,.cp [.sl b z xs]]]]:=by
 obtain⟨k1,n1,s1,l1,t1,b1,z1,x1,c1,y1,ys1,rfl,rfl,-⟩:=hh.open;refine gR Tryz.func341 ?_;repeat'(refine gU ?_)<;>conv=>whnf
 exact j0m rfl rfl rfl rfl
def jrP(h:Tm)(hv:PV)(hh:TmP h hv)(b:Bool)(z:Nat)(xs:List PV):Pf C1 342 [hv,.sl b z xs] [.ag [iv 2,.fn 367 [] [.cp hv.cells,.cp [.sl b z xs]]]]:=by
 obtain⟨k1,n1,s1,l1,t1,b1,z1,x1,c1,y1,ys1,rfl,rfl,-⟩:=hh.open;refine gR Tryz.func342 ?_;repeat'(refine gU ?_)<;>conv=>whnf
 exact j0m rfl rfl rfl rfl
def jny(cs:List PV)(tot l:Int)(h:Tm)(hv:PV)(hh:TmP h hv)(b:Bool)(z:Nat)(xs:List PV):Fr 369 [.bp 0 0,hv,.sl b z xs] cs tot l (.ret [.ag [iv 3,.fn 385 [] [.ci [.bp 0 0],.cp hv.cells,.cp [.sl b z xs]]]]) l:=by
 obtain⟨k1,n1,s1,l1,t1,b1,z1,x1,c1,y1,ys1,rfl,rfl,-⟩:=hh.open;refine gR Tryz.func369 ?_;repeat'(refine gU ?_)<;>conv=>whnf
 refine j1g (rs1:=[.ag [iv 3,.fn 385 [] [.ci [.bp 0 0],.cp [iv k1,iv n1,sv s1,.sl b1 z1 x1,.sl c1 y1 ys1],.cp [.sl b z xs]]]]) (st1:=[runB cs tot l,.frz [.bp 0 0],.frz [iv k1,iv n1,sv s1,.sl b1 z1 x1,.sl c1 y1 ys1],.frz [.sl b z xs],.box 309 [iv 3,.fn 385 [] [.bp 1 0,.bp 2 0,.bp 3 0]]]) (st2:=[runB cs tot l]) (st3:=[runB cs tot l]) (rs2:=[.ag [iv 3,.fn 385 [] [.ci [.bp 0 0],.cp [iv k1,iv n1,sv s1,.sl b1 z1 x1,.sl c1 y1 ys1],.cp [.sl b z xs]]]]) (.inr ⟨rfl,?_⟩) ?_ ?_ ?_ ⟨rfl,rfl⟩
 ·rfl
 ·rfl
 ·rfl
 ·rfl
def jee(h:appO o ts=some x)(ho:∀y,o=some y→shT y=true)(hA:∀a∈ts,shT a=true):shT x=true:=by
 unfold appO at h;split at h
 ·cases h
 ·cases h;exact jhE _ _ (ho _ rfl) hA
def jlr(h:j1y e=true)(hk:e.kind=7):∃F M:Nat,j4X e=F∧j4X e+e.idx=M∧F≤M:=by
 obtain⟨h1,h2,h3⟩:=j5p h (.inr hk);refine⟨(j4X e).toNat,(j4X e+e.idx).toNat,?_,?_,?_⟩<;>unfold j4X at * <;>omega
def j7v(cs:List PV)(tot:Int):RdxP cs tot none (.ag [iv 0,.sc .nilFunc]):=rfl
def jhS{ofs:List (List UInt8)}{k:En}{fs:List Tm}(h:jbh E t ofs=some (k,fs)):j0E E (spF t).1.name=some k∧k.kind=6∧fs=j1i t∧(fs.length:Int)=k.fixd+k.flds:=by
 unfold jbh at h;split at h
 ·split at h
  ·cases h
  ·rename_i e he;split at h
   ·rename_i hc;cases h;exact⟨he,hc.1,rfl,hc.2.2⟩
   ·cases h
 ·cases h
def jqC(cs:List PV)(tot l' kd n:Int)(s:List UInt8)(b1:Bool)(z1:Nat)(x1:List PV)(c1':Bool)(y1:Nat)(ys1 es:List PV)(b:Bool)(z:Nat)(xs:List PV)(fr mj:Int)(en:En)(a1 a2:Int)(a3:List UInt8)(a4:Bool)(a5:Nat)(a6:List PV)(a7:Bool)(a8:Nat)(a9:List PV)(a10 a11:Int)(a12:List UInt8)(a13:Bool)(a14:Nat)(a15:List PV)(a16:Bool)(a17:Nat)(a18:List PV)(a19:Bool)(a20:Nat)(bb:Bool)(zz:Nat)(ys:List PV):
  pubL C1 [.ag [iv 4,.fn 388 [] [.bp 7 0,.bp 1 0,.bp 3 0,.bp 5 0,.bp 8 0,.bp 6 0]]] [runB cs tot l',.box 25 [iv kd,iv n,sv s,.sl b1 z1 x1,.sl c1' y1 ys1],.box 51 es,.box 22 [.sl b z xs],.box 309 [iv 4,.fn 388 [] [.bp 7 0,.bp 1 0,.bp 3 0,.bp 5 0,.bp 8 0,.bp 6 0]],.box 3 [iv fr],.box 3 [iv mj],.box 51 [iv en.kind,iv en.pars,sv en.nm,iv a1,iv a2,sv a3,.sl a4 a5 a6,.sl a7 a8 a9,iv a10,iv a11,sv a12,.sl a13 a14 a15,.sl a16 a17 a18,iv en.ht,sv en.fam,iv en.fixd,iv en.idx,iv en.flds,.sl a19 a20 (svs en.ctors)],.box 22 [.sl bb zz ys]]=some ([.ag [iv 4,.fn 388 [] [.cp [iv en.kind,iv en.pars,sv en.nm,iv a1,iv a2,sv a3,.sl a4 a5 a6,.sl a7 a8 a9,iv a10,iv a11,sv a12,.sl a13 a14 a15,.sl a16 a17 a18,iv en.ht,sv en.fam,iv en.fixd,iv en.idx,iv en.flds,.sl a19 a20 (svs en.ctors)],.cp [iv kd,iv n,sv s,.sl b1 z1 x1,.sl c1' y1 ys1],.cp [.sl b z xs],.cp [iv fr],.cp [.sl bb zz ys],.cp [iv mj]]]],[runB cs tot l',.frz [iv kd,iv n,sv s,.sl b1 z1 x1,.sl c1' y1 ys1],.box 51 es,.frz [.sl b z xs],.box 309 [iv 4,.fn 388 [] [.bp 7 0,.bp 1 0,.bp 3 0,.bp 5 0,.bp 8 0,.bp 6 0]],.frz [iv fr],.frz [iv mj],.frz [iv en.kind,iv en.pars,sv en.nm,iv a1,iv a2,sv a3,.sl a4 a5 a6,.sl a7 a8 a9,iv a10,iv a11,sv a12,.sl a13 a14 a15,.sl a16 a17 a18,iv en.ht,sv en.fam,iv en.fixd,iv en.idx,iv en.flds,.sl a19 a20 (svs en.ctors)],.frz [.sl bb zz ys]]):=by rfl
def jqB(E:Nv)(cs:List PV)(hE:NvP E (.cp cs))(tot:Int)(hd:Tm→M Tm)(hH:jfB cs tot hd)(h:Tm)(hv:PV)(hh:TmP h hv)(hs:shT h=true)(hk:h.kind=3)(e:En)(ev:PV)(he:EnP e ev)(hr:j1y e=true)(qC:e.kind=7)
  (args:List Tm) (b:Bool) (z:Nat) (xs:List PV) (hz:z=5∨xs=[]) (gB:TmsP args xs) (wG:args.length≤2000) (gA:∀a∈args,shT a=true) (hsz:∀a∈args,sizT a≤2000) (l:Int) (r:Except Int Rdx) (l':Int) (h0:0≤l) (h1:l≤tot) (hx:jik E hd h e args l=some (r,l')) :
  FrR 370 [.bp 0 0,hv,ev,.sl b z xs] cs tot l r l':=by
 obtain⟨F,Mj,hF,hM,hI⟩:=jlr hr qC;have hlen:=gB.len;unfold jik at hx;rw[hM] at hx;obtain⟨kd,n,s,ls,ts⟩:=h;obtain⟨k1,n1,s1,l1,t1,b1,z1,x1,c1',y1,ys1,⟨rfl,rfl,rfl,rfl,rfl⟩,rfl,-⟩:=hh.open;have kG:=hh;obtain⟨wF,gF,qF⟩:=j5p hr (.inr qC);have wH:=he;obtain⟨kind,pars,nm,ty,val,wB,fam,fixd,idx,flds,ctors⟩:=e;obtain⟨tk,tn,tts,tb,tz',txs,tc,ty',tys,vk,vn,vs,vb,vz,vxs,vc,vy,vys,b',z',rfl,gH,wE,wC,-,-,gD,-⟩:=he;have qH:fixd+1+(ctors.length:Int)=F:=hF;have kH:fixd+1+(ctors.length:Int)+idx=Mj:=hM;dsimp only at wF gF qF wC gD qC hx⊢;have qA:(svs ctors).length=ctors.length:=by simp
 have qB:z'=1∨ctors=[]:=wC.imp (·.1) (·.1)
 by_cases c1:(args.length:Int)≤(Mj:Int)
 ·rw[if_pos c1] at hx;cases hx;refine⟨_,j7v cs tot,?_⟩;refine gR Tryz.func370 ?_;repeat'(first|refine gU ?_|apply gE<;>intro h)<;>conv=>whnf
  all_goals exact gJ
 ·rw[if_neg c1] at hx;have hB:Mj<args.length:=by omega
  have hA:args.getD Mj tz∈args:=by
   rw[AQ,AA hB];exact DH hB
  obtain⟨av,gC,ha⟩:=gB.at (getD_at (ts:=args) (i:=Mj) hB);have eM:(Mj:Int).toNat=Mj:=by simp
  rw[eM] at hx;rcases j0b hx with⟨er,q1,rfl⟩|⟨x,l1,q1,q2⟩
  ·obtain⟨-,hw⟩:=hH _ av ha (gA _ hA) (hsz _ hA) l _ l' h0 h1 q1;have hw:Fr 236 [.bp 0 0,av] cs tot l (.pan (j2c er)) l':=hw;show Fr _ _ _ _ _ (.pan (j2c er)) l'
   cases ha.c;refine gR Tryz.func370 ?_;repeat'(first|refine gU ?_|apply gE<;>intro h|refine VIdx.mk _ gC ?_|refine gZ hz ?_|refine VNat.mk Mj (by simp only[FM];omega) ?_|refine gW hw ?_|apply gK)<;>conv=>whnf
   all_goals exact gJ
  ·obtain⟨qE,w,hw,hf⟩:=hH _ av ha (gA _ hA) (hsz _ hA) l _ l1 h0 h1 q1;obtain⟨kF,kE⟩:=qE x rfl;obtain⟨w2,a,⟨⟨en,qD⟩,bb,zz,ys,rfl,hC⟩,wA⟩:=jqf E cs hE tot l1 x w hw kE ctors b' z' qB gD;cases ha.c;cases hw.c;cases hO:jbh E x ctors with
   |none=>
    rw[hO] at q2 wA;cases q2;refine⟨_,j7v cs tot,?_⟩;obtain⟨a1,a2,a3,a4,a5,a6,a7,a8,a9,a10,a11,a12,a13,a14,a15,a16,a17,a18,a19,a20,rfl,-⟩:=qD;refine gR Tryz.func370 ?_;repeat'(first|refine gU ?_|apply gE<;>intro h|refine VIdx.mk _ gC ?_|refine gZ hz ?_|refine VNat.mk Mj (by simp only[FM];omega) ?_|refine gW hf ?_|refine gW wA ?_|apply gK)<;>conv=>whnf
    all_goals exact gJ
   |some p=>
    obtain⟨kn,fs⟩:=p;rw[hO] at q2 wA;cases q2;obtain⟨hG,wD,qG⟩:=hC kn fs hO;obtain⟨p1,p2,p3,p4⟩:=jhS hO;obtain⟨g1,g2,g3⟩:=j5p (hE.entry p1).2.2 (.inl p2);obtain⟨fx,hD⟩:∃fx:Nat,kn.fixd=fx:=⟨kn.fixd.toNat,by omega⟩
    have gG:fs.length≤2000:=by
     rw[p3];have:=(ja1 x).1;simp[j1i];omega
    obtain⟨wo,ho,hi⟩:=jon kn w2 hG _ _ kG hs hk args b z xs hz gB wG fs bb zz ys wD qG gG F Mj (fixd+1+((svs ctors).length:Int)) (fixd+1+((svs ctors).length:Int)+idx) (by rw[qA];exact qH) (by rw[qA];exact kH) (by omega) hB fx hD (by omega)
    have eL:jlz F Mj args fx fs=args.take (j4X ⟨kind,pars,nm,ty,val,wB,fam,fixd,idx,flds,ctors⟩).toNat++(fs.drop kn.fixd.toNat++args.drop ((Mj:Int)+1).toNat):=by
     unfold jlz;rw[hD,hF];have:((Mj:Int)+1).toNat=Mj+1:=by omega
     rw[this];simp
    refine⟨.ag [iv 4,.fn 388 [] [.cp w2.cells,.cp [iv kd,iv n,sv s,.sl b1 z1 x1,.sl c1' y1 ys1],.cp [.sl b z xs],.cp [iv (fixd+1+((svs ctors).length:Int))],.cp [.sl bb zz ys],.cp [iv (fixd+1+((svs ctors).length:Int)+idx)]]],⟨by omega,fun y hy=>?_,_,_,wo,rfl,?_,rfl,.inl ⟨.inr ⟨_,_,_,_,_,_,rfl⟩,?_⟩⟩,?_⟩
    ·refine jee hy (fun y hy=>j9o hy) fun a ha=>?_
     rcases BJ.1 ha with ha|ha
     ·exact gA a (GT ha)
     ·rcases BJ.1 ha with ha|ha
      ·rw[p3] at ha;exact(jku x kF).2.1 a (j3o.1 (EU ha))
      ·exact gA a (EU ha)
    ·rw[←eL];exact ho
    ·rw[j8q];exact hi
    ·obtain⟨a1,a2,a3,a4,a5,a6,a7,a8,a9,a10,a11,a12,a13,a14,a15,a16,a17,a18,a19,a20,rfl,-⟩:=qD;refine gR Tryz.func370 ?_;repeat'(first|refine gU ?_|apply gE<;>intro h|refine VIdx.mk _ gC ?_|refine gZ hz ?_|refine VNat.mk Mj (by simp only[FM];omega) ?_|refine gW hf ?_|refine gW wA ?_|apply gK)<;>conv=>whnf
     all_goals first|(exfalso;omega)|skip
     refine(show VRet C1 370 1 [.ag [iv 4,.fn 388 [] [.bp 7 0,.bp 1 0,.bp 3 0,.bp 5 0,.bp 8 0,.bp 6 0]]] [runB cs tot l',.box 25 [iv kd,iv n,sv s,.sl b1 z1 x1,.sl c1' y1 ys1],.box 51 [iv kind,iv pars,sv nm,iv tk,iv tn,sv tts,.sl tb tz' txs,.sl tc ty' tys,iv vk,iv vn,sv vs,.sl vb vz vxs,.sl vc vy vys,iv wB,sv fam,iv fixd,iv idx,iv flds,.sl b' z' (svs ctors)],.box 22 [.sl b z xs],.box 309 [iv 4,.fn 388 [] [.bp 7 0,.bp 1 0,.bp 3 0,.bp 5 0,.bp 8 0,.bp 6 0]],.box 3 [iv (fixd+1+((svs ctors).length:Int))],.box 3 [iv (fixd+1+((svs ctors).length:Int)+idx)],.box 51 [iv en.kind,iv en.pars,sv en.nm,iv a1,iv a2,sv a3,.sl a4 a5 a6,.sl a7 a8 a9,iv a10,iv a11,sv a12,.sl a13 a14 a15,.sl a16 a17 a18,iv en.ht,sv en.fam,iv en.fixd,iv en.idx,iv en.flds,.sl a19 a20 (svs en.ctors)],.box 22 [.sl bb zz ys]] _ from ?_)
     exact jpP rfl (jqC cs tot l' kd n s b1 z1 x1 c1' y1 ys1 [iv kind,iv pars,sv nm,iv tk,iv tn,sv tts,.sl tb tz' txs,.sl tc ty' tys,iv vk,iv vn,sv vs,.sl vb vz vxs,.sl vc vy vys,iv wB,sv fam,iv fixd,iv idx,iv flds,.sl b' z' (svs ctors)] b z xs (fixd+1+((svs ctors).length:Int)) (fixd+1+((svs ctors).length:Int)+idx) en a1 a2 a3 a4 a5 a6 a7 a8 a9 a10 a11 a12 a13 a14 a15 a16 a17 a18 a19 a20 bb zz ys) rfl rfl ⟨rfl,rfl⟩
open Go Go.Am Go.Gw
def jfy(hk:C1.keep f=false)(hp:pubL C1 rs st=some (rs,st))(hn:rs.all (pur 8)=false)(hg:gc 1 (rs.map fun r=>(0,r)) st=[runB cs tot l])(k:Q (.ret rs) [runB cs tot l]):VRet C1 f 1 rs st Q:=
 j1g (.inr ⟨hk,hp⟩) (by rw[hn];rfl) hg rfl k
def jmD(E:Nv)(cs:List PV)(hE:NvP E (.cp cs))(tot:Int)(hd:Tm→M Tm)(hH:jfB cs tot hd)(h:Tm)(hv:PV)(hh:TmP h hv)(hs:shT h=true)(hk:h.kind=3)
  (args:List Tm) (b:Bool) (z:Nat) (xs:List PV) (hz:z=5∨xs=[]) (hC:TmsP args xs) (wC:args.length≤2000) (gC:∀a∈args,shT a=true) (hsz:∀a∈args,sizT a≤2000) (l:Int) (r:Except Int Rdx) (l':Int) (h0:0≤l) (h1:l≤tot) (hx:j2o E hd h args l=some (r,l')) :
  FrR 343 [.bp 0 0,hv,.sl b z xs] cs tot l r l':=by
 have hg:=jdf E (.cp cs) hE h.name;obtain⟨w0,qC,-⟩:=j6z E (.cp cs) hE h.name;have gA:=j5H qC;obtain⟨wd,wA,qB⟩:=jl6 E cs hE tot h hv hh hs hk args b z xs hz hC wC;have wB:=jny cs tot l h hv hh b z xs;have hA:=fun e ev he hr qD=>jqB E cs hE tot hd hH h hv hh hs hk e ev he hr qD args b z xs hz hC wC gC hsz l r l' h0 h1
 have qA:=fun x=>@j9f E h.name h.levels x
 unfold j2o at hx;obtain⟨kd,n,s,ls,ts⟩:=h;obtain⟨k1,n1,s1,l1,t1,b1,z1,x1,c1',y1,ys1,⟨rfl,rfl,rfl,rfl,rfl⟩,rfl,-,hB,-⟩:=hh.open;have gD:=hB.len;have e1:(Tm.mk kd n s ls ts).name=s:=rfl;have e2:(Tm.mk kd n s ls ts).levels=ls:=rfl;rw[e1] at hg qC gA wA qB qA hx;rw[e2] at wA qB qA hx;cases gB:j0E E s with
 |none=>
  rw[gB] at hx hg gA;cases hx;refine⟨_,j7v cs tot,?_⟩;obtain⟨a1,a2,a3,a4,a5,a6,a7,a8,a9,a10,a11,a12,a13,a14,a15,a16,a17,a18,a19,a20,hq,-⟩:=gA;rw[hq] at hg;refine gR Tryz.func343 ?_;repeat'(first|refine gU ?_|refine j01 hg fun _=>?_|apply gK)<;>conv=>whnf
  all_goals exact gJ
 |some e=>
  have hD:=(hE.entry gB).2.2;rw[gB] at hx hg gA;simp only[CF,Option.isSome_some] at hg gA;have hA:=hA e (encE e) gA hD;obtain⟨a1,a2,a3,a4,a5,a6,a7,a8,a9,a10,a11,a12,a13,a14,a15,a16,a17,a18,a19,a20,hq,-⟩:=gA;rw[hq] at hg hA;dsimp only at hx
  by_cases c1:(ls.length:Int)=e.pars
  ·rw[if_neg (by simpa using c1)] at hx
   by_cases c2:e.kind=2
   ·rw[if_pos c2] at hx;cases hx;refine⟨.ag [iv 3,.fn 385 [] [.ci [.bp 0 0],.cp (PV.ag [iv kd,iv n,sv s,.sl b1 z1 x1,.sl c1' y1 ys1]).cells,.cp [.sl b z xs]]],⟨by omega,fun y hy=>?_,_,_,wd,rfl,wA,rfl,.inr ⟨rfl,⟨_,_,rfl⟩,?_⟩⟩,?_⟩
    ·refine jee hy (fun y hy=>?_) gC
     cases hv:j2X E s ls with
     |error _=>rw[hv] at hy;cases hy
     |ok u=>
      rw[hv] at hy;cases hy;obtain⟨e',-,h2⟩:=qA _ hv;exact j9o h2
    ·intro l;rw[j8q];exact qB l
    ·refine gR Tryz.func343 ?_;repeat'(first|refine gU ?_|apply gE<;>intro h|refine j01 hg fun _=>?_|refine gW wB ?_|apply gK)<;>conv=>whnf
     all_goals first|(exfalso;omega)|skip
     refine(show VRet C1 343 1 [.ag [iv 3,.fn 385 [] [.ci [.bp 0 0],.cp [iv kd,iv n,sv s,.sl b1 z1 x1,.sl c1' y1 ys1],.cp [.sl b z xs]]]] [runB cs tot l,.box 25 [iv kd,iv n,sv s,.sl b1 z1 x1,.sl c1' y1 ys1],.box 309 [iv 3,.fn 385 [] [.ci [.bp 0 0],.cp [iv kd,iv n,sv s,.sl b1 z1 x1,.sl c1' y1 ys1],.cp [.sl b z xs]]],.box 51 [iv e.kind,iv e.pars,sv e.nm,iv a1,iv a2,sv a3,.sl a4 a5 a6,.sl a7 a8 a9,iv a10,iv a11,sv a12,.sl a13 a14 a15,.sl a16 a17 a18,iv e.ht,sv e.fam,iv e.fixd,iv e.idx,iv e.flds,.sl a19 a20 (svs e.ctors)]] _ from ?_)
     exact jfy rfl rfl rfl rfl ⟨rfl,rfl⟩
   ·rw[if_neg c2] at hx
    by_cases c3:e.kind=7
    ·rw[if_pos c3] at hx;have hA:=hA c3 hx;cases r with
     |error er=>
      have hA:Fr 370 _ cs tot l (.pan (j2c er)) l':=hA;show Fr _ _ _ _ _ (.pan (j2c er)) l'
      refine gR Tryz.func343 ?_;repeat'(first|refine gU ?_|apply gE<;>intro h|refine j01 hg fun _=>?_|refine gW hA ?_|apply gK)<;>conv=>whnf
      all_goals exact gJ
     |ok rd=>
      obtain⟨w,hw,hf⟩:=hA;refine⟨w,hw,?_⟩;cases rd with
      |none=>
       obtain rfl:w=.ag [iv 0,.sc .nilFunc]:=hw;refine gR Tryz.func343 ?_;repeat'(first|refine gU ?_|apply gE<;>intro h|refine j01 hg fun _=>?_|refine gW hf ?_|apply gK)<;>conv=>whnf
       all_goals exact gJ
      |some p=>
       obtain⟨kk,o⟩:=p;obtain⟨wD,-,g,cl,wo,rfl,ho,kE,⟨⟨a',b',rfl⟩|⟨a',b',c',d',e',f',rfl⟩,-⟩|⟨rfl,⟨a',b',rfl⟩,-⟩⟩:=hw
       ·refine gR Tryz.func343 ?_;repeat'(first|refine gU ?_|apply gE<;>intro h|refine j01 hg fun _=>?_|refine gW hf ?_|apply gK)<;>conv=>whnf
        all_goals exact gJ
       ·refine gR Tryz.func343 ?_;repeat'(first|refine gU ?_|apply gE<;>intro h|refine j01 hg fun _=>?_|refine gW hf ?_|apply gK)<;>conv=>whnf
        all_goals exact gJ
       ·refine gR Tryz.func343 ?_;repeat'(first|refine gU ?_|apply gE<;>intro h|refine j01 hg fun _=>?_|refine gW hf ?_|apply gK)<;>conv=>whnf
        all_goals first|(exfalso;omega)|skip
        refine(show VRet C1 343 1 [.ag [iv kk,.fn 385 [] [.ci [.bp 0 0],.cp a',.cp b']]] [runB cs tot l',.box 25 [iv kd,iv n,sv s,.sl b1 z1 x1,.sl c1' y1 ys1],.box 309 [iv kk,.fn 385 [] [.ci [.bp 0 0],.cp a',.cp b']],.box 51 [iv e.kind,iv e.pars,sv e.nm,iv a1,iv a2,sv a3,.sl a4 a5 a6,.sl a7 a8 a9,iv a10,iv a11,sv a12,.sl a13 a14 a15,.sl a16 a17 a18,iv e.ht,sv e.fam,iv e.fixd,iv e.idx,iv e.flds,.sl a19 a20 (svs e.ctors)]] _ from ?_)
        exact jfy rfl rfl rfl rfl ⟨rfl,rfl⟩
    ·rw[if_neg c3] at hx;cases hx;refine⟨_,j7v cs tot,?_⟩;refine gR Tryz.func343 ?_;repeat'(first|refine gU ?_|apply gE<;>intro h|refine j01 hg fun _=>?_|apply gK)<;>conv=>whnf
     all_goals exact gJ
  ·rw[if_pos (by simpa using c1)] at hx
   cases hx;refine⟨_,j7v cs tot,?_⟩;refine gR Tryz.func343 ?_;repeat'(first|refine gU ?_|apply gE<;>intro h|refine j01 hg fun _=>?_|apply gK)<;>conv=>whnf
   all_goals exact gJ
