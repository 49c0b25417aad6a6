/- Three rows of terms as one (slices.Concat). -/
import Derived.Test.YtbnodhcijeaceaaGreatDoorZKt
set_option linter.all false
set_option maxHeartbeats 4000000
set_option maxRecDepth 100000
namespace Go.Proofs.YtbnodhcijeaceaaGreatDoor
open Go Go.Am Go.Gw
theorem jj7:C1.nat 393=some jkV:=rfl
theorem jpH(n:Int)(h0:0<n)(hn:n≤1000000):Finds C1 393 [.sl true 0 [],iv n] [] fun r st=>r=.ret [.ms 0 0]∧st=[.row false 25 5 []]:=by
 have hg:jkV [.sl true 0 [],iv n] []=some (.ret [.ms 0 0],[.row false 25 5 []]):=by
  simp only[jkV,iv,decide_eq_true h0,decide_eq_true hn,Bool.and_self]
 refine⟨_,_,⟨rfl,rfl⟩,1,fun k hk=>?_⟩
 obtain⟨q,rfl⟩:∃q,k=q+1:=⟨k-1,by omega⟩
 show j5Q C1 (ev C1 q) 393 [.sl true 0 [],iv n] []=_
 simp only[j5Q,jj7,hg]
theorem jnm:Pf C1 393 [.sl true 0 [],iv 0] [.sl true 0 []]:=by
 refine⟨_,[],rfl,1,fun k hk=>?_⟩
 obtain⟨q,rfl⟩:∃q,k=q+1:=⟨k-1,by omega⟩
 show j5Q C1 (ev C1 q) 393 [.sl true 0 [],iv 0] []=_
 simp only[j5Q,jj7];rfl
theorem okz{z:Nat}{xs:List PV}(h:z=5∨xs=[]):(true&&(Nat.beq 5 z||xs.isEmpty))=true:=by
 rcases h with rfl|rfl<;>simp
theorem jkt(b1 b2 b3:Bool)(z1 z2 z3:Nat)(x1 x2 x3:List PV)(h1:z1=5∨x1=[])(h2:z2=5∨x2=[])(h3:z3=5∨x3=[])(p1:x1.all (pur 6)=true)(p2:x2.all (pur 6)=true)(p3:x3.all (pur 6)=true)(l1:x1.length≤10000)(l2:x2.length≤10000)(l3:x3.length≤10000):
  ∃b z,(z=5∨x1++(x2++x3)=[])∧Pf C1 389 [.sl true 1 [.sl b1 z1 x1,.sl b2 z2 x2,.sl b3 z3 x3]] [.sl b z (x1++(x2++x3))]:=by
 by_cases h0:x1.length+x2.length+x3.length=0
 ·obtain rfl:x1=[]:=List.eq_nil_of_length_eq_zero (by omega)
  obtain rfl:x2=[]:=List.eq_nil_of_length_eq_zero (by omega)
  obtain rfl:x3=[]:=List.eq_nil_of_length_eq_zero (by omega)
  refine⟨true,0,.inr rfl,?_⟩;refine j00 Tryz.func389 rfl rfl rfl ?_;all_goals try conv=>whnf
  refine j03 (G:=Nat) (fun i=>[(11,iv i)]) (fun _=>_) (fun i=>i≤3) (fun i=>3-i) 0 (by omega) rfl rfl ?_
  intro i hi;obtain rfl|rfl|rfl|rfl:i=0∨i=1∨i=2∨i=3:=by omega
  ·repeat'(first|refine gU ?_|refine VIdx.mk _ rfl ?_)<;>conv=>whnf
   exact VAgain.mk _ rfl _ (j0X rfl) ⟨1,by omega,by omega,rfl⟩
  ·repeat'(first|refine gU ?_|refine VIdx.mk _ rfl ?_)<;>conv=>whnf
   exact VAgain.mk _ rfl _ (j0X rfl) ⟨2,by omega,by omega,rfl⟩
  ·repeat'(first|refine gU ?_|refine VIdx.mk _ rfl ?_)<;>conv=>whnf
   exact VAgain.mk _ rfl _ (j0X rfl) ⟨3,by omega,by omega,rfl⟩
  ·repeat'(first|refine gU ?_|refine gX jnm ?_)<;>conv=>whnf
   refine j03 (G:=Nat) (fun i=>[(27,iv i)]) (fun _=>_) (fun i=>i≤3) (fun i=>3-i) 0 (by omega) rfl rfl ?_
   intro i hi;obtain rfl|rfl|rfl|rfl:i=0∨i=1∨i=2∨i=3:=by omega
   ·repeat'(first|refine gU ?_|refine VIdx.mk _ rfl ?_|refine VOk.mk (by simp) ?_)<;>conv=>whnf
    exact VAgain.mk _ rfl _ (j0X rfl) ⟨1,by omega,by omega,rfl⟩
   ·repeat'(first|refine gU ?_|refine VIdx.mk _ rfl ?_|refine VOk.mk (by simp) ?_)<;>conv=>whnf
    exact VAgain.mk _ rfl _ (j0X rfl) ⟨2,by omega,by omega,rfl⟩
   ·repeat'(first|refine gU ?_|refine VIdx.mk _ rfl ?_|refine VOk.mk (by simp) ?_)<;>conv=>whnf
    exact VAgain.mk _ rfl _ (j0X rfl) ⟨3,by omega,by omega,rfl⟩
   ·repeat'(refine gU ?_)<;>conv=>whnf
    all_goals rfl
 ·refine⟨false,5,.inl rfl,?_⟩;have hg:=jpH (0+x1.length+x2.length+x3.length) (by omega) (by omega)
  have n1:¬((0:Int)+(x1.length:Int)<0):=by omega
  have n2:¬((0:Int)+(x1.length:Int)+(x2.length:Int)<0):=by omega
  have n3:¬((0:Int)+(x1.length:Int)+(x2.length:Int)+(x3.length:Int)<0):=by omega
  refine j00 Tryz.func389 rfl rfl rfl ?_;all_goals try conv=>whnf
  refine j03 (G:=Nat×Int) (fun g=>[(11,iv g.1),(3,iv g.2)]) (fun _=>_) (fun g=>(g.1=0∧g.2=0)∨(g.1=1∧g.2=0+x1.length)∨(g.1=2∧g.2=0+x1.length+x2.length)∨(g.1=3∧g.2=0+x1.length+x2.length+x3.length)) (fun g=>3-g.1) (0,0) (.inl ⟨rfl,rfl⟩) rfl rfl ?_
  rintro⟨i,q⟩ hi;dsimp only at hi⊢;rcases hi with⟨rfl,rfl⟩|⟨rfl,rfl⟩|⟨rfl,rfl⟩|⟨rfl,rfl⟩
  ·repeat'(first|refine gU ?_|refine VIdx.mk _ rfl ?_)<;>conv=>whnf
   exact VAgain.mk _ rfl _ (j0X rfl) ⟨(1,_),.inr (.inl ⟨rfl,rfl⟩),by dsimp only;omega,rfl⟩
  ·repeat'(first|refine gU ?_|refine VIdx.mk _ rfl ?_)<;>conv=>whnf
   exact VAgain.mk _ rfl _ (j0X rfl) ⟨(2,_),.inr (.inr (.inl ⟨rfl,rfl⟩)),by dsimp only;omega,rfl⟩
  ·repeat'(first|refine gU ?_|refine VIdx.mk _ rfl ?_)<;>conv=>whnf
   exact VAgain.mk _ rfl _ (j0X rfl) ⟨(3,_),.inr (.inr (.inr ⟨rfl,rfl⟩)),by dsimp only;omega,rfl⟩
  ·repeat'(refine gU ?_)<;>conv=>whnf
   refine j1b rfl (Finds.mono hg ?_);rintro _ _ ⟨rfl,rfl⟩;refine⟨rfl,?_⟩;refine j4d (.cons (j0l rfl) .nil) rfl ?_;all_goals try conv=>whnf
   refine j03 (G:=Nat) (fun i=>[(27,iv i),(6,.ms 0 (match i with
    |0=>0
    |1=>0+x1.length
    |2=>0+x1.length+x2.length
    |_=>0+x1.length+x2.length+x3.length))]) (fun i=>[.row false 25 5 (match i with
    |0=>[]
    |1=>[]++x1
    |2=>([]++x1)++x2
    |_=>(([]++x1)++x2)++x3)]) (fun i=>i≤3) (fun i=>3-i) 0 (by omega) rfl rfl ?_
   intro i hi;have hR:∀l:List PV,l.all (pur 6)=true→l.all (pur 8)=true:=fun l h=>p68 h
   obtain rfl|rfl|rfl|rfl:i=0∨i=1∨i=2∨i=3:=by omega
   ·cases x1 with
    |nil=>
     repeat'(first|refine gU ?_|refine VIdx.mk _ rfl ?_|refine VOk.mk (okz h1) ?_)<;>conv=>whnf
     exact VAgain.mk _ rfl _ (j0X rfl) ⟨1,by omega,by omega,rfl⟩
    |cons a r=>
     have hp8:=hR _ p1;repeat'(first|refine gU ?_|refine VIdx.mk _ rfl ?_|refine VOk.mk (okz h1) ?_|refine VOk.mk (j1h (w:=80) (r:=140737488355328) rfl rfl rfl rfl rfl (by simp only[List.length_cons] at *;omega) (by simp only[List.length_cons] at *;omega)) ?_)<;>conv=>whnf
     exact VAgain.mk _ rfl _ (j0X rfl) ⟨1,by omega,by omega,rfl⟩
   ·have hl1:([]++x1).length=0+x1.length:=by simp
    cases x2 with
    |nil=>
     repeat'(first|refine gU ?_|refine VIdx.mk _ rfl ?_|refine VOk.mk (okz h2) ?_|refine VOk.mk (j1h (w:=80) (r:=140737488355328) hl1 rfl rfl rfl rfl (by simp only[List.length_cons,List.length_nil] at *;omega) (by simp only[List.length_cons,List.length_nil] at *;omega)) ?_)<;>conv=>whnf
     refine VAgain.mk _ rfl _ (j0X rfl) ⟨2,by omega,by omega,?_⟩
     simp only[List.append_nil];rfl
    |cons a r=>
     repeat'(first|refine gU ?_|refine VIdx.mk _ rfl ?_|refine VOk.mk (okz h2) ?_|refine VOk.mk (j1h (w:=80) (r:=140737488355328) hl1 rfl rfl rfl rfl (by simp only[List.length_cons] at *;omega) (by simp only[List.length_cons] at *;omega)) ?_)<;>conv=>whnf
     exact VAgain.mk _ rfl _ (j0X rfl) ⟨2,by omega,by omega,rfl⟩
   ·have hl2:([]++x1++x2).length=0+x1.length+x2.length:=by simp
    cases x3 with
    |nil=>
     repeat'(first|refine gU ?_|refine VIdx.mk _ rfl ?_|refine VOk.mk (okz h3) ?_|refine VOk.mk (j1h (w:=80) (r:=140737488355328) hl2 rfl rfl rfl rfl (by simp only[List.length_cons,List.length_nil] at *;omega) (by simp only[List.length_cons,List.length_nil] at *;omega)) ?_)<;>conv=>whnf
     refine VAgain.mk _ rfl _ (j0X rfl) ⟨3,by omega,by omega,?_⟩
     simp only[List.append_nil];rfl
    |cons a r=>
     repeat'(first|refine gU ?_|refine VIdx.mk _ rfl ?_|refine VOk.mk (okz h3) ?_|refine VOk.mk (j1h (w:=80) (r:=140737488355328) hl2 rfl rfl rfl rfl (by simp only[List.length_cons] at *;omega) (by simp only[List.length_cons] at *;omega)) ?_)<;>conv=>whnf
     exact VAgain.mk _ rfl _ (j0X rfl) ⟨3,by omega,by omega,rfl⟩
   ·have hl3:([]++x1++x2++x3).length=0+x1.length+x2.length+x3.length:=by simp only[List.nil_append,List.length_append];omega
    have hp6:([]++x1++x2++x3).all (pur 6)=true:=by simp only[List.nil_append,List.all_append,p1,p2,p3,Bool.and_self]
    repeat'(refine gU ?_)<;>conv=>whnf
    refine j0n rfl (j04 (j0D rfl hl3.symm hp6) j0m) rfl ?_;simp only[List.nil_append,List.append_assoc]
open Go Go.Am Go.Gw
theorem jpb(h:Tm)(hv:PV)(hh:TmP h hv)(hs:shT h=true)(hk:h.kind=7)(args:List Tm)(b:Bool)(z:Nat)(xs:List PV)(hz:z=5∨xs=[])(hxs:TmsP args xs)(hbd:args.length≤2000):
  ∃w,OutP (appO (InstF (h.arg 2) [h.arg 1]) args) w∧Pf C1 367 [.cp hv.cells,.cp [.sl b z xs]] [w,bv (InstF (h.arg 2) [h.arg 1]).isSome]:=by
 obtain⟨k,n,s,ls,ts⟩:=h;obtain⟨a1,a2,a3,a4,a5,a6⟩:=j0s hs;simp only[Tm.kind] at hk;subst hk;have hlen3:ts.length=3:=by
  have:j1f 7=3:=rfl;omega
 obtain⟨_,_,_,_,_,hb,hz',hxs',hc,hy,hys,⟨rfl,rfl,rfl,rfl,rfl⟩,rfl,-,-,-,-,hyz,htys,-,-,-⟩:=hh.open;obtain⟨v1,hv1,h1⟩:=htys.at (getD_at (ts:=ts) (i:=2) (by omega))
 obtain⟨v0,hv0,h0⟩:=htys.at (getD_at (ts:=ts) (i:=1) (by omega))
 have hI:=j6K _ v1 h1 [ts.getD 1 tz] true 5 [v0] (.inl rfl) ⟨v0,[],rfl,h0,rfl⟩ (by simp)
 have hlen:=hxs.len;have e:(Tm.mk 7 n s ls ts).arg 2=ts.getD 2 tz:=rfl;have e':(Tm.mk 7 n s ls ts).arg 1=ts.getD 1 tz:=rfl;rw[e,e'];have hw:∀x,InstF (ts.getD 2 tz) [ts.getD 1 tz]=some x→TmW x:=fun x hx=>j8O (by simpa using h0.w) h1.w hx
 have ho:=jeF hw fun a ha=>hxs.ws a ha
 have ha:=j7P _ _ (j7k hw) args b z xs hz hxs (by omega)
 rw[j5B] at hI;generalize InstF (ts.getD 2 tz) [ts.getD 1 tz]=o at *;obtain⟨k2,n2,s2,b2,z2,x2,c2,y2,ys2,he2⟩:=j07 (o.getD tz);rw[he2] at hI ha ho;obtain⟨⟨k3,n3,s3,b3,z3,x3,c3,y3,ys3,he3⟩,ho2⟩:=ho;rw[he3] at ha ho2;refine⟨_,⟨⟨k3,n3,s3,b3,z3,x3,c3,y3,ys3,rfl⟩,ho2⟩,?_⟩;cases h1.c;cases h0.c;refine j00 Tryz.func367 rfl rfl rfl ?_;repeat'(first|refine gU ?_|refine VIdx.mk _ hv1 ?_|refine VIdx.mk _ hv0 ?_|refine gZ hyz ?_|refine j01 hI fun _=>?_|refine gX ha ?_|apply gK)<;>conv=>whnf
 all_goals rfl
def errN(o:Except Int Tm):Int:=match o with
 | .ok _=>0
 | .error e=>e
theorem jsb(o:Except Int Tm):errV o=[encT ((okO o).getD tz),iv (errN o)]:=by cases o<;>rfl
theorem joY(E:Nv)(s:List UInt8)(bys:List Lv):decide (errN (j2E E s bys)=0)=(okO (j2E E s bys)).isSome:=by
 unfold j2E jbO;split
 ·rfl
 ·dsimp only;unfold jbX;split
  ·split
   ·unfold atF;split
    ·rfl
    ·split<;>rfl
   ·rfl
  ·rfl
variable{Q:AEnd→Sto→Prop}{e:En}{f:FuncId}{rs:List PV}{s:List UInt8}{E:Nv}{v:PV}{st:Sto}{t x:Tm}
theorem jbP{F:En→Except Int Tm}(h:jbO E s F=.ok x):∃e,j0E E s=some e∧F e=.ok x:=by
 unfold jbO at h;split at h
 ·cases h
 ·rename_i e he;exact⟨e,he,h⟩
theorem j8G{E:Nv}{s:List UInt8}{bys:List Lv}{x:Tm}(h:j2E E s bys=.ok x):∃e,j0E E s=some e∧j1L e.val bys=some x:=by
 obtain⟨e,h1,h2⟩:=jbP h;unfold jbX at h2;split at h2
 ·split at h2
  ·exact⟨e,h1,jfy h2⟩
  ·cases h2
 ·cases h2
theorem jgX{E:Nv}{s:List UInt8}{bys:List Lv}{x:Tm}(h:typeAt E s bys=.ok x):∃e,j0E E s=some e∧j1L e.ty bys=some x:=by
 obtain⟨e,h1,h2⟩:=jbP h;unfold jio at h2;split at h2
 ·exact⟨e,h1,jfy h2⟩
 ·cases h2
theorem EnP.tys{e:En}{v:PV}(h:EnP e v):TmW e.ty∧TmW e.val:=by
 obtain⟨tk,tn,ts,tb,tz',txs,tc,ty',tys,vk,vn,vs,vb,vz,vxs,vc,vy,vys,b,z,rfl,hty,hval,-⟩:=h;exact⟨hty.w,hval.w⟩
theorem NvP.entry(h:NvP E v)(he:j0E E s=some e):TmW e.ty∧TmW e.val∧j1u e=true:=by
 obtain⟨b,z,xs,rfl,hz,hx,hok⟩:=h;unfold j0E at he;split at he
 ·cases he
 ·obtain⟨w,hw,hP⟩:=hx.at he;exact⟨hP.tys.1,hP.tys.2,hok.right e (List.mem_of_getElem? he)⟩
theorem jkx(E:Nv)(cs:List PV)(hE:NvP E (.cp cs))(tot:Int)(h:Tm)(hv:PV)(hh:TmP h hv)(hs:shT h=true)(hk:h.kind=3)(args:List Tm)(b:Bool)(z:Nat)(xs:List PV)(hz:z=5∨xs=[])(hxs:TmsP args xs)(hbd:args.length≤2000):
  ∃w,OutP (appO (okO (j2E E h.name h.levels)) args) w∧∀l,Fr 385 [.ci [.bp 0 0],.cp hv.cells,.cp [.sl b z xs]] cs tot l (.ret [w,bv (okO (j2E E h.name h.levels)).isSome]) l:=by
 obtain⟨k,n,s,ls,ts⟩:=h;obtain⟨a1,a2,a3,a4,a5,a6⟩:=j0s hs;simp only[Tm.kind] at hk;have hl4:=a3 hk;obtain⟨_,_,_,_,_,hb,hz',hxs',hc,hy,hys,⟨rfl,rfl,rfl,rfl,rfl⟩,rfl,hlz,hlxs,-,-,hyz,htys,-,-,-⟩:=hh.open;have hV:=jfY E (.cp cs) hE s ls hb hz' hxs' hlz hlxs (by omega)
 have e:(Tm.mk k n s ls ts).name=s:=rfl;have e':(Tm.mk k n s ls ts).levels=ls:=rfl;rw[e,e'];have hw:∀x,okO (j2E E s ls)=some x→TmW x:=fun x hx=>by
  cases hq:j2E E s ls with
  |error _=>rw[hq] at hx;cases hx
  |ok y=>
   rw[hq] at hx;cases hx;obtain⟨e,h1,h2⟩:=j8G hq;exact jaw hlxs.ws (hE.entry h1).2.1 h2
 have ho:=jeF hw fun a ha=>hxs.ws a ha
 have ha:=j7P _ _ (j7k hw) args b z xs hz hxs (by omega)
 have hn:=joY E s ls;rw[jsb] at hV;generalize okO (j2E E s ls)=o at *;generalize errN (j2E E s ls)=q at *;obtain⟨k2,n2,s2,b2,z2,x2,c2,y2,ys2,he2⟩:=j07 (o.getD tz);rw[he2] at hV ha ho;obtain⟨⟨k3,n3,s3,b3,z3,x3,c3,y3,ys3,he3⟩,ho2⟩:=ho;rw[he3] at ha ho2;refine⟨_,⟨⟨k3,n3,s3,b3,z3,x3,c3,y3,ys3,rfl⟩,ho2⟩,fun l=>?_⟩
 refine j00 Tryz.func385 rfl rfl rfl ?_;repeat'(first|refine gU ?_|refine j01 hV fun _=>?_|refine gX ha ?_|apply gK)<;>conv=>whnf
 all_goals
  refine⟨?_,rfl⟩;rw[←hn];rfl
open Go Go.Am Go.Gw
theorem TmsP.take:∀{ts:List Tm}{xs:List PV}(i:Nat),TmsP ts xs→TmsP (ts.take i) (xs.take i)
 |ts,xs,0,h=>by simp[TmsP]
 |[],xs,i+1,h=>by
  simp only[TmsP] at h;subst h;simp[TmsP]
 |a::r,xs,i+1,h=>by
  simp only[TmsP] at h;obtain⟨v,xs',rfl,h1,h2⟩:=h;exact⟨v,xs'.take i,rfl,h1,TmsP.take i h2⟩
theorem TmsP.append:∀{ts us:List Tm}{xs ys:List PV},TmsP ts xs→TmsP us ys→TmsP (ts++us) (xs++ys)
 |[],us,xs,ys,h,h'=>by
  simp only[TmsP] at h;subst h;exact h'
 |a::r,us,xs,ys,h,h'=>by
  simp only[TmsP] at h;obtain⟨v,xs',rfl,h1,h2⟩:=h;exact⟨v,xs'++ys,rfl,h1,TmsP.append h2 h'⟩
theorem TmsP.pure6:∀{ts:List Tm}{xs:List PV},TmsP ts xs→xs.all (pur 6)=true
 |[],xs,h=>by
  simp only[TmsP] at h;subst h;rfl
 |a::r,xs,h=>by
  simp only[TmsP] at h;obtain⟨v,xs',rfl,h1,h2⟩:=h;obtain⟨k1,n1,s1,l1,t1,b1,z1,x1,c1,y1,ys1,rfl,rfl,-⟩:=h1.open;rw[List.all_cons,TmsP.pure6 h2];rfl
def jl2(fr mj:Nat)(args:List Tm)(fx:Nat)(fs:List Tm):List Tm:=args.take fr++(fs.drop fx++args.drop (mj+1))
theorem jnC(k:En)(kv:PV)(hk:EnP k kv)(h:Tm)(hv:PV)(hh:TmP h hv)(hs:shT h=true)(hkind:h.kind=3)(args:List Tm)(b:Bool)(z:Nat)(xs:List PV)(hz:z=5∨xs=[])(hxs:TmsP args xs)(hbd:args.length≤2000)(fs:List Tm)(b2:Bool)(z2:Nat)(ys:List PV)(hz2:z2=5∨ys=[])(hys:TmsP fs ys)(hbd2:fs.length≤2000)
  (fr mj:Nat) (frI mjI:Int) (e1:frI=fr) (e2:mjI=mj) (hfr:fr≤args.length) (hmj:mj<args.length) (fx:Nat) (hfx:k.fixd=fx) (hfl:fx≤fs.length) :
  ∃w,OutP (appO (j1L k.val h.levels) (jl2 fr mj args fx fs)) w∧Pf C1 388 [.cp kv.cells,.cp hv.cells,.cp [.sl b z xs],.cp [iv frI],.cp [.sl b2 z2 ys],.cp [iv mjI]] [w,bv (j1L k.val h.levels).isSome]:=by
 obtain⟨kd,n,s,ls,ts⟩:=h;obtain⟨a1,a2,a3,a4,a5,a6⟩:=j0s hs;simp only[Tm.kind] at hkind;have hl4:=a3 hkind;obtain⟨_,_,_,_,_,hb,hz',hxs',hc,hy,hyss,⟨rfl,rfl,rfl,rfl,rfl⟩,rfl,hlz,hlxs,-,-,hyz,htys,-,-,-⟩:=hh.open;obtain⟨kind,pars,nm,ty,val,hgt,fam,fixd,idx,flds,ctors⟩:=k;obtain⟨tk,tn,tts,tb,tz',txs,tc,ty',tys,vk,vn,vs,vb,vz,vxs,vc,vy,vys,b',z',rfl,hty,hval,-⟩:=hk;dsimp only at hty hval hfx⊢;subst hfx;have e:(Tm.mk kd n s ls ts).levels=ls:=rfl;rw[e];have hL:=jcu ls hb hz' hxs' hlz hlxs (by omega) val _ hval
 have hlen:=hxs.len;have hlen2:=hys.len;have hw:∀x,j1L val ls=some x→TmW x:=fun x hx=>jaw hlxs.ws hval.w hx
 have t1:TmsP (args.take fr) ((xs.take fr).drop 0):=hxs.take fr;have t2:TmsP (fs.drop fx) ((ys.take ys.length).drop fx):=by
  rw[List.take_length];exact hys.drop fx
 have t3:TmsP (args.drop (mj+1)) ((xs.take xs.length).drop (mj+1)):=by
  rw[List.take_length];exact hxs.drop (mj+1)
 have e2':mjI+1=Int.ofNat (mj+1):=by rw[e2];rfl
 have o1:(fr.ble xs.length&&Nat.ble 0 fr)=true:=by simp only[Nat.ble_eq,Bool.and_eq_true];omega
 have o2:(ys.length.ble ys.length&&fx.ble ys.length)=true:=by simp only[Nat.ble_eq,Bool.and_eq_true];omega
 have o3:(xs.length.ble xs.length&&(mj+1).ble xs.length)=true:=by simp only[Nat.ble_eq,Bool.and_eq_true];omega
 have tt:=t1.append (t2.append t3);obtain⟨bb,zz,hzz,hC⟩:=jkt (b&&Nat.beq fr xs.length) (b2&&Nat.beq ys.length ys.length) (b&&Nat.beq xs.length xs.length) z z2 z ((xs.take fr).drop 0) ((ys.take ys.length).drop fx) ((xs.take xs.length).drop (mj+1)) (hz.imp id fun e=>by rw[e];simp) (hz2.imp id fun e=>by rw[e];simp) (hz.imp id fun e=>by rw[e];simp) t1.pure6 t2.pure6 t3.pure6 (by simp;omega) (by simp;omega) (by simp;omega)
 have ho:=jeF (ts:=jl2 fr mj args fx fs) hw fun a ha=>tt.ws a ha
 have ha:=j7P _ _ (j7k hw) (jl2 fr mj args fx fs) bb zz _ hzz tt (by simp[jl2];omega)
 rw[j5B] at hL;generalize j1L val ls=o at *;obtain⟨k2,n2,s2,q2,y2,x2,c2,y2',ys2,he2⟩:=j07 (o.getD tz);rw[he2] at hL ha ho;obtain⟨⟨k3,n3,s3,q3,z3,x3,c3,y3,ys3,he3⟩,ho2⟩:=ho;rw[he3] at ha ho2;refine⟨_,⟨⟨k3,n3,s3,q3,z3,x3,c3,y3,ys3,rfl⟩,ho2⟩,?_⟩;refine j00 Tryz.func388 rfl rfl rfl ?_;repeat'(first|refine gU ?_|refine gX hL ?_|refine j01 hC fun _=>?_|refine gZ hz ?_|refine gZ hz2 ?_|refine VNat.mk fr e1 ?_|refine VNat.mk (mj+1) e2' ?_|refine VOk.mk o1 ?_|refine VOk.mk o2 ?_|refine VOk.mk o3 ?_|refine j01 ha fun _=>?_|apply gK)<;>conv=>whnf
 all_goals rfl
theorem jhw(h:NvP E v)(s:List UInt8)(hk:((j0E E s).getD enz).kind=6∨((j0E E s).getD enz).kind=7):(0≤((j0E E s).getD enz).fixd∧((j0E E s).getD enz).fixd≤32)∧(0≤((j0E E s).getD enz).idx∧((j0E E s).getD enz).idx≤32)∧(0≤((j0E E s).getD enz).flds∧((j0E E s).getD enz).flds≤32):=by
 cases he:j0E E s with
 |none=>
  rw[he] at hk;simp[enz] at hk
 |some e=>
  rw[he] at hk;simp only[Option.getD_some] at hk⊢;exact j4U (h.entry he).2.2 hk
theorem TmP.kind{k:Int}{r:List PV}(h:TmP t (.ag (iv k::r))):t.kind=k:=by
 obtain⟨k1,n1,s1,l1,t1,b1,z1,x1,c1,y1,ys1,rfl,e,-⟩:=h.open;cases e;rfl
theorem jsL{x y:PV}{a b:Bool}(h:a=b):AEnd.ret [x,y,bv a]=AEnd.ret [x,y,bv b]:=by rw[h]
def jtY(o:Option (En×List Tm))(w a:PV):Prop:=(∃e,EnP e w)∧(∃b z xs,a=.sl b z xs∧(∀k fs,o=some (k,fs)→EnP k w∧(z=5∨xs=[])∧TmsP fs xs))
theorem jpt(E:Nv)(cs:List PV)(hE:NvP E (.cp cs))(tot l:Int)(t:Tm)(v:PV)(h:TmP t v)(hsz:sizT t≤2000)(ofs:List (List UInt8))(b:Bool)(z:Nat)(hz:z=1∨ofs=[])(hbd:ofs.length≤1000000):
  ∃w a,jtY (jaN E t ofs) w a∧Fr 387 [.bp 0 0,v,.sl b z (svs ofs)] cs tot l (.ret [w,a,bv (jaN E t ofs).isSome]) l:=by
 have hsp:=j9z t;have hS:=jaz t v h (by omega)
 obtain⟨hw1,hw2⟩:=jqL t h.w;have hargs:TmsP (j1c t) ((j1c t).map encT):=jas fun a ha=>hw2 a (j3a.1 ha)
 have hal:(j1c t).length≤2000:=by simp[j1c];omega
 have hev:∃b z xs,j7Z (j1c t)=.sl b z xs∧(z=5∨xs=[])∧TmsP (j1c t) xs:=by
  cases hc:j1c t with
  |nil=>exact⟨true,0,[],rfl,.inr rfl,by simp[TmsP]⟩
  |cons x r=>rw[←hc];exact⟨false,5,_,j2y (by rw[hc];simp),.inl rfl,hargs⟩
 obtain⟨ab,az,axs,hae,haz,haxs⟩:=hev;have halen:=haxs.len;have hcn:=jdB (spF t).1.name ofs b z hz (by omega)
 obtain⟨dm,hdm⟩:∃dm,dm=decide ((spF t).1.name∈ofs):=⟨_,rfl⟩;rw[←hdm] at hcn;have hdt:dm=true↔(spF t).1.name∈ofs:=by rw[hdm];exact decide_eq_true_iff
 clear hdm;have hg:=jcK E (.cp cs) hE (spF t).1.name;have hnum:=jhw hE (spF t).1.name;obtain⟨w0,hw0,-⟩:=j6b E (.cp cs) hE (spF t).1.name;have hEe:=j5Z hw0;have e0:jaN E t ofs=if(spF t).1.kind=3∧(spF t).1.name∈ofs then
  match j0E E (spF t).1.name with
  |none=>none
  |some e=>if e.kind=6∧¬e.val.kind=0∧((j1c t).length:Int)=e.fixd+e.flds then some (e,j1c t) else none
  else none:=rfl
 have e1:∀hc:(spF t).1.kind=3∧(spF t).1.name∈ofs,jaN E t ofs=if((j0E E (spF t).1.name).getD enz).kind=6∧¬((j0E E (spF t).1.name).getD enz).val.kind=0∧((j1c t).length:Int)=((j0E E (spF t).1.name).getD enz).fixd+((j0E E (spF t).1.name).getD enz).flds then some ((j0E E (spF t).1.name).getD enz,j1c t) else none:=fun hc=>by
  rw[e0,if_pos hc];cases j0E E (spF t).1.name with
  |none=>simp[enz]
  |some e=>rfl
 generalize(j0E E (spF t).1.name).getD enz=en at *;generalize hhd:(spF t).1=hd at *;obtain⟨k2,n2,s2,ls2,ts2⟩:=hd;simp only[Tm.name,Tm.kind] at hcn hg hdt;obtain⟨b2,z2,x2,hl2⟩:=j9a ls2;obtain⟨c2,y2,ys2,ht2⟩:=j9b ts2;rw[j2N,hl2,ht2,hae] at hS;obtain⟨k1,n1,s1,l1,t1,b1,z1,x1,c1,y1,ys1,rfl,rfl,-⟩:=h.open
 by_cases hc:k2=3∧s2∈ofs
 ·have e1':=e1 hc;clear e1;obtain rfl:=hdt.2 hc.2;obtain⟨rfl,-⟩:=hc;obtain⟨tk,tn,ts,tb,tz',txs,tc,ty',tys,vk,vn,vs,vb,vz,vxs,vc,vy,vys,b',z',hwe,hty,hval,-⟩:=hEe;have hvk:=hval.kind;rw[hwe] at hg;refine⟨.ag [iv en.kind,iv en.pars,sv en.nm,iv tk,iv tn,sv ts,.sl tb tz' txs,.sl tc ty' tys,iv vk,iv vn,sv vs,.sl vb vz vxs,.sl vc vy vys,iv en.ht,sv en.fam,iv en.fixd,iv en.idx,iv en.flds,.sl b' z' (svs en.ctors)],.sl ab az axs,⟨⟨en,hwe▸j5Z hw0⟩,ab,az,axs,rfl,fun k fs hk=>?_⟩,?_⟩
  ·rw[e1'] at hk;split at hk
   ·cases hk;exact⟨hwe▸j5Z hw0,haz,haxs⟩
   ·cases hk
  ·have hgo:(jaN E (.mk k1 n1 s1 l1 t1) ofs).isSome=(decide (en.kind=6)&&(decide (¬vk=0)&&decide ((axs.length:Int)=en.fixd+en.flds))):=by
    rw[e1',hvk,halen];split
    ·rename_i hc;simp[hc.1,hc.2.1,hc.2.2]
    ·rename_i hc
     by_cases q1:en.kind=6<;>by_cases q2:vk=0<;>by_cases q3:((j1c (.mk k1 n1 s1 l1 t1)).length:Int)=en.fixd+en.flds<;>simp_all
   rw[hgo];clear hgo e0 e1';refine j00 Tryz.func387 rfl rfl rfl ?_;repeat'(first|refine gU ?_|apply gE<;>intro h|refine gX hS ?_|refine gX hcn ?_|refine j01 hg fun _=>?_|apply gK)<;>conv=>whnf
   all_goals
    refine⟨jsL ?_,rfl⟩;clear hS hcn hg hw0 hnum
    simp_all
 ·have e1:jaN E (.mk k1 n1 s1 l1 t1) ofs=none:=by rw[e0];exact if_neg hc
  rw[e1];refine⟨.ag zEn,.sl true 0 [],⟨⟨enz,jtj⟩,true,0,[],rfl,fun k fs hk=>by cases hk⟩,?_⟩
  refine j00 Tryz.func387 rfl rfl rfl ?_;repeat'(first|refine gU ?_|apply gE<;>intro h|apply gM<;>intro h|refine gX hS ?_|refine gX hcn ?_|apply gK)<;>conv=>whnf
  all_goals first
   |exact⟨rfl,rfl⟩
   |exact absurd ⟨by assumption,hdt.1 (by assumption)⟩ hc
open Go Go.Am Go.Gw
def FrT(f:FuncId)(args cs:List PV)(tot l:Int)(r:Except Int Tm)(l':Int):Prop:=match r with
 | .ok x=>∃w,TmP x w∧Fr f args cs tot l (.ret [w]) l'
 | .error e=>Fr f args cs tot l (.pan (j1T e)) l'
def jfc(cs:List PV)(tot:Int)(hd:Tm→M Tm):Prop:=∀(t:Tm) (v:PV),TmP t v→shT t=true→sizT t≤2000→∀l r l',0≤l→l≤tot→hd t l=some (r,l')→(∀x,r=.ok x→shT x=true∧sizT x≤2000)∧FrT 236 [.bp 0 0,v] cs tot l r l'
def RdxP(cs:List PV)(tot:Int)(rd:Rdx)(v:PV):Prop:=match rd with
 |none=>v=.ag [iv 0,.sc .nilFunc]
 |some (k,o)=>¬k=0∧(∀x,o=some x→shT x=true)∧∃g cl w,v=.ag [iv k,.fn g [] cl]∧OutP o w∧callable C1.P g=true ∧
  ((((∃a b,cl=[.cp a,.cp b])∨∃a b c d e f,cl=[.cp a,.cp b,.cp c,.cp d,.cp e,.cp f])∧Pf C1 g cl [w,bv o.isSome]) ∨
   (g=385∧(∃a b,cl=[.ci [.bp 0 0],.cp a,.cp b])∧∀l,Fr g cl cs tot l (.ret [w,bv o.isSome]) l))
def FrR(f:FuncId)(args cs:List PV)(tot l:Int)(r:Except Int Rdx)(l':Int):Prop:=match r with
 | .ok rd=>∃w,RdxP cs tot rd w∧Fr f args cs tot l (.ret [w]) l'
 | .error e=>Fr f args cs tot l (.pan (j1T e)) l'
theorem jp3{C:Cfg}{k0:Nat}{rs':List PV}{st':Sto}(hk:C.keep f=false)(hp:pubL C rs st=some (rs',st'))(hr:rs'.all (pur 8)=true)(h0:(st'.take k0).all (soIn fun i=>Nat.blt i k0)=true)(k:Q (.ret rs') (st'.take k0)):VRet C f k0 rs st Q:=by
 refine⟨rs',st'.take k0,?_,k⟩;simp only[aret,hk,hp,hr,h0];rfl
theorem jpo(h:Tm)(hv:PV)(hh:TmP h hv)(b:Bool)(z:Nat)(xs:List PV):Pf C1 341 [hv,.sl b z xs] [.ag [iv 1,.fn 366 [] [.cp hv.cells,.cp [.sl b z xs]]]]:=by
 obtain⟨k1,n1,s1,l1,t1,b1,z1,x1,c1,y1,ys1,rfl,rfl,-⟩:=hh.open;refine j00 Tryz.func341 rfl rfl rfl ?_;repeat'(refine gU ?_)<;>conv=>whnf
 exact j0n rfl rfl rfl rfl
theorem jr5(h:Tm)(hv:PV)(hh:TmP h hv)(b:Bool)(z:Nat)(xs:List PV):Pf C1 342 [hv,.sl b z xs] [.ag [iv 2,.fn 367 [] [.cp hv.cells,.cp [.sl b z xs]]]]:=by
 obtain⟨k1,n1,s1,l1,t1,b1,z1,x1,c1,y1,ys1,rfl,rfl,-⟩:=hh.open;refine j00 Tryz.func342 rfl rfl rfl ?_;repeat'(refine gU ?_)<;>conv=>whnf
 exact j0n rfl rfl rfl rfl
theorem jmS(cs:List PV)(tot l:Int)(h:Tm)(hv:PV)(hh:TmP h hv)(b:Bool)(z:Nat)(xs:List PV):Fr 369 [.bp 0 0,hv,.sl b z xs] cs tot l (.ret [.ag [iv 3,.fn 385 [] [.ci [.bp 0 0],.cp hv.cells,.cp [.sl b z xs]]]]) l:=by
 obtain⟨k1,n1,s1,l1,t1,b1,z1,x1,c1,y1,ys1,rfl,rfl,-⟩:=hh.open;refine j00 Tryz.func369 rfl rfl rfl ?_;repeat'(refine gU ?_)<;>conv=>whnf
 refine j1j (rs1:=[.ag [iv 3,.fn 385 [] [.ci [.bp 0 0],.cp [iv k1,iv n1,sv s1,.sl b1 z1 x1,.sl c1 y1 ys1],.cp [.sl b z xs]]]]) (st1:=[runB cs tot l,.frz [.bp 0 0],.frz [iv k1,iv n1,sv s1,.sl b1 z1 x1,.sl c1 y1 ys1],.frz [.sl b z xs],.box 309 [iv 3,.fn 385 [] [.bp 1 0,.bp 2 0,.bp 3 0]]]) (st2:=[runB cs tot l]) (st3:=[runB cs tot l]) (rs2:=[.ag [iv 3,.fn 385 [] [.ci [.bp 0 0],.cp [iv k1,iv n1,sv s1,.sl b1 z1 x1,.sl c1 y1 ys1],.cp [.sl b z xs]]]]) (.inr ⟨rfl,?_⟩) ?_ ?_ ?_ ⟨rfl,rfl⟩
 ·rfl
 ·rfl
 ·rfl
 ·rfl
theorem jdR{o:Option Tm}{ts:List Tm}(h:appO o ts=some x)(ho:∀y,o=some y→shT y=true)(hts:∀a∈ts,shT a=true):shT x=true:=by
 unfold appO at h;split at h
 ·cases h
 ·cases h;exact jhf _ _ (ho _ rfl) hts
theorem jkT(h:j1u e=true)(hk:e.kind=7):∃F M:Nat,j4D e=F∧j4D e+e.idx=M∧F≤M:=by
 obtain⟨h1,h2,h3⟩:=j4U h (.inr hk);refine⟨(j4D e).toNat,(j4D e+e.idx).toNat,?_,?_,?_⟩<;>unfold j4D at * <;>omega
theorem j6U(cs:List PV)(tot:Int):RdxP cs tot none (.ag [iv 0,.sc .nilFunc]):=rfl
theorem jhr{ofs:List (List UInt8)}{k:En}{fs:List Tm}(h:jaN E t ofs=some (k,fs)):j0E E (spF t).1.name=some k∧k.kind=6∧fs=j1c t∧(fs.length:Int)=k.fixd+k.flds:=by
 unfold jaN at h;split at h
 ·split at h
  ·cases h
  ·rename_i e he;split at h
   ·rename_i hc;cases h;exact⟨he,hc.1,rfl,hc.2.2⟩
   ·cases h
 ·cases h
theorem jpQ(cs:List PV)(tot l' kd n:Int)(s:List UInt8)(b1:Bool)(z1:Nat)(x1:List PV)(c1':Bool)(y1:Nat)(ys1 es:List PV)(b:Bool)(z:Nat)(xs:List PV)(fr mj:Int)(en:En)(a1 a2:Int)(a3:List UInt8)(a4:Bool)(a5:Nat)(a6:List PV)(a7:Bool)(a8:Nat)(a9:List PV)(a10 a11:Int)(a12:List UInt8)(a13:Bool)(a14:Nat)(a15:List PV)(a16:Bool)(a17:Nat)(a18:List PV)(a19:Bool)(a20:Nat)(bb:Bool)(zz:Nat)(ys:List PV):
  pubL C1 [.ag [iv 4,.fn 388 [] [.bp 7 0,.bp 1 0,.bp 3 0,.bp 5 0,.bp 8 0,.bp 6 0]]] [runB cs tot l',.box 25 [iv kd,iv n,sv s,.sl b1 z1 x1,.sl c1' y1 ys1],.box 51 es,.box 22 [.sl b z xs],.box 309 [iv 4,.fn 388 [] [.bp 7 0,.bp 1 0,.bp 3 0,.bp 5 0,.bp 8 0,.bp 6 0]],.box 3 [iv fr],.box 3 [iv mj],.box 51 [iv en.kind,iv en.pars,sv en.nm,iv a1,iv a2,sv a3,.sl a4 a5 a6,.sl a7 a8 a9,iv a10,iv a11,sv a12,.sl a13 a14 a15,.sl a16 a17 a18,iv en.ht,sv en.fam,iv en.fixd,iv en.idx,iv en.flds,.sl a19 a20 (svs en.ctors)],.box 22 [.sl bb zz ys]]=some ([.ag [iv 4,.fn 388 [] [.cp [iv en.kind,iv en.pars,sv en.nm,iv a1,iv a2,sv a3,.sl a4 a5 a6,.sl a7 a8 a9,iv a10,iv a11,sv a12,.sl a13 a14 a15,.sl a16 a17 a18,iv en.ht,sv en.fam,iv en.fixd,iv en.idx,iv en.flds,.sl a19 a20 (svs en.ctors)],.cp [iv kd,iv n,sv s,.sl b1 z1 x1,.sl c1' y1 ys1],.cp [.sl b z xs],.cp [iv fr],.cp [.sl bb zz ys],.cp [iv mj]]]],[runB cs tot l',.frz [iv kd,iv n,sv s,.sl b1 z1 x1,.sl c1' y1 ys1],.box 51 es,.frz [.sl b z xs],.box 309 [iv 4,.fn 388 [] [.bp 7 0,.bp 1 0,.bp 3 0,.bp 5 0,.bp 8 0,.bp 6 0]],.frz [iv fr],.frz [iv mj],.frz [iv en.kind,iv en.pars,sv en.nm,iv a1,iv a2,sv a3,.sl a4 a5 a6,.sl a7 a8 a9,iv a10,iv a11,sv a12,.sl a13 a14 a15,.sl a16 a17 a18,iv en.ht,sv en.fam,iv en.fixd,iv en.idx,iv en.flds,.sl a19 a20 (svs en.ctors)],.frz [.sl bb zz ys]]):=by rfl
theorem jpP(E:Nv)(cs:List PV)(hE:NvP E (.cp cs))(tot:Int)(hd:Tm→M Tm)(hH:jfc cs tot hd)(h:Tm)(hv:PV)(hh:TmP h hv)(hs:shT h=true)(hk:h.kind=3)(e:En)(ev:PV)(he:EnP e ev)(hr:j1u e=true)(hek:e.kind=7)
  (args:List Tm) (b:Bool) (z:Nat) (xs:List PV) (hz:z=5∨xs=[]) (hxs:TmsP args xs) (hbd:args.length≤2000) (hsh:∀a∈args,shT a=true) (hsz:∀a∈args,sizT a≤2000) (l:Int) (r:Except Int Rdx) (l':Int) (h0:0≤l) (h1:l≤tot) (hx:jhO E hd h e args l=some (r,l')) :
  FrR 370 [.bp 0 0,hv,ev,.sl b z xs] cs tot l r l':=by
 obtain⟨F,Mj,hF,hM,hFM⟩:=jkT hr hek;have hlen:=hxs.len;unfold jhO at hx;rw[hM] at hx;obtain⟨kd,n,s,ls,ts⟩:=h;obtain⟨k1,n1,s1,l1,t1,b1,z1,x1,c1',y1,ys1,⟨rfl,rfl,rfl,rfl,rfl⟩,rfl,-⟩:=hh.open;have hh':=hh;obtain⟨hn1,hn2,hn3⟩:=j4U hr (.inr hek);have he':=he;obtain⟨kind,pars,nm,ty,val,hgt,fam,fixd,idx,flds,ctors⟩:=e;obtain⟨tk,tn,tts,tb,tz',txs,tc,ty',tys,vk,vn,vs,vb,vz,vxs,vc,vy,vys,b',z',rfl,hty,hval,hzc,-,-,hcl,-⟩:=he;have hF':fixd+1+(ctors.length:Int)=F:=hF;have hM':fixd+1+(ctors.length:Int)+idx=Mj:=hM;dsimp only at hn1 hn2 hn3 hzc hcl hek hx⊢;have hcl8:(svs ctors).length=ctors.length:=by simp
 have hzc':z'=1∨ctors=[]:=hzc.imp (·.1) (·.1)
 by_cases c1:(args.length:Int)≤(Mj:Int)
 ·rw[if_pos c1] at hx;cases hx;refine⟨_,j6U cs tot,?_⟩;refine j00 Tryz.func370 rfl rfl rfl ?_;repeat'(first|refine gU ?_|apply gE<;>intro h)<;>conv=>whnf
  all_goals exact gJ
 ·rw[if_neg c1] at hx;have hMl:Mj<args.length:=by omega
  have hmem:args.getD Mj tz∈args:=by
   rw[List.getD_eq_getElem?_getD,List.getElem?_eq_getElem hMl];exact List.getElem_mem hMl
  obtain⟨av,hav,ha⟩:=hxs.at (getD_at (ts:=args) (i:=Mj) hMl);have eM:(Mj:Int).toNat=Mj:=by simp
  rw[eM] at hx;rcases j09 hx with⟨er,q1,rfl⟩|⟨x,l1,q1,q2⟩
  ·obtain⟨-,hw⟩:=hH _ av ha (hsh _ hmem) (hsz _ hmem) l _ l' h0 h1 q1;have hw:Fr 236 [.bp 0 0,av] cs tot l (.pan (j1T er)) l':=hw;show Fr _ _ _ _ _ (.pan (j1T er)) l'
   cases ha.c;refine j00 Tryz.func370 rfl rfl rfl ?_;repeat'(first|refine gU ?_|apply gE<;>intro h|refine VIdx.mk _ hav ?_|refine gZ hz ?_|refine VNat.mk Mj (by simp only[Int.ofNat_eq_natCast];omega) ?_|refine gW hw ?_|apply gK)<;>conv=>whnf
   all_goals exact gJ
  ·obtain⟨hx2,w,hw,hf⟩:=hH _ av ha (hsh _ hmem) (hsz _ hmem) l _ l1 h0 h1 q1;obtain⟨hsx,hzx⟩:=hx2 x rfl;obtain⟨w2,a,⟨⟨en,hen⟩,bb,zz,ys,rfl,hC⟩,hcf⟩:=jpt E cs hE tot l1 x w hw hzx ctors b' z' hzc' hcl;cases ha.c;cases hw.c;cases hO:jaN E x ctors with
   |none=>
    rw[hO] at q2 hcf;cases q2;refine⟨_,j6U cs tot,?_⟩;obtain⟨a1,a2,a3,a4,a5,a6,a7,a8,a9,a10,a11,a12,a13,a14,a15,a16,a17,a18,a19,a20,rfl,-⟩:=hen;refine j00 Tryz.func370 rfl rfl rfl ?_;repeat'(first|refine gU ?_|apply gE<;>intro h|refine VIdx.mk _ hav ?_|refine gZ hz ?_|refine VNat.mk Mj (by simp only[Int.ofNat_eq_natCast];omega) ?_|refine gW hf ?_|refine gW hcf ?_|apply gK)<;>conv=>whnf
    all_goals exact gJ
   |some p=>
    obtain⟨kn,fs⟩:=p;rw[hO] at q2 hcf;cases q2;obtain⟨hkn,hzz,hfs⟩:=hC kn fs hO;obtain⟨p1,p2,p3,p4⟩:=jhr hO;obtain⟨g1,g2,g3⟩:=j4U (hE.entry p1).2.2 (.inl p2);obtain⟨fx,hfx⟩:∃fx:Nat,kn.fixd=fx:=⟨kn.fixd.toNat,by omega⟩
    have hfl:fs.length≤2000:=by
     rw[p3];have:=(j9z x).1;simp[j1c];omega
    obtain⟨wo,ho,hi⟩:=jnC kn w2 hkn _ _ hh' hs hk args b z xs hz hxs hbd fs bb zz ys hzz hfs hfl F Mj (fixd+1+((svs ctors).length:Int)) (fixd+1+((svs ctors).length:Int)+idx) (by rw[hcl8];exact hF') (by rw[hcl8];exact hM') (by omega) hMl fx hfx (by omega)
    have eL:jl2 F Mj args fx fs=args.take (j4D ⟨kind,pars,nm,ty,val,hgt,fam,fixd,idx,flds,ctors⟩).toNat++(fs.drop kn.fixd.toNat++args.drop ((Mj:Int)+1).toNat):=by
     unfold jl2;rw[hfx,hF];have:((Mj:Int)+1).toNat=Mj+1:=by omega
     rw[this];simp
    refine⟨.ag [iv 4,.fn 388 [] [.cp w2.cells,.cp [iv kd,iv n,sv s,.sl b1 z1 x1,.sl c1' y1 ys1],.cp [.sl b z xs],.cp [iv (fixd+1+((svs ctors).length:Int))],.cp [.sl bb zz ys],.cp [iv (fixd+1+((svs ctors).length:Int)+idx)]]],⟨by omega,fun y hy=>?_,_,_,wo,rfl,?_,rfl,.inl ⟨.inr ⟨_,_,_,_,_,_,rfl⟩,?_⟩⟩,?_⟩
    ·refine jdR hy (fun y hy=>j8P hy) fun a ha=>?_
     rcases List.mem_append.1 ha with ha|ha
     ·exact hsh a (List.mem_of_mem_take ha)
     ·rcases List.mem_append.1 ha with ha|ha
      ·rw[p3] at ha;exact(jjS x hsx).2.1 a (j3a.1 (List.mem_of_mem_drop ha))
      ·exact hsh a (List.mem_of_mem_drop ha)
    ·rw[←eL];exact ho
    ·rw[j7O];exact hi
    ·obtain⟨a1,a2,a3,a4,a5,a6,a7,a8,a9,a10,a11,a12,a13,a14,a15,a16,a17,a18,a19,a20,rfl,-⟩:=hen;refine j00 Tryz.func370 rfl rfl rfl ?_;repeat'(first|refine gU ?_|apply gE<;>intro h|refine VIdx.mk _ hav ?_|refine gZ hz ?_|refine VNat.mk Mj (by simp only[Int.ofNat_eq_natCast];omega) ?_|refine gW hf ?_|refine gW hcf ?_|apply gK)<;>conv=>whnf
     all_goals first|(exfalso;omega)|skip
     refine(show VRet C1 370 1 [.ag [iv 4,.fn 388 [] [.bp 7 0,.bp 1 0,.bp 3 0,.bp 5 0,.bp 8 0,.bp 6 0]]] [runB cs tot l',.box 25 [iv kd,iv n,sv s,.sl b1 z1 x1,.sl c1' y1 ys1],.box 51 [iv kind,iv pars,sv nm,iv tk,iv tn,sv tts,.sl tb tz' txs,.sl tc ty' tys,iv vk,iv vn,sv vs,.sl vb vz vxs,.sl vc vy vys,iv hgt,sv fam,iv fixd,iv idx,iv flds,.sl b' z' (svs ctors)],.box 22 [.sl b z xs],.box 309 [iv 4,.fn 388 [] [.bp 7 0,.bp 1 0,.bp 3 0,.bp 5 0,.bp 8 0,.bp 6 0]],.box 3 [iv (fixd+1+((svs ctors).length:Int))],.box 3 [iv (fixd+1+((svs ctors).length:Int)+idx)],.box 51 [iv en.kind,iv en.pars,sv en.nm,iv a1,iv a2,sv a3,.sl a4 a5 a6,.sl a7 a8 a9,iv a10,iv a11,sv a12,.sl a13 a14 a15,.sl a16 a17 a18,iv en.ht,sv en.fam,iv en.fixd,iv en.idx,iv en.flds,.sl a19 a20 (svs en.ctors)],.box 22 [.sl bb zz ys]] _ from ?_)
     exact jp3 rfl (jpQ cs tot l' kd n s b1 z1 x1 c1' y1 ys1 [iv kind,iv pars,sv nm,iv tk,iv tn,sv tts,.sl tb tz' txs,.sl tc ty' tys,iv vk,iv vn,sv vs,.sl vb vz vxs,.sl vc vy vys,iv hgt,sv fam,iv fixd,iv idx,iv flds,.sl b' z' (svs ctors)] b z xs (fixd+1+((svs ctors).length:Int)) (fixd+1+((svs ctors).length:Int)+idx) en a1 a2 a3 a4 a5 a6 a7 a8 a9 a10 a11 a12 a13 a14 a15 a16 a17 a18 a19 a20 bb zz ys) rfl rfl ⟨rfl,rfl⟩
open Go Go.Am Go.Gw
theorem jfb{cs:List PV}{tot l:Int}(hk:C1.keep f=false)(hp:pubL C1 rs st=some (rs,st))(hn:rs.all (pur 8)=false)(hg:gc 1 (rs.map fun r=>(0,r)) st=[runB cs tot l])(k:Q (.ret rs) [runB cs tot l]):VRet C1 f 1 rs st Q:=
 j1j (.inr ⟨hk,hp⟩) (by rw[hn];rfl) hg rfl k
theorem jlY(E:Nv)(cs:List PV)(hE:NvP E (.cp cs))(tot:Int)(hd:Tm→M Tm)(hH:jfc cs tot hd)(h:Tm)(hv:PV)(hh:TmP h hv)(hs:shT h=true)(hk:h.kind=3)
  (args:List Tm) (b:Bool) (z:Nat) (xs:List PV) (hz:z=5∨xs=[]) (hxs:TmsP args xs) (hbd:args.length≤2000) (hsh:∀a∈args,shT a=true) (hsz:∀a∈args,sizT a≤2000) (l:Int) (r:Except Int Rdx) (l':Int) (h0:0≤l) (h1:l≤tot) (hx:j2c E hd h args l=some (r,l')) :
  FrR 343 [.bp 0 0,hv,.sl b z xs] cs tot l r l':=by
 have hg:=jcK E (.cp cs) hE h.name;obtain⟨w0,hw0,-⟩:=j6b E (.cp cs) hE h.name;have hEn:=j5Z hw0;obtain⟨wd,hod,hfd⟩:=jkx E cs hE tot h hv hh hs hk args b z xs hz hxs hbd;have hdel:=jmS cs tot l h hv hh b z xs;have hio:=fun e ev he hr hek=>jpP E cs hE tot hd hH h hv hh hs hk e ev he hr hek args b z xs hz hxs hbd hsh hsz l r l' h0 h1
 have hval:=fun x=>@j8G E h.name h.levels x
 unfold j2c at hx;obtain⟨kd,n,s,ls,ts⟩:=h;obtain⟨k1,n1,s1,l1,t1,b1,z1,x1,c1',y1,ys1,⟨rfl,rfl,rfl,rfl,rfl⟩,rfl,-,hlxs,-⟩:=hh.open;have hll:=hlxs.len;have e1:(Tm.mk kd n s ls ts).name=s:=rfl;have e2:(Tm.mk kd n s ls ts).levels=ls:=rfl;rw[e1] at hg hw0 hEn hod hfd hval hx;rw[e2] at hod hfd hval hx;cases hen:j0E E s with
 |none=>
  rw[hen] at hx hg hEn;cases hx;refine⟨_,j6U cs tot,?_⟩;obtain⟨a1,a2,a3,a4,a5,a6,a7,a8,a9,a10,a11,a12,a13,a14,a15,a16,a17,a18,a19,a20,hq,-⟩:=hEn;rw[hq] at hg;refine j00 Tryz.func343 rfl rfl rfl ?_;repeat'(first|refine gU ?_|refine j01 hg fun _=>?_|apply gK)<;>conv=>whnf
  all_goals exact gJ
 |some e=>
  have hre:=(hE.entry hen).2.2;rw[hen] at hx hg hEn;simp only[Option.getD_some,Option.isSome_some] at hg hEn;have hio:=hio e (encE e) hEn hre;obtain⟨a1,a2,a3,a4,a5,a6,a7,a8,a9,a10,a11,a12,a13,a14,a15,a16,a17,a18,a19,a20,hq,-⟩:=hEn;rw[hq] at hg hio;dsimp only at hx
  by_cases c1:(ls.length:Int)=e.pars
  ·rw[if_neg (by simpa using c1)] at hx
   by_cases c2:e.kind=2
   ·rw[if_pos c2] at hx;cases hx;refine⟨.ag [iv 3,.fn 385 [] [.ci [.bp 0 0],.cp (PV.ag [iv kd,iv n,sv s,.sl b1 z1 x1,.sl c1' y1 ys1]).cells,.cp [.sl b z xs]]],⟨by omega,fun y hy=>?_,_,_,wd,rfl,hod,rfl,.inr ⟨rfl,⟨_,_,rfl⟩,?_⟩⟩,?_⟩
    ·refine jdR hy (fun y hy=>?_) hsh
     cases hv:j2E E s ls with
     |error _=>rw[hv] at hy;cases hy
     |ok u=>
      rw[hv] at hy;cases hy;obtain⟨e',-,h2⟩:=hval _ hv;exact j8P h2
    ·intro l;rw[j7O];exact hfd l
    ·refine j00 Tryz.func343 rfl rfl rfl ?_;repeat'(first|refine gU ?_|apply gE<;>intro h|refine j01 hg fun _=>?_|refine gW hdel ?_|apply gK)<;>conv=>whnf
     all_goals first|(exfalso;omega)|skip
     refine(show VRet C1 343 1 [.ag [iv 3,.fn 385 [] [.ci [.bp 0 0],.cp [iv kd,iv n,sv s,.sl b1 z1 x1,.sl c1' y1 ys1],.cp [.sl b z xs]]]] [runB cs tot l,.box 25 [iv kd,iv n,sv s,.sl b1 z1 x1,.sl c1' y1 ys1],.box 309 [iv 3,.fn 385 [] [.ci [.bp 0 0],.cp [iv kd,iv n,sv s,.sl b1 z1 x1,.sl c1' y1 ys1],.cp [.sl b z xs]]],.box 51 [iv e.kind,iv e.pars,sv e.nm,iv a1,iv a2,sv a3,.sl a4 a5 a6,.sl a7 a8 a9,iv a10,iv a11,sv a12,.sl a13 a14 a15,.sl a16 a17 a18,iv e.ht,sv e.fam,iv e.fixd,iv e.idx,iv e.flds,.sl a19 a20 (svs e.ctors)]] _ from ?_)
     exact jfb rfl rfl rfl rfl ⟨rfl,rfl⟩
   ·rw[if_neg c2] at hx
    by_cases c3:e.kind=7
    ·rw[if_pos c3] at hx;have hio:=hio c3 hx;cases r with
     |error er=>
      have hio:Fr 370 _ cs tot l (.pan (j1T er)) l':=hio;show Fr _ _ _ _ _ (.pan (j1T er)) l'
      refine j00 Tryz.func343 rfl rfl rfl ?_;repeat'(first|refine gU ?_|apply gE<;>intro h|refine j01 hg fun _=>?_|refine gW hio ?_|apply gK)<;>conv=>whnf
      all_goals exact gJ
     |ok rd=>
      obtain⟨w,hw,hf⟩:=hio;refine⟨w,hw,?_⟩;cases rd with
      |none=>
       obtain rfl:w=.ag [iv 0,.sc .nilFunc]:=hw;refine j00 Tryz.func343 rfl rfl rfl ?_;repeat'(first|refine gU ?_|apply gE<;>intro h|refine j01 hg fun _=>?_|refine gW hf ?_|apply gK)<;>conv=>whnf
       all_goals exact gJ
      |some p=>
       obtain⟨kk,o⟩:=p;obtain⟨hk0,-,g,cl,wo,rfl,ho,hcl,⟨⟨a',b',rfl⟩|⟨a',b',c',d',e',f',rfl⟩,-⟩|⟨rfl,⟨a',b',rfl⟩,-⟩⟩:=hw
       ·refine j00 Tryz.func343 rfl rfl rfl ?_;repeat'(first|refine gU ?_|apply gE<;>intro h|refine j01 hg fun _=>?_|refine gW hf ?_|apply gK)<;>conv=>whnf
        all_goals exact gJ
       ·refine j00 Tryz.func343 rfl rfl rfl ?_;repeat'(first|refine gU ?_|apply gE<;>intro h|refine j01 hg fun _=>?_|refine gW hf ?_|apply gK)<;>conv=>whnf
        all_goals exact gJ
       ·refine j00 Tryz.func343 rfl rfl rfl ?_;repeat'(first|refine gU ?_|apply gE<;>intro h|refine j01 hg fun _=>?_|refine gW hf ?_|apply gK)<;>conv=>whnf
        all_goals first|(exfalso;omega)|skip
        refine(show VRet C1 343 1 [.ag [iv kk,.fn 385 [] [.ci [.bp 0 0],.cp a',.cp b']]] [runB cs tot l',.box 25 [iv kd,iv n,sv s,.sl b1 z1 x1,.sl c1' y1 ys1],.box 309 [iv kk,.fn 385 [] [.ci [.bp 0 0],.cp a',.cp b']],.box 51 [iv e.kind,iv e.pars,sv e.nm,iv a1,iv a2,sv a3,.sl a4 a5 a6,.sl a7 a8 a9,iv a10,iv a11,sv a12,.sl a13 a14 a15,.sl a16 a17 a18,iv e.ht,sv e.fam,iv e.fixd,iv e.idx,iv e.flds,.sl a19 a20 (svs e.ctors)]] _ from ?_)
        exact jfb rfl rfl rfl rfl ⟨rfl,rfl⟩
    ·rw[if_neg c3] at hx;cases hx;refine⟨_,j6U cs tot,?_⟩;refine j00 Tryz.func343 rfl rfl rfl ?_;repeat'(first|refine gU ?_|apply gE<;>intro h|refine j01 hg fun _=>?_|apply gK)<;>conv=>whnf
     all_goals exact gJ
  ·rw[if_pos (by simpa using c1)] at hx
   cases hx;refine⟨_,j6U cs tot,?_⟩;refine j00 Tryz.func343 rfl rfl rfl ?_;repeat'(first|refine gU ?_|apply gE<;>intro h|refine j01 hg fun _=>?_|apply gK)<;>conv=>whnf
   all_goals exact gJ
end Go.Proofs.YtbnodhcijeaceaaGreatDoor
