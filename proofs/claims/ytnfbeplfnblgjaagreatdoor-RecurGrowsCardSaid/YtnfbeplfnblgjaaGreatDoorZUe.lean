/- The constants of a term (package term). -/
import Derived.Test.YtnfbeplfnblgjaaGreatDoorZUd
set_option linter.all false
set_option maxHeartbeats 2000000
set_option maxRecDepth 100000
namespace Go.Proofs.YtnfbeplfnblgjaaGreatDoor
open Go Go.Am Go.Gw
def jdS(cs:List PV):PV:=.fn 128 [] [.cp cs]
theorem jbT(t:Tm)(v:PV)(h:TmP t v):Pf C1 74 [v] [jdS v.cells]:=by
 obtain⟨k,n,s,ls,ts,b,z,xs,c,y,ys,rfl,rfl,-⟩:=h.open;refine run_intro Tryz.func74 rfl rfl rfl ?_;repeat'(first|refine gU ?_|apply gE<;>intro h|apply gM<;>intro h|apply gK)<;>conv=>whnf
 refine j0O rfl rfl rfl ?_;rfl
structure TVu where
 k:Int
 n:Int
 s:List UInt8
 b:Bool
 z:Nat
 xs:List PV
 c:Bool
 y:Nat
 ys:List PV
def TVu.cs(q:TVu):List PV:=[iv q.k,iv q.n,sv q.s,.sl q.b q.z q.xs,.sl q.c q.y q.ys]
def coLP(q:TVu)(g h:Bool)(a c:Code)(x:LpS):SO:=.lp [(9,jdS q.cs),(8,.ag q.cs),(3,.bp 1 0),(7,bv g),(6,bv h),(5,.ag q.cs),(2,.sl true 0 []),(1,.bp 2 0),(0,.ag q.cs)] [10] a c x
def coS(lp:SO)(q:TVu)(don:List (List UInt8)):Sto:=match don with
 |[]=>[lp,.box 48 [.sl true 0 []],.box 25 q.cs]
 |d::r=>[lp,.box 48 [.ms 3 (r.length+1)],.box 25 q.cs,.row false 9 1 (svs (d::r))]
theorem jbj(lp:SO)(q:TVu)(d:List UInt8)(r m:List (List UInt8)):coS lp q (d::r++m)=[lp,.box 48 [.ms 3 (r.length+m.length+1)],.box 25 q.cs,.row false 9 1 (svs (d::r)++svs m)]:=by
 simp only[coS,List.cons_append,List.length_append,svs,List.map_cons,List.map_append]
def coB(lp:SO)(q:TVu)(cs:List PV)(acc:List (List UInt8)):Sto:=match acc with
 |[]=>[lp,.box 48 [.sl true 0 []],.box 25 q.cs,.box 25 cs]
 |d::r=>[lp,.box 48 [.ms 5 (r.length+1)],.box 25 q.cs,.box 25 cs,.dead,.row false 9 1 (svs (d::r))]
def coV(lp:SO)(q:TVu)(cs:List PV)(d:List UInt8)(r:List (List UInt8)):Sto:=[lp,.box 48 [.ms 4 (r.length+1)],.box 25 q.cs,.box 25 cs,.row false 9 1 (svs (d::r))]
def coX(lp:SO)(q:TVu)(cs cs2:List PV)(d:List UInt8)(r:List (List UInt8)):Sto:=[lp,.box 48 [.ms 5 (r.length+1)],.box 25 q.cs,.box 25 cs,.box 25 cs2,.row false 9 1 (svs (d::r))]
def ownC(t:Tm):List (List UInt8):=if t.kind=3 then[t.name] else[]
def CoOk(lp:SO)(q:TVu):Prop:=∀(t:Tm) (v:PV),TmP t v→∀don:List (List UInt8),don.length≤1000000000→FindsY C1 [.yl 0,v] (coS lp q don) fun r st=>r=.ret [bv true]∧st=coS lp q (don++ownC t)
variable{ts:List Tm}{j:Nat}{tc:Tm}
theorem j8D{k n:Int}{s:List UInt8}{ls:List Lv}:j0f (.mk k n s ls ts)=ownC (.mk k n s ls ts)++j09 ts:=by rw[j0f];rfl
mutual
theorem j3k:∀t:Tm,(j0f t).length≤sizT t
 | .mk k n s ls ts=>by
  have:=j1W ts;rw[j0f,sizT,List.length_append];split
  ·simp only[List.length_cons,List.length_nil];omega
  ·simp only[List.length_nil];omega
theorem j1W:∀ts:List Tm,(j09 ts).length≤j0j ts
 |[]=>by simp[j09]
 |t::r=>by
  have h1:=j3k t;have h2:=j1W r;rw[j09,j0j,List.length_append];omega
end
theorem j1V(h:ts[j]?=some tc):j09 (ts.take (j+1))=j09 (ts.take j)++j0f tc:=by
 rw[take_snoc' h];generalize ts.take j=l
 induction l with
 |nil=>simp[j09]
 |cons a r ih=>rw[List.cons_append,j09,j09,ih,List.append_assoc]
theorem j6F:∀{ts:List Tm}{t:Tm},t∈ts→sizT t≤j0j ts
 |x::r,t,h=>by
  rw[j0j];rcases List.mem_cons.1 h with rfl|h
  ·omega
  ·have:=j6F h;omega
theorem j4K(h:ts[j]?=some tc):j0j (ts.take j)+sizT tc≤j0j ts:=by
 have e:ts=ts.take j++tc::ts.drop (j+1):=by rw[←drop_at h,List.take_append_drop]
 have add:∀a b:List Tm,j0j (a++b)=j0j a+j0j b:=fun a b=>by
  induction a with
  |nil=>simp[j0j]
  |cons x r ih=>rw[List.cons_append,j0j,j0j,ih];omega
 rw[e,add,j0j];have e2:(ts.take j++tc::ts.drop (j+1)).take j=ts.take j:=by rw[←e]
 rw[e2];omega
theorem jb1(q:TVu)(gb hb:Bool)(a c:Code)(hY:CoOk (coLP q gb hb a c .ready) q)(t:Tm):∀v,TmP t v→∀p kk,allT t p kk=true→∀don:List (List UInt8),don.length+sizT t≤1000000000 →
  Finds C1 129 [v,.yl 0] (coS (coLP q gb hb a c .ready) q don) fun r st=>r=.ret [bv true]∧st=coS (coLP q gb hb a c .ready) q (don++j0f t):=by
 induction t using Tm.ind with
 |_ k nn s ls ts ih=>
 intro v hv p kk hall don hdon;have hyd:=hY _ _ hv don (by omega)
 have hsz:1+j0j ts≤sizT (.mk k nn s ls ts):=by rw[sizT];omega
 have hargs:=j2h hall;obtain⟨hk17,hlenk,hnode,-,hats⟩:=j0b hall;rw[j8D];obtain⟨_,_,_,_,_,b,z,xs,c1,y,ys,⟨rfl,rfl,rfl,rfl,rfl⟩,rfl,hz,hxs,hlen,hbd,hy,hys,hlen2,hbd2,hsl⟩:=hv.open
 by_cases h3:k=3
 ·obtain rfl:=hargs.1 (by omega)
  obtain rfl:ys=[]:=by simpa using hlen2
  have e:ownC (.mk k nn s ls [])=[s]:=if_pos h3;rw[e] at hyd⊢;rw[j09,List.append_nil];refine run_intro Tryz.func129 rfl rfl rfl ?_;cases don with
  |nil=>
   repeat'(first|refine gU ?_|apply gE<;>intro h|apply gM<;>intro h|apply gK)<;>conv=>whnf
   refine j0S rfl (.cons (j0e rfl rfl) (.cons (j01 rfl rfl) (.cons (j01 rfl rfl) (.cons (j01 rfl rfl) .nil)))) rfl rfl rfl rfl (j0z hyd ?_);rintro _ _ ⟨rfl,rfl⟩;refine j0E (st':=coV (coLP q gb hb a c .ready) q [iv k,iv nn,sv s,.sl b z xs,.sl c1 y []] s []) (.cons (j0e rfl rfl) (.cons (j01 rfl rfl) (.cons (j01 rfl rfl) (.cons (j0a (j05 _)) .nil)))) rfl rfl (by kernel_rfl) ?_
   repeat'(first|refine gU ?_|apply gE<;>intro h|apply gM<;>intro h|apply gK)<;>conv=>whnf
   refine loop_over (G:=Unit) (fun _=>[]) (fun _=>_) (fun _=>True) (fun _=>0) () trivial rfl rfl ?_
   rintro _ _;repeat'(first|refine gU ?_|apply gE<;>intro h|apply gM<;>intro h|apply gK)<;>conv=>whnf
   exact j2Q (.inr ⟨rfl,rfl⟩) rfl (j0q (.cons (j2a rfl rfl) (.cons (j00 rfl rfl) (.cons (j00 rfl rfl) (.cons (j00 rfl rfl) (.cons (j03 (j05 _)) .nil))))) (.cons (j2a rfl rfl) (.cons (j00 rfl rfl) (.cons (j00 rfl rfl) (.cons j07 (.cons (j03 (j05 _)) .nil))))) rfl rfl rfl rfl rfl) (j0R (.cons (j0e rfl rfl) (.cons (j01 rfl rfl) (.cons (j01 rfl rfl) (.cons j0T (.cons (j0a (j05 _)) .nil))))) rfl rfl rfl rfl) ⟨rfl,rfl⟩
  |cons d r=>
   repeat'(first|refine gU ?_|apply gE<;>intro h|apply gM<;>intro h|apply gK)<;>conv=>whnf
   refine j0S rfl (.cons (j0e rfl rfl) (.cons (j01 rfl rfl) (.cons (j01 rfl rfl) (.cons (j0a (j05 _)) (.cons (j01 rfl rfl) .nil))))) rfl rfl rfl rfl (j0z hyd ?_);rintro _ _ ⟨rfl,rfl⟩;refine j0E (st':=coS (coLP q gb hb a c .ready) q (d::r++[s])++[.box 25 [iv k,iv nn,sv s,.sl b z xs,.sl c1 y []]]) (.cons (j0e rfl rfl) (.cons (j01 rfl rfl) (.cons (j01 rfl rfl) (.cons (j0a (j05 _)) .nil)))) rfl rfl (by kernel_rfl) ?_
   repeat'(first|refine gU ?_|apply gE<;>intro h|apply gM<;>intro h|apply gK)<;>conv=>whnf
   refine loop_over (G:=Unit) (fun _=>[]) (fun _=>_) (fun _=>True) (fun _=>0) () trivial rfl rfl ?_
   rintro _ _;repeat'(first|refine gU ?_|apply gE<;>intro h|apply gM<;>intro h|apply gK)<;>conv=>whnf
   exact j1j rfl rfl (.cons (j0e rfl rfl) (.cons (j01 rfl rfl) (.cons (j01 rfl rfl) (.cons (j0a (j05 _)) .nil)))) rfl ⟨rfl,rfl⟩
 ·have e:ownC (.mk k nn s ls ts)=[]:=if_neg h3;rw[e,List.append_nil] at hyd;rw[e,List.nil_append];have hround:∀(j:Nat) (hj':j<ts.length),∃tc,ts[j]?=some tc∧tc∈ts∧∃w,ys[j]?=some w∧TmP tc w∧(∀acc:List (List UInt8),acc.length+sizT tc≤1000000000→Finds C1 129 [w,.yl 0] (coS (coLP q gb hb a c .ready) q acc) fun r st=>r=.ret [bv true]∧st=coS (coLP q gb hb a c .ready) q (acc++j0f tc)):=fun j hj'=>by
   obtain⟨tc,htc⟩:∃tc,ts[j]?=some tc:=⟨_,List.getElem?_eq_getElem hj'⟩;obtain⟨w,hw,hl⟩:=hys.at htc;have hmem:=List.mem_of_getElem? htc;exact⟨tc,htc,hmem,w,hw,hl,ih _ hmem w hl p _ (j2u hats htc)⟩
  refine run_intro Tryz.func129 rfl rfl rfl ?_;cases don with
  |nil=>
   repeat'(first|refine gU ?_|apply gE<;>intro h|apply gM<;>intro h|apply gK)<;>conv=>whnf
   refine j0S rfl (.cons (j0e rfl rfl) (.cons (j01 rfl rfl) (.cons (j01 rfl rfl) (.cons (j01 rfl rfl) .nil)))) rfl rfl rfl rfl (j0z hyd ?_);rintro _ _ ⟨rfl,rfl⟩;refine j0E (st':=coB (coLP q gb hb a c .ready) q [iv k,iv nn,sv s,.sl b z xs,.sl c1 y ys] []) (.cons (j0e rfl rfl) (.cons (j01 rfl rfl) (.cons (j01 rfl rfl) .nil))) rfl rfl (by kernel_rfl) ?_
   repeat'(first|refine gU ?_|apply gE<;>intro h|apply gM<;>intro h|apply gK)<;>conv=>whnf
   refine loop_over (G:=Nat) (fun j=>[(14,iv j)]) (fun j=>coB (coLP q gb hb a c .ready) q [iv k,iv nn,sv s,.sl b z xs,.sl c1 y ys] (j09 (ts.take j))) (fun j=>j≤ts.length) (fun j=>ts.length-j) 0 (by omega) rfl (by simp only[List.take_zero,j09]) ?_
   intro j hj;dsimp only;generalize hacc:j09 (ts.take j)=acc;cases acc with
   |nil=>
    repeat'(first|refine gU ?_|apply gE<;>intro h|apply gM<;>intro h|apply gK)<;>conv=>whnf
    ·obtain⟨tc,htc,hmem,w,hw,hl,hrec0⟩:=hround j (by omega)
     have hrec:=hrec0 [] (by have:=j6F hmem;simp only[List.length_nil] at *;omega)
     have e2:j09 (ts.take (j+1))=j0f tc:=by rw[j1V htc,hacc];rfl
     rw[List.nil_append] at hrec;obtain⟨k1,n1,s1,l1,t1,b1,z1,x1,c2,y1,ys1,rfl,rfl,-⟩:=hl.open;repeat'(first|refine gU ?_|apply gE<;>intro h|apply gM<;>intro h|refine VIdx.mk _ hw ?_|refine gZ hy ?_|apply gK)<;>conv=>whnf
     refine j0N rfl rfl (.cons (j0e rfl rfl) (.cons (j01 rfl rfl) (.cons (j01 rfl rfl) (.cons (j01 rfl rfl) (.cons (j01 rfl rfl) .nil))))) rfl rfl rfl rfl (Finds.mono hrec ?_);rintro _ _ ⟨rfl,rfl⟩;cases hct:j0f (.mk k1 n1 s1 l1 t1) with
     |nil=>
      rw[hct] at e2;refine j0E (st':=coB (coLP q gb hb a c .ready) q [iv k,iv nn,sv s,.sl b z xs,.sl c1 y ys] []++[.box 25 [iv k1,iv n1,sv s1,.sl b1 z1 x1,.sl c2 y1 ys1]]) (.cons (j0e rfl rfl) (.cons (j01 rfl rfl) (.cons (j01 rfl rfl) .nil))) rfl rfl (by kernel_rfl) ?_
      repeat'(first|refine gU ?_|apply gE<;>intro h|apply gM<;>intro h|apply gK)<;>conv=>whnf
      exact VAgain.mk _ rfl _ (j0q (.cons (j2a rfl rfl) (.cons (j00 rfl rfl) (.cons (j00 rfl rfl) (.cons (j00 rfl rfl) (.cons (j00 rfl rfl) .nil))))) (.cons (j2a rfl rfl) (.cons (j00 rfl rfl) (.cons (j00 rfl rfl) (.cons (j00 rfl rfl) .nil)))) rfl rfl rfl rfl rfl) ⟨j+1,by omega,by omega,by rw[e2];rfl⟩
     |cons d1 r1=>
      rw[hct] at e2;refine j0E (st':=coX (coLP q gb hb a c .ready) q [iv k,iv nn,sv s,.sl b z xs,.sl c1 y ys] [iv k1,iv n1,sv s1,.sl b1 z1 x1,.sl c2 y1 ys1] d1 r1) (.cons (j0e rfl rfl) (.cons (j01 rfl rfl) (.cons (j01 rfl rfl) (.cons (j0a (j05 _)) .nil)))) rfl rfl (by kernel_rfl) ?_
      repeat'(first|refine gU ?_|apply gE<;>intro h|apply gM<;>intro h|apply gK)<;>conv=>whnf
      exact VAgain.mk _ rfl _ (j0q (.cons (j2a rfl rfl) (.cons (j00 rfl rfl) (.cons (j00 rfl rfl) (.cons (j00 rfl rfl) (.cons (j00 rfl rfl) (.cons (j03 (j05 _)) .nil)))))) (.cons (j2a rfl rfl) (.cons (j00 rfl rfl) (.cons (j00 rfl rfl) (.cons (j00 rfl rfl) (.cons j07 (.cons (j03 (j05 _)) .nil)))))) rfl rfl rfl rfl rfl) ⟨j+1,by omega,by omega,by rw[e2];rfl⟩
    ·have e2:j09 ts=[]:=by rw[←hacc,List.take_of_length_le (by omega)]
     rw[e2];exact⟨rfl,rfl⟩
   |cons d0 r0=>
    repeat'(first|refine gU ?_|apply gE<;>intro h|apply gM<;>intro h|apply gK)<;>conv=>whnf
    ·obtain⟨tc,htc,hmem,w,hw,hl,hrec0⟩:=hround j (by omega)
     have hs1:=j4K htc;have hs2:=j1W (ts.take j);rw[hacc] at hs2;have hrec:=hrec0 (d0::r0) (by simp only[List.length_nil] at hdon;omega)
     have e2:j09 (ts.take (j+1))=d0::r0++j0f tc:=by rw[j1V htc,hacc]
     obtain⟨k1,n1,s1,l1,t1,b1,z1,x1,c2,y1,ys1,rfl,rfl,-⟩:=hl.open;repeat'(first|refine gU ?_|apply gE<;>intro h|apply gM<;>intro h|refine VIdx.mk _ hw ?_|refine gZ hy ?_|apply gK)<;>conv=>whnf
     refine j0N rfl rfl (.cons (j0e rfl rfl) (.cons (j01 rfl rfl) (.cons (j01 rfl rfl) (.cons (j01 rfl rfl) (.cons j0T (.cons (j0a (j05 _)) (.cons (j01 rfl rfl) .nil))))))) rfl rfl rfl rfl (Finds.mono hrec ?_);rintro _ _ ⟨rfl,rfl⟩;refine j0E (st':=coB (coLP q gb hb a c .ready) q [iv k,iv nn,sv s,.sl b z xs,.sl c1 y ys] (d0::r0++j0f (.mk k1 n1 s1 l1 t1))++[.box 25 [iv k1,iv n1,sv s1,.sl b1 z1 x1,.sl c2 y1 ys1]]) (.cons (j0e rfl rfl) (.cons (j01 rfl rfl) (.cons (j01 rfl rfl) (.cons (j0a (j05 _)) .nil)))) rfl rfl (by kernel_rfl) ?_
     repeat'(first|refine gU ?_|apply gE<;>intro h|apply gM<;>intro h|apply gK)<;>conv=>whnf
     exact VAgain.mk _ rfl _ (j0q (.cons (j2a rfl rfl) (.cons (j00 rfl rfl) (.cons (j00 rfl rfl) (.cons (j00 rfl rfl) (.cons j07 (.cons (j03 (j05 _)) (.cons (j00 rfl rfl) .nil))))))) (.cons (j2a rfl rfl) (.cons (j00 rfl rfl) (.cons (j00 rfl rfl) (.cons (j00 rfl rfl) (.cons j07 (.cons (j03 (j05 _)) .nil)))))) rfl rfl rfl rfl rfl) ⟨j+1,by omega,by omega,by rw[e2];rfl⟩
    ·have e2:j09 ts=d0::r0:=by rw[←hacc,List.take_of_length_le (by omega)]
     rw[e2];exact j2Q (.inr ⟨rfl,rfl⟩) rfl (j0q (.cons (j2a rfl rfl) (.cons (j00 rfl rfl) (.cons (j00 rfl rfl) (.cons (j00 rfl rfl) (.cons j07 (.cons (j03 (j05 _)) .nil)))))) (.cons (j2a rfl rfl) (.cons (j00 rfl rfl) (.cons (j00 rfl rfl) (.cons j07 (.cons j07 (.cons (j03 (j05 _)) .nil)))))) rfl rfl rfl rfl rfl) (j0R (.cons (j0e rfl rfl) (.cons (j01 rfl rfl) (.cons (j01 rfl rfl) (.cons j0T (.cons j0T (.cons (j0a (j05 _)) .nil)))))) rfl rfl rfl rfl) ⟨rfl,rfl⟩
  |cons d r=>
   repeat'(first|refine gU ?_|apply gE<;>intro h|apply gM<;>intro h|apply gK)<;>conv=>whnf
   refine j0S rfl (.cons (j0e rfl rfl) (.cons (j01 rfl rfl) (.cons (j01 rfl rfl) (.cons (j0a (j05 _)) (.cons (j01 rfl rfl) .nil))))) rfl rfl rfl rfl (j0z hyd ?_);rintro _ _ ⟨rfl,rfl⟩;refine j0E (st':=coS (coLP q gb hb a c .ready) q (d::r)++[.box 25 [iv k,iv nn,sv s,.sl b z xs,.sl c1 y ys]]) (.cons (j0e rfl rfl) (.cons (j01 rfl rfl) (.cons (j01 rfl rfl) (.cons (j0a (j05 _)) .nil)))) rfl rfl (by kernel_rfl) ?_
   repeat'(first|refine gU ?_|apply gE<;>intro h|apply gM<;>intro h|apply gK)<;>conv=>whnf
   refine loop_over (G:=Nat) (fun j=>[(14,iv j)]) (fun j=>coS (coLP q gb hb a c .ready) q (d::r++j09 (ts.take j))++[.box 25 [iv k,iv nn,sv s,.sl b z xs,.sl c1 y ys]]) (fun j=>j≤ts.length) (fun j=>ts.length-j) 0 (by omega) rfl (by simp only[List.take_zero,j09,List.append_nil]) ?_
   intro j hj;dsimp only;generalize hacc:j09 (ts.take j)=acc;repeat'(first|refine gU ?_|apply gE<;>intro h|apply gM<;>intro h|apply gK)<;>conv=>whnf
   ·obtain⟨tc,htc,hmem,w,hw,hl,hrec0⟩:=hround j (by omega)
    have hs1:=j4K htc;have hs2:=j1W (ts.take j);rw[hacc] at hs2;have hrec:=hrec0 (d::r++acc) (by simp only[List.length_append] at *;omega)
    have e2:d::r++j09 (ts.take (j+1))=d::r++acc++j0f tc:=by rw[j1V htc,hacc,List.append_assoc]
    obtain⟨k1,n1,s1,l1,t1,b1,z1,x1,c2,y1,ys1,rfl,rfl,-⟩:=hl.open;repeat'(first|refine gU ?_|apply gE<;>intro h|apply gM<;>intro h|refine VIdx.mk _ hw ?_|refine gZ hy ?_|apply gK)<;>conv=>whnf
    refine j0N rfl rfl (.cons (j0e rfl rfl) (.cons (j01 rfl rfl) (.cons (j01 rfl rfl) (.cons (j0a (j05 _)) (.cons (j01 rfl rfl) (.cons (j01 rfl rfl) .nil)))))) rfl rfl rfl rfl (Finds.mono hrec ?_);rintro _ _ ⟨rfl,rfl⟩;refine j0E (st':=coS (coLP q gb hb a c .ready) q (d::r++acc++j0f (.mk k1 n1 s1 l1 t1))++[.box 25 [iv k,iv nn,sv s,.sl b z xs,.sl c1 y ys],.box 25 [iv k1,iv n1,sv s1,.sl b1 z1 x1,.sl c2 y1 ys1]]) (.cons (j0e rfl rfl) (.cons (j01 rfl rfl) (.cons (j01 rfl rfl) (.cons (j0a (j05 _)) .nil)))) rfl rfl (by kernel_rfl) ?_
    repeat'(first|refine gU ?_|apply gE<;>intro h|apply gM<;>intro h|apply gK)<;>conv=>whnf
    exact VAgain.mk _ rfl _ (j0q (.cons (j2a rfl rfl) (.cons (j00 rfl rfl) (.cons (j00 rfl rfl) (.cons (j03 (j05 _)) (.cons (j00 rfl rfl) (.cons (j00 rfl rfl) .nil)))))) (.cons (j2a rfl rfl) (.cons (j00 rfl rfl) (.cons (j00 rfl rfl) (.cons (j03 (j05 _)) (.cons (j00 rfl rfl) .nil))))) rfl rfl rfl rfl rfl) ⟨j+1,by omega,by omega,by rw[e2];rfl⟩
   ·have e2:j09 ts=acc:=by rw[←hacc,List.take_of_length_le (by omega)]
    rw[e2];exact j1j rfl rfl (.cons (j0e rfl rfl) (.cons (j01 rfl rfl) (.cons (j01 rfl rfl) (.cons (j0a (j05 _)) .nil)))) rfl ⟨rfl,rfl⟩
theorem jb3(q:TVu)(gb hb:Bool)(a c:Code)(hY:CoOk (coLP q gb hb a c .ready) q)(t:Tm)(hv:TmP t (.ag q.cs))(p kk:Int)(hall:allT t p kk=true)(hs:sizT t≤1000000000):
  Finds C1 128 [.yl 0,.cp q.cs] (coS (coLP q gb hb a c .ready) q []) fun r st=>r=.ret []∧st=coS (coLP q gb hb a c .ready) q (j0f t):=by
 have hvis:=jb1 q gb hb a c hY t _ hv p kk hall [] (by simpa using hs)
 refine run_intro Tryz.func128 rfl rfl rfl ?_;repeat'(first|refine gU ?_|apply gE<;>intro h|apply gM<;>intro h|apply gK)<;>conv=>whnf
 refine j0N rfl rfl (.cons (j0e rfl rfl) (.cons (j01 rfl rfl) (.cons (j01 rfl rfl) .nil))) rfl rfl rfl rfl (Finds.mono hvis ?_);rintro _ _ ⟨rfl,rfl⟩;rw[List.nil_append];cases j0f t with
 |nil=>
  refine j0E (st':=coS (coLP q gb hb a c .ready) q []) (.cons (j0e rfl rfl) (.cons (j01 rfl rfl) (.cons (j01 rfl rfl) .nil))) rfl rfl (by kernel_rfl) ?_
  repeat'(first|refine gU ?_|apply gE<;>intro h|apply gM<;>intro h|apply gK)<;>conv=>whnf
  exact⟨rfl,rfl⟩
 |cons d r=>
  refine j0E (st':=coS (coLP q gb hb a c .ready) q (d::r)) (.cons (j0e rfl rfl) (.cons (j01 rfl rfl) (.cons (j01 rfl rfl) (.cons (j0a (j05 _)) .nil)))) rfl rfl (by kernel_rfl) ?_
  repeat'(first|refine gU ?_|apply gE<;>intro h|apply gM<;>intro h|apply gK)<;>conv=>whnf
  exact j2Q (.inr ⟨rfl,rfl⟩) rfl (j0q (.cons (j2a rfl rfl) (.cons (j00 rfl rfl) (.cons (j00 rfl rfl) (.cons (j03 (j05 _)) .nil)))) (.cons (j2a rfl rfl) (.cons (j00 rfl rfl) (.cons (j00 rfl rfl) (.cons (j03 (j05 _)) .nil)))) rfl rfl rfl rfl rfl) (j0B rfl) ⟨rfl,rfl⟩
def j0s(t:Tm):List (List UInt8):=if anyT t=true then j1u (j0f t) else[]
theorem j4t(t:Tm)(v:PV)(h:TmP t v):Pf C1 30 [v] [j4q (j0s t)]:=by
 have hr:=j1i t v h 4 1125899906842624;have hw:=jbT t v h;have hoff:¬anyT t=true→j0s t=[]:=fun e=>if_neg e
 have hon:anyT t=true→j0s t=j1u (j0f t):=fun e=>if_pos e
 have hlen:anyT t=true→(j0f t).length≤2000:=fun e=>Nat.le_trans (j3k t) (j3L e)
 have h0:=h;obtain⟨k,n,s,ls,ts,b,z,xs,c,y,ys,rfl,rfl,-⟩:=h.open;refine run_intro Tryz.func30 rfl rfl rfl ?_;repeat'(first|refine gU ?_|apply gE<;>intro h|apply gM<;>intro h|refine gX hr ?_|refine gX hw ?_|apply gK)<;>conv=>whnf
 ·have hany:anyT (.mk k n s ls ts)=true:=h;refine j0N (st0:=coS (coLP ⟨k,n,s,b,z,xs,c,y,ys⟩ (!j1c (.mk k n s ls ts) 4 1125899906842624) (j1c (.mk k n s ls ts) 4 1125899906842624) _ _ .ready) ⟨k,n,s,b,z,xs,c,y,ys⟩ []) (args0:=[.yl 0,.cp [iv k,iv n,sv s,.sl b z xs,.sl c y ys]]) rfl rfl (.cons (j01 rfl rfl) (.cons (j01 rfl rfl) (.cons (j0e rfl rfl) .nil))) rfl rfl rfl rfl (Finds.mono (jb3 ⟨k,n,s,b,z,xs,c,y,ys⟩ _ _ _ _ ?_ (.mk k n s ls ts) h0 4 _ (j0v hany).2 (by have:=j3L hany;omega)) ?_)
  ·intro t1 v1 ht1 don hd;obtain⟨k1,n1,s1,l1,t1,b1,z1,x1,c1,y1,ys1,rfl,rfl,-⟩:=ht1.open
   by_cases h3:k1=3
   ·have e:ownC (.mk k1 n1 s1 l1 t1)=[s1]:=if_pos h3;rw[e];cases don with
    |nil=>
     refine j0l rfl rfl ?_;repeat'(first|refine gU ?_|apply gE<;>intro h|apply gM<;>intro h|apply gK)<;>conv=>whnf
     exact⟨rfl,by kernel_rfl⟩
    |cons d r=>
     have hln:(svs (d::r)).length=r.length+1:=by simp
     have hp8:(svs (d::r)++[sv s1]).all (pur 8)=true:=by
      rw[show svs (d::r)++[sv s1]=svs (d::r++[s1]) by simp[svs]]
      exact j05 _
     simp only[List.length_cons] at hd;refine j0l rfl rfl ?_;repeat'(first|refine gU ?_|apply gE<;>intro h|apply gM<;>intro h|refine VOk.mk (j0o (w:=16) (r:=140737488355328) hln rfl rfl rfl rfl (by simp only[List.length_cons,List.length_nil];omega) (by simp only[List.length_cons,List.length_nil];omega)) ?_|apply gK)<;>conv=>whnf
     rw[jbj];exact⟨rfl,j2c rfl (.cons (j0e rfl rfl) (.cons (j01 rfl rfl) (.cons (j01 rfl rfl) (.cons (j0a hp8) .nil)))) rfl⟩
   ·have e:ownC (.mk k1 n1 s1 l1 t1)=[]:=if_neg h3;rw[e,List.append_nil];cases don with
    |nil=>
     refine j0l rfl rfl ?_;repeat'(first|refine gU ?_|apply gE<;>intro h|apply gM<;>intro h|apply gK)<;>conv=>whnf
     exact⟨rfl,by kernel_rfl⟩
    |cons d r=>
     refine j0l rfl rfl ?_;repeat'(first|refine gU ?_|apply gE<;>intro h|apply gM<;>intro h|apply gK)<;>conv=>whnf
     exact⟨rfl,j2c rfl (.cons (j0e rfl rfl) (.cons (j01 rfl rfl) (.cons (j01 rfl rfl) (.cons (j0a (j05 _)) .nil)))) rfl⟩
  ·rintro _ _ ⟨rfl,rfl⟩;rw[hon hany];have hl0:=hlen hany;have hpu:∀l:List (List UInt8),[j4q l].all (pur 8)=true:=fun l=>by cases l<;>rfl
   cases hct:j0f (.mk k n s ls ts) with
   |nil=>
    have hso:=j3w true 0 [] (.inr rfl) (by simp)
    refine j0p (.cons (j0e rfl rfl) (.cons (j01 rfl rfl) (.cons (j01 rfl rfl) .nil))) rfl ?_;repeat'(first|refine gU ?_|apply gE<;>intro h|apply gM<;>intro h|refine gX hso ?_|apply gK)<;>conv=>whnf
    rfl
   |cons d r=>
    rw[hct] at hl0;have hso:=j3w false 1 (d::r) (.inl rfl) (by omega)
    refine j0p (.cons (j0e rfl rfl) (.cons (j01 rfl rfl) (.cons (j01 rfl rfl) (.cons (j0a (j05 _)) .nil)))) rfl ?_;repeat'(first|refine gU ?_|apply gE<;>intro h|apply gM<;>intro h|apply gK)<;>conv=>whnf
    refine vcall_row rfl rfl (by simp) (j4n _) hso (hpu _) ?_
    repeat'(first|refine gU ?_|apply gE<;>intro h|apply gM<;>intro h|apply gK)<;>conv=>whnf
    exact vret_pf (hpu _) rfl
 ·rw[hoff (fun e=>by rw[show j1c _ 4 1125899906842624=anyT _ from rfl,e] at h;cases h)]
  rfl
end Go.Proofs.YtnfbeplfnblgjaaGreatDoor
