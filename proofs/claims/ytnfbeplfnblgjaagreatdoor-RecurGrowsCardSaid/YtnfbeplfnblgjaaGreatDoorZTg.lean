/- Terms made anew (package bind). -/
import Derived.Test.YtnfbeplfnblgjaaGreatDoorZTf
set_option linter.all false
set_option maxHeartbeats 4000000
set_option maxRecDepth 100000
namespace Go.Proofs.YtnfbeplfnblgjaaGreatDoor
open Go Go.Am Go.Gw
def bldN(put:Tm→Int→Option Tm)(t:Tm)(d left:Int)(r:List Tm×Int):Tm×Int:=if left<0 then(tz,left) else match put t d with
 |some x=>(x,left-j0r x)
 |none=>if t.args.length=0 then(t,left-j0r t) else(.mk t.kind 0 [] [] r.1,r.2)
mutual
def bldF(put:Tm→Int→Option Tm):Tm→Int→Int→Tm×Int
 | .mk k n s ls ts,d,left=>bldN put (.mk k n s ls ts) d left (j0n put ts k 0 d (left-1))
def j0n(put:Tm→Int→Option Tm):List Tm→Int→Int→Int→Int→List Tm×Int
 |[],_,_,_,left=>([],left)
 |t::r,k,i,d,left=>((bldF put t (j08 (j06 k) i d) left).1::(j0n put r k (i+1) d (bldF put t (j08 (j06 k) i d) left).2).1,(j0n put r k (i+1) d (bldF put t (j08 (j06 k) i d) left).2).2)
end
section
variable{put:Tm→Int→Option Tm}{t x:Tm}{d left:Int}{r:List Tm×Int}
theorem j1w(h:left<0):bldN put t d left r=(tz,left):=if_pos h
theorem j2w(h:¬left<0)(hp:put t d=some x):bldN put t d left r=(x,left-j0r x):=by rw[bldN,if_neg h,hp]
theorem j1C(h:¬left<0)(hp:put t d=none)(ha:t.args.length=0):bldN put t d left r=(t,left-j0r t):=by rw[bldN,if_neg h,hp];exact if_pos ha
theorem j1D(h:¬left<0)(hp:put t d=none)(ha:¬t.args.length=0):bldN put t d left r=(.mk t.kind 0 [] [] r.1,r.2):=by rw[bldN,if_neg h,hp];exact if_neg ha
end
theorem j0Y(t:Tm):0≤j0r t∧j0r t≤2001:=by rw[j1L];omega
mutual
theorem j0G(put:Tm→Int→Option Tm):∀(t:Tm) (d left:Int),-2001≤left→-2001≤(bldF put t d left).2∧(bldF put t d left).2≤left
 | .mk k n s ls ts,d,left,h=>by
  rw[bldF]
  by_cases h0:left<0
  ·rw[j1w h0];dsimp only;omega
  ·cases hp:put (.mk k n s ls ts) d with
   |some x=>
    rw[j2w h0 hp];have:=j0Y x;dsimp only;omega
   |none=>
    by_cases ha:ts.length=0
    ·rw[j1C h0 hp ha];have:=j0Y (.mk k n s ls ts);dsimp only;omega
    ·rw[j1D h0 hp ha];have:=j4y put ts k 0 d (left-1) (by omega)
     dsimp only;omega
theorem j4y(put:Tm→Int→Option Tm):∀(ts:List Tm) (k i d left:Int),-2001≤left→-2001≤(j0n put ts k i d left).2∧(j0n put ts k i d left).2≤left
 |[],k,i,d,left,h=>by simp only[j0n];omega
 |t::r,k,i,d,left,h=>by
  simp only[j0n];have h1:=j0G put t (j08 (j06 k) i d) left h;have h2:=j4y put r k (i+1) d (bldF put t (j08 (j06 k) i d) left).2 h1.1;omega
end
theorem j0w{k n:Int}{s:List UInt8}{ls:List Lv}{ts:List Tm}{kk:Int}(h:j1A (.mk k n s ls ts) kk=true)(hk:k=1):0≤n∧n<kk:=by
 simp only[j1A,if_pos hk,Bool.and_eq_true,decide_eq_true_eq] at h;exact⟨h.1,h.2.1⟩
theorem j4p{C:Cfg}{f:FuncId}{k0:Nat}{rs rs':List PV}{st st':Sto}{Q:AEnd→Sto→Prop}(hk:C.keep f=false)(hp:pubL C rs st=some (rs',st'))(hr:rs'.all (pur 8)=true)(h0:(st'.take k0).all (soIn fun i=>Nat.blt i k0)=true)(k:Q (.ret rs') (st'.take k0)):VRet C f k0 rs st Q:=by
 refine⟨rs',st'.take k0,?_,k⟩;simp only[aret,hk,hp,hr,h0,Bool.and_self]
theorem j7r{m:Int}(h:i64 m):TmP (.mk 1 m [] [] []) (encT (.mk 1 m [] [] [])):=by
 rw[j1r];simp only[TmP,TmsP,LvsP,j2N,j2g];exact⟨_,_,_,_,_,_,rfl,.inr rfl,rfl,by simp,.inr rfl,rfl,by simp,by simp,h⟩
theorem jaz{by_ from_:Int}{t:Tm}{d:Int}{x:Tm}(h:movF by_ from_ t d=some x)(hi:t.kind=1→i64 (t.num+by_)):TmP x (encT x):=by
 unfold movF at h;split at h
 ·rename_i hc;cases h;exact j7r (hi hc.1)
 ·cases h
theorem j6a(by_ from_:Int)(hby:0≤by_∧by_≤4194304)(hfr:0≤from_∧from_≤4194304)(t:Tm):∀v,TmP t v→∀p kk d left:Int,allT t p kk=true→0≤kk→kk+depT t≤2251799813685248→0≤d→d+depT t≤2251799813685248→-2001≤left→left≤2000 →
  Finds C1 252 [.bp 0 0,v,iv d] [.box 314 [j2d by_ from_,iv left]] fun r st=>r=.ret [encT (bldF (movF by_ from_) t d left).1]∧st=[.box 314 [j2d by_ from_,iv (bldF (movF by_ from_) t d left).2]]:=by
 induction t using Tm.ind with
 |_ k nn s ls ts ih=>
 intro v h p kk d left hall hk0 hk1 hd0 hd1 hl0 hl1;obtain⟨hk17,hlenk,hnode,-,hats⟩:=j0b hall;have hput:=j4F by_ from_ _ v h d (by unfold i64;omega) (fun e=>by have:=j0w hnode e;simp only[Tm.num];unfold i64;omega)
 have happ:=j2J _ v h true 0;obtain⟨_,_,_,_,_,b,z,xs,c,y,ys,⟨rfl,rfl,rfl,rfl,rfl⟩,rfl,hz,hxs,hlen,hbd,hy,hys,hlen2,hbd2,hsl⟩:=h.open;rw[depT] at hk1 hd1;cases hm:movF by_ from_ (.mk k nn s ls ts) d with
 |some x=>
  rw[hm] at hput;obtain⟨k9,n9,s9,b9,z9,x9,c9,y9,ys9,he9⟩:=j04 x;simp only[putV] at hput;rw[he9] at hput;refine run_intro Tryz.func252 rfl rfl rfl ?_;repeat'(first|refine gU ?_|apply gE<;>intro h|apply gM<;>intro h|refine finds_pf hput fun _=>?_|apply gK)<;>conv=>whnf
  ·rw[bldF,j1w (by assumption)]
   exact⟨rfl,rfl⟩
  ·have e:bldF (movF by_ from_) (.mk k nn s ls ts) d left=(x,left-j0r x):=by rw[bldF,j2w (by assumption) hm]
   have hxT:TmP x (encT x):=jaz hm (fun e=>by have:=j0w hnode e;simp only[Tm.num];unfold i64;omega)
   have hnb:=j0Y x;have hdn:=j2y 298 [.cp [iv from_],.cp [iv by_]] rfl left (by omega) (by omega) x _ hxT
   rw[he9] at hdn;refine vcall_st rfl rfl rfl rfl rfl rfl (Finds.mono hdn ?_);rintro _ _ ⟨rfl,rfl⟩;refine vback rfl ?_;repeat'(first|refine gU ?_|apply gE<;>intro h|apply gM<;>intro h|apply gK)<;>conv=>whnf
   rw[e];exact⟨by rw[he9];rfl,rfl⟩
 |none=>
  rw[hm] at hput;simp only[putV] at hput;refine run_intro Tryz.func252 rfl rfl rfl ?_;have hdn:=j2y 298 [.cp [iv from_],.cp [iv by_]] rfl left (by omega) (by omega) _ _ (j3T _ _ h)
  have hnb:=j0Y (.mk k nn s ls ts);obtain⟨k9,n9,s9,b9,z9,x9,c9,y9,ys9,he9⟩:=j04 (.mk k nn s ls ts);rw[he9] at happ hdn;repeat'(first|refine gU ?_|apply gE<;>intro h|apply gM<;>intro h|refine finds_pf hput fun _=>?_|refine gX happ ?_|apply gK)<;>conv=>whnf
  ·rw[bldF,j1w (by assumption)]
   exact⟨rfl,rfl⟩
  ·have e:bldF (movF by_ from_) (.mk k nn s ls ts) d left=(.mk k nn s ls ts,left-j0r (.mk k nn s ls ts)):=by
    rw[bldF,j1C (by assumption) hm]
    show ts.length=0
    omega
   refine vcall_st rfl rfl rfl rfl rfl rfl (Finds.mono hdn ?_);rintro _ _ ⟨rfl,rfl⟩;refine vback rfl ?_;repeat'(first|refine gU ?_|apply gE<;>intro h|apply gM<;>intro h|apply gK)<;>conv=>whnf
   rw[e];exact⟨by rw[he9];rfl,rfl⟩
  ·have hlen0:¬ts.length=0:=by omega
   have e:bldF (movF by_ from_) (.mk k nn s ls ts) d left=(.mk k 0 [] [] (j0n (movF by_ from_) ts k 0 d (left-1)).1,(j0n (movF by_ from_) ts k 0 d (left-1)).2):=by
    rw[bldF,j1D (by assumption) hm hlen0]
    rfl
   rw[e];refine loop_over (G:=Nat×Int×List Tm) (fun g=>[(53,iv g.1)]) (fun g=>match g.2.2 with
     |[]=>[.box 314 [j2d by_ from_,iv g.2.1],.box 25 [iv k,iv nn,sv s,.sl b z xs,.sl c y ys],.box 25 zTm,.box 25 zTm,.box 25 [iv k,iv 0,sv [],.sl true 0 [],.sl true 0 []]]
     |a::r=>[.box 314 [j2d by_ from_,iv g.2.1],.box 25 [iv k,iv nn,sv s,.sl b z xs,.sl c y ys],.box 25 zTm,.box 25 zTm,.box 25 [iv k,iv 0,sv [],.sl true 0 [],.ms 6 (r.length+1)],.dead,.row false 25 5 ((a::r).map encT)]) (fun g=>g.1≤ts.length∧g.2.2.length=g.1∧-2001≤g.2.1∧g.2.1≤2000∧(g.2.2++(j0n (movF by_ from_) (ts.drop g.1) k g.1 d g.2.1).1,(j0n (movF by_ from_) (ts.drop g.1) k g.1 d g.2.1).2)=j0n (movF by_ from_) ts k 0 d (left-1)) (fun g=>ts.length-g.1) (0,left-1,[]) ⟨by omega,rfl,by dsimp only;omega,by dsimp only;omega,rfl⟩ rfl rfl ?_
   rintro⟨j,lf,don⟩ ⟨hj,hdl,hlf0,hlf1,hinv⟩;dsimp only at hj hdl hlf0 hlf1 hinv;have hround:∀(hj':j<ts.length),∃tc,ts[j]?=some tc∧∃v,ys[j]?=some v∧TmP tc v∧Pf C1 300 [iv k,iv j,iv d] [iv (j08 (j06 k) j d)] ∧
     (Finds C1 252 [.bp 0 0,v,iv (j08 (j06 k) j d)] [.box 314 [j2d by_ from_,iv lf]] fun r st=>r=.ret [encT (bldF (movF by_ from_) tc (j08 (j06 k) j d) lf).1]∧st=[.box 314 [j2d by_ from_,iv (bldF (movF by_ from_) tc (j08 (j06 k) j d) lf).2]]):=fun hj'=>by
    obtain⟨tc,htc⟩:∃tc,ts[j]?=some tc:=⟨_,List.getElem?_eq_getElem hj'⟩;obtain⟨v,hv,hl⟩:=hys.at htc;have hmem:=List.mem_of_getElem? htc;have hdep:=j2k hmem;have hac:=j2u hats htc;have hi1:=j0A (j06 k) (0+j) kk;have hi2:=j0A (j06 k) j d;exact⟨tc,htc,v,hv,hl,j1Q k j d (by omega) hd0 hk17.1 (by omega),ih _ hmem _ hl p _ _ lf hac (by omega) (by omega) (by omega) (by omega) hlf0 hlf1⟩
   cases don with
   |nil=>
    obtain rfl:j=0:=hdl.symm;repeat'(first|refine gU ?_|apply gE<;>intro h|apply gM<;>intro h|apply gK)<;>conv=>whnf
    ·obtain⟨tc,htc,v,hv,hl,hin,hrec⟩:=hround (by omega)
     have hlb:=j0G (movF by_ from_) tc (j08 (j06 k) (0:Nat) d) lf hlf0;rw[drop_at htc] at hinv;simp only[j0n] at hinv;generalize hbx:bldF (movF by_ from_) tc (j08 (j06 k) (0:Nat) d) lf=bx at hrec hlb hinv;obtain⟨bt,bl⟩:=bx;obtain⟨k8,n8,s8,b8,z8,x8,c8,y8,ys8,he8⟩:=j04 bt;dsimp only at hrec hlb hinv;rw[he8] at hrec;obtain⟨k1,n1,s1,l1,t1,b2,z1,x1,c1,y1,ys1,rfl,rfl,-⟩:=hl.open;repeat'(first|refine gU ?_|apply gE<;>intro h|apply gM<;>intro h|refine VIdx.mk _ hv ?_|refine gZ hy ?_|refine finds_pf hin fun _=>?_|apply gK)<;>conv=>whnf
     refine vcall_st rfl rfl rfl rfl rfl rfl (Finds.mono hrec ?_);rintro _ _ ⟨rfl,rfl⟩;refine vback rfl ?_;repeat'(first|refine gU ?_|apply gE<;>intro h|apply gM<;>intro h|apply gK)<;>conv=>whnf
     have er:[bt].map encT=[.ag [iv k8,iv n8,sv s8,.sl b8 z8 x8,.sl c8 y8 ys8]]:=by rw[List.map_cons,he8];rfl
     exact VAgain.mk _ rfl _ (j0q (.cons (j00 rfl rfl) (.cons (j00 rfl rfl) (.cons (j00 rfl rfl) (.cons (j00 rfl rfl) (.cons (j00 rfl rfl) (.cons (j00 rfl rfl) (.cons (j03 rfl) .nil))))))) (.cons (j00 rfl rfl) (.cons (j00 rfl rfl) (.cons (j00 rfl rfl) (.cons (j00 rfl rfl) (.cons (j00 rfl rfl) (.cons j07 (.cons (j03 rfl) .nil))))))) rfl rfl rfl rfl rfl) ⟨(1,bl,[bt]),⟨by omega,rfl,by dsimp only;omega,by dsimp only;omega,hinv⟩,by dsimp only;omega,congrArg (fun t=>(⟨_,[.box _ _,.box _ _,.box _ zTm,.box _ zTm,.box _ [iv k,iv 0,sv [],.sl true 0 [],.ms 6 1],.dead,.row false _ 5 t]⟩:AS)) er.symm⟩
    ·exact absurd (by assumption:¬_) (by omega)
   |cons a r=>
    have hln:((a::r).map encT).length=r.length+1:=by simp
    have hdl':r.length+1=j:=hdl;repeat'(first|refine gU ?_|apply gE<;>intro h|apply gM<;>intro h|apply gK)<;>conv=>whnf
    ·obtain⟨tc,htc,v,hv,hl,hin,hrec⟩:=hround (by omega)
     have hlb:=j0G (movF by_ from_) tc (j08 (j06 k) j d) lf hlf0;rw[drop_at htc] at hinv;simp only[j0n] at hinv;generalize hbx:bldF (movF by_ from_) tc (j08 (j06 k) j d) lf=bx at hrec hlb hinv;obtain⟨bt,bl⟩:=bx;obtain⟨k8,n8,s8,b8,z8,x8,c8,y8,ys8,he8⟩:=j04 bt;dsimp only at hrec hlb hinv;rw[he8] at hrec;obtain⟨k1,n1,s1,l1,t1,b2,z1,x1,c1,y1,ys1,rfl,rfl,-⟩:=hl.open;repeat'(first|refine gU ?_|apply gE<;>intro h|apply gM<;>intro h|refine VIdx.mk _ hv ?_|refine gZ hy ?_|refine finds_pf hin fun _=>?_|apply gK)<;>conv=>whnf
     refine vcall_st rfl rfl rfl rfl rfl rfl (Finds.mono hrec ?_);rintro _ _ ⟨rfl,rfl⟩;refine vback rfl ?_;have hp8:((a::r).map encT++[PV.ag [iv k8,iv n8,sv s8,.sl b8 z8 x8,.sl c8 y8 ys8]]).all (pur 8)=true:=by
      rw[←he8,show(a::r).map encT++[encT bt]=(a::r++[bt]).map encT by simp]
      exact j0k _ 6
     repeat'(first|refine gU ?_|apply gE<;>intro h|apply gM<;>intro h|refine VOk.mk (j0o (w:=80) (r:=140737488355328) hln rfl rfl rfl rfl (by simp only[List.length_cons,List.length_nil];omega) (by simp only[List.length_cons,List.length_nil];omega)) ?_|apply gK)<;>conv=>whnf
     have er:(a::(r++[bt])).map encT=(a::r).map encT++[.ag [iv k8,iv n8,sv s8,.sl b8 z8 x8,.sl c8 y8 ys8]]:=by rw[←he8];simp
     have el:(r++[bt]).length+1=r.length+1+1:=by simp
     refine VAgain.mk _ rfl _ (j0q (.cons (j00 rfl rfl) (.cons (j00 rfl rfl) (.cons (j00 rfl rfl) (.cons (j00 rfl rfl) (.cons (j00 rfl rfl) (.cons j07 (.cons (j03 hp8) (.cons (j00 rfl rfl) .nil)))))))) (.cons (j00 rfl rfl) (.cons (j00 rfl rfl) (.cons (j00 rfl rfl) (.cons (j00 rfl rfl) (.cons (j00 rfl rfl) (.cons j07 (.cons (j03 hp8) .nil))))))) rfl rfl rfl rfl rfl) ⟨(j+1,bl,a::(r++[bt])),⟨by omega,by simp only[List.length_cons,List.length_append,List.length_nil];omega,by dsimp only;omega,by dsimp only;omega,?_⟩,by dsimp only;omega,?_⟩
     ·dsimp only;rw[←hinv,Int.natCast_add];simp
     ·dsimp only;rw[er,el];rfl
    ·have hj2:j=ts.length:=by omega
     rw[hj2,List.drop_length] at hinv;simp only[j0n,List.append_nil] at hinv;rw[←hinv];refine j4p rfl (j02 (j2q (j02 rfl (j02 rfl (j02 rfl (j02 rfl (j02 (j0D rfl hln.symm (j0k _ 4)) j0h)))))) j0h) rfl rfl ⟨?_,rfl⟩;rw[j1r,j0L (by simp)]
     rfl
end Go.Proofs.YtnfbeplfnblgjaaGreatDoor
