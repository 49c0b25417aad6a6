/- What slices.Concat answers where one of the lists is its caller's own row. -/
import Derived.Test.YtnfbeplfnblgjaaGreatDoorZVd
set_option linter.all false
set_option maxHeartbeats 4000000
set_option maxRecDepth 100000
namespace Go.Proofs.YtnfbeplfnblgjaaGreatDoor
open Go Go.Am Go.Gw
def LsmP(ms:List PV):List (List (List UInt8×Tm))→List PV→Prop
 |[],xs=>xs=[]
 |l::r,xs=>∃x xs',xs=x::xs'∧((∃b z ys,x=.sl b z ys∧(z=6∨ys=[])∧LosP l ys)∨(x=.ms 1 ms.length∧LosP l ms))∧LsmP ms r xs'
def catM(ms:List PV):List PV→List PV
 |[]=>[]
 | .sl _ _ ys::r=>ys++catM ms r
 |_::r=>ms++catM ms r
variable{ms:List PV}{a n:Nat}{t:Tm}
theorem LsmP.len:∀{ls:List (List (List UInt8×Tm))}{xs:List PV},LsmP ms ls xs→xs.length=ls.length
 |[],xs,h=>by simp only[LsmP] at h;simp[h]
 |l::r,xs,h=>by
  simp only[LsmP] at h;obtain⟨x,xs',rfl,_,h⟩:=h;simp[h.len]
theorem LsmP.at{ms:List PV}:∀{ls:List (List (List UInt8×Tm))}{xs:List PV}{i:Nat},LsmP ms ls xs→i<xs.length→∃x ys,xs[i]?=some x∧((∃b z,x=.sl b z ys∧(z=6∨ys=[]))∨(x=.ms 1 ms.length∧ys=ms))∧catM ms (xs.take (i+1))=catM ms (xs.take i)++ys∧ys.all (pur 6)=true∧(catM ms (xs.take i)).length+ys.length≤(catM ms xs).length
 |[],xs,i,h,hi=>by simp only[LsmP] at h;subst h;simp at hi
 |l::r,xs,i,h,hi=>by
  simp only[LsmP] at h;obtain⟨x,xs',rfl,hx,h⟩:=h;cases i with
  |zero=>
   rcases hx with⟨b,z,ys,rfl,h1,h2⟩|⟨rfl,h2⟩
   ·exact⟨_,ys,rfl,.inl ⟨b,z,rfl,h1⟩,by simp[catM],h2.pure 4,by simp[catM]⟩
   ·exact⟨_,ms,rfl,.inr ⟨rfl,rfl⟩,by simp[catM],h2.pure 4,by simp[catM]⟩
  |succ i=>
   obtain⟨y,ys,h1,h2,h3,h4,h5⟩:=h.at (i:=i) (by simpa using hi)
   refine⟨y,ys,by simpa using h1,h2,?_,h4,?_⟩
   ·rcases hx with⟨b,z,zs,rfl,_⟩|⟨rfl,_⟩
    ·simp only[List.take_succ_cons,catM,h3,List.append_assoc]
    ·simp only[List.take_succ_cons,catM,h3,List.append_assoc]
   ·rcases hx with⟨b,z,zs,rfl,_⟩|⟨rfl,_⟩
    ·simp only[List.take_succ_cons,catM,List.length_append];omega
    ·simp only[List.take_succ_cons,catM,List.length_append];omega
theorem j2T{ms:List PV}:∀{ls:List (List (List UInt8×Tm))}{xs:List PV},LsmP ms ls xs→LosP ls.flatten (catM ms xs)
 |[],xs,h=>by
  simp only[LsmP] at h;subst h;simp only[List.flatten_nil,catM,LosP]
 |l::r,xs,h=>by
  simp only[LsmP] at h;obtain⟨x,xs',rfl,hx,h⟩:=h;rcases hx with⟨b,z,ys,rfl,h1,h2⟩|⟨rfl,h2⟩
  ·simp only[List.flatten_cons,catM];exact h2.app (j2T h)
  ·simp only[List.flatten_cons,catM];exact h2.app (j2T h)
theorem j4k{i b:Nat}(h:i<n)(hab:Nat.beq a b=true):(Nat.beq n n&&Nat.blt i n&&Nat.beq a b)=true:=by
 have h1:Nat.blt i n=true:=Nat.ble_eq_true_of_le h;rw[Nat.beq_refl,h1,hab];rfl
theorem jcn{y:Nat}{l:List PV}(h:y=a∨l=[]):(Nat.beq n n&&(Nat.beq a y||l.isEmpty))=true:=by
 rw[Nat.beq_refl];exact j4x h
theorem jb2{C:Cfg}{f:FuncId}{k0:Nat}{rs rs':List PV}{st st':Sto}{Q:AEnd→Sto→Prop}(hk:C.keep f=false)(hp:pubL C rs st=some (rs',st'))(hr:rs'.all (pur 8)=true)(h0:(st'.take k0).all (soIn fun i=>Nat.blt i k0)=true)(k:Q (.ret rs') (st'.take k0)):VRet C f k0 rs st Q:=by
 refine⟨rs',st'.take k0,?_,k⟩;unfold aret;simp only[hk,hp,hr,h0,Bool.and_self]
theorem LsmP.ids:∀{ls:List (List (List UInt8×Tm))}{xs:List PV},LsmP ms ls xs→xs.all (inIds (fun i=>Nat.blt i 2) 8)=true
 |[],xs,h=>by simp only[LsmP] at h;subst h;rfl
 |l::r,xs,h=>by
  simp only[LsmP] at h;obtain⟨x,xs',rfl,hx,h⟩:=h;rcases hx with⟨b,z,ys,rfl,_⟩|⟨rfl,_⟩
  ·rw[List.all_cons,h.ids];rfl
  ·rw[List.all_cons,h.ids];rfl
def catW(ms xs:List PV):PV:=match catM ms xs with
 |[]=>.sl true 0 []
 |v::r=>.sl false 6 (v::r)
theorem j2K(p q:Bool)(ls:List (List (List UInt8×Tm)))(xs ms:List PV)(hxs:LsmP ms ls xs)(hm:ms.all (pur 8)=true)(hm0:0<ms.length)(hl:xs.length≤1000000)(hbd:(catM ms xs).length≤1000000)(hpos:0<(catM ms xs).length):Finds C9 148 [.ms 0 xs.length] [.row p 93 1 xs,.row q 94 6 ms] fun r st=>r=.ret [catW ms xs]∧st=[.row p 93 1 xs,.row q 94 6 ms]:=by
 have hlen:=hxs.len;refine run_intro Tryz.func148 rfl rfl rfl ?_;repeat'(first|refine gU ?_|apply gE<;>intro h|apply gM<;>intro h|refine VOk.mk (Nat.beq_refl _) ?_|apply gK)<;>conv=>whnf
 refine loop_over (G:=Nat) (fun i=>[(3,iv (catM ms (xs.take i)).length),(11,iv i)]) (fun _=>_) (fun i=>i≤xs.length) (fun i=>xs.length-i) 0 (by omega) rfl rfl ?_
 intro i hi;repeat'(first|refine gU ?_|apply gE<;>intro h|apply gM<;>intro h|apply gK)<;>conv=>whnf
 ·obtain⟨x,ys,h1,h2,h3,h4,h5⟩:=hxs.at (i:=i) (by omega)
  rcases h2 with⟨b,z,rfl,h2⟩|⟨rfl,rfl⟩
  ·repeat'(first|refine gU ?_|apply gE<;>intro h|apply gM<;>intro h|refine VOk.mk (Nat.beq_refl _) ?_|refine VOk.mk (j4k (by omega) rfl) ?_|refine VIdx.mk _ h1 ?_|apply gK)<;>conv=>whnf
   refine VAgain.mk _ rfl _ rfl ⟨i+1,by omega,by omega,?_⟩
   rw[h3,List.length_append];rfl
  ·repeat'(first|refine gU ?_|apply gE<;>intro h|apply gM<;>intro h|refine VOk.mk (Nat.beq_refl _) ?_|refine VOk.mk (j4k (by omega) rfl) ?_|refine VIdx.mk _ h1 ?_|apply gK)<;>conv=>whnf
   refine VAgain.mk _ rfl _ rfl ⟨i+1,by omega,by omega,?_⟩
   rw[h3,List.length_append];rfl
 ·rw[List.take_of_length_le (by omega)]
  have hg:=j6o (catM ms xs).length hpos hbd;repeat'(first|refine gU ?_|apply gE<;>intro h|apply gM<;>intro h|refine j4o hg rfl rfl (vback rfl ?_)|refine VOk.mk (Nat.beq_refl _) ?_|apply gK)<;>conv=>whnf
  refine loop_over (G:=Nat) (fun i=>[(27,iv i),(6,.ms 2 (catM ms (xs.take i)).length)]) (fun i=>[.row p 93 1 xs,.row q 94 6 ms,.row false 94 6 (catM ms (xs.take i))]) (fun i=>i≤xs.length) (fun i=>xs.length-i) 0 (by omega) rfl rfl ?_
  intro k hk;repeat'(first|refine gU ?_|apply gE<;>intro h|apply gM<;>intro h|apply gK)<;>conv=>whnf
  ·obtain⟨x,ys,h1,h2,h3,h4,h5⟩:=hxs.at (i:=k) (by omega)
   rcases h2 with⟨b,z,rfl,h2⟩|⟨rfl,rfl⟩
   ·cases ys with
    |nil=>
     rw[List.append_nil] at h3;repeat'(first|refine gU ?_|apply gE<;>intro h|apply gM<;>intro h|refine VOk.mk (Nat.beq_refl _) ?_|refine VOk.mk (j4k (by omega) rfl) ?_|refine VIdx.mk _ h1 ?_|refine VOk.mk (j4x (a:=6) (.inr rfl)) ?_|refine VOk.mk (j0o (w:=96) (r:=140737488355328) rfl rfl rfl rfl rfl (by simp only[List.length_nil];omega) (by simp only[List.length_nil];omega)) ?_|apply gK)<;>conv=>whnf
     refine VAgain.mk _ rfl _ rfl ⟨k+1,by omega,by omega,?_⟩
     rw[h3];rfl
    |cons v r=>
     repeat'(first|refine gU ?_|apply gE<;>intro h|apply gM<;>intro h|refine VOk.mk (Nat.beq_refl _) ?_|refine VOk.mk (j4k (by omega) rfl) ?_|refine VIdx.mk _ h1 ?_|refine VOk.mk (j4x (a:=6) h2) ?_|refine VOk.mk (j0o (w:=96) (r:=140737488355328) rfl rfl rfl rfl rfl (by omega) (by omega)) ?_|apply gK)<;>conv=>whnf
     refine VAgain.mk _ rfl _ rfl ⟨k+1,by omega,by omega,?_⟩
     have e:(catM ms (xs.take (k+1))).length=(catM ms (xs.take k)).length+(v::r).length:=by rw[h3,List.length_append]
     rw[e,h3];rfl
   ·cases ys with
    |nil=>exact absurd hm0 (by simp)
    |cons v r=>
     repeat'(first|refine gU ?_|apply gE<;>intro h|apply gM<;>intro h|refine VOk.mk (Nat.beq_refl _) ?_|refine VOk.mk (j4k (by omega) rfl) ?_|refine VIdx.mk _ h1 ?_|refine VOk.mk (jcn (a:=6) (.inl rfl)) ?_|refine VOk.mk (j0o (w:=96) (r:=140737488355328) rfl rfl rfl rfl rfl (by omega) (by omega)) ?_|apply gK)<;>conv=>whnf
     refine VAgain.mk _ rfl _ rfl ⟨k+1,by omega,by omega,?_⟩
     have e:(catM (v::r) (xs.take (k+1))).length=(catM (v::r) (xs.take k)).length+(v::r).length:=by rw[h3,List.length_append]
     rw[e,h3];rfl
  ·rw[List.take_of_length_le (by omega)]
   rw[show catW ms xs=.sl false 6 (catM ms xs) by
    unfold catW;cases hc:catM ms xs with
    |nil=>rw[hc] at hpos;exact absurd hpos (by simp)
    |cons v r=>rfl]
   refine jb2 rfl (j02 (j0D rfl rfl ((j2T hxs).pure 4)) j0h) rfl ?_ ⟨rfl,rfl⟩;have h1:=hxs.ids;have h2:soIn (fun i=>Nat.blt i 2) (.row q 94 6 ms)=true:=(j03 hm).2 _ (fun i hi=>by cases hi)
   show(soIn (fun i=>Nat.blt i 2) (.row p 93 1 xs)&&(soIn (fun i=>Nat.blt i 2) (.row q 94 6 ms)&&true))=true
   rw[h2,show soIn (fun i=>Nat.blt i 2) (.row p 93 1 xs)=true from h1]
   rfl
open Go Go.Am Go.Gw
theorem j8y(ns:List (List UInt8))(ab:Bool)(az:Nat)(haz:az=1∨ns=[])(hla:ns.length≤1048576)(t:Tm):∀v,TmP t v→∀p kk d left:Int,allT t p kk=true→0≤kk→kk+depT t≤2251799813685248→0≤d→d+depT t≤4194304→-2001≤left→left≤2000 →
  Finds C1 252 [.bp 0 0,v,iv d] [.box 314 [absP ab az ns,iv left]] fun r st=>r=.ret [encT (bldF (absF ns) t d left).1]∧st=[.box 314 [absP ab az ns,iv (bldF (absF ns) t d left).2]]:=by
 induction t using Tm.ind with
 |_ k nn s ls ts ih=>
 intro v h p kk d left hall hk0 hk1 hd0 hd1 hl0 hl1;have hW:=TmP.w h;obtain⟨hk17,hlenk,hnode,-,hats⟩:=j0b hall;have hn1:0≤nn∧nn≤2251799813685248:=by
  by_cases e:k=1
  ·have:=j0w hnode e;omega
  ·have:nn=0:=j4G hnode e;omega
 have hput:=jb6 ns ab az haz hla _ v h d hd0 (by omega) hn1
 have happ:=j2J _ v h true 0;obtain⟨_,_,_,_,_,b,z,xs,c,y,ys,⟨rfl,rfl,rfl,rfl,rfl⟩,rfl,hz,hxs,hlen,hbd,hy,hys,hlen2,hbd2,hsl⟩:=h.open;rw[depT] at hk1 hd1;cases hm:absF ns (.mk k nn s ls ts) d with
 |some x=>
  rw[hm] at hput;obtain⟨k9,n9,s9,b9,z9,x9,c9,y9,ys9,he9⟩:=j04 x;simp only[putV] at hput;rw[he9] at hput;refine run_intro Tryz.func252 rfl rfl rfl ?_;repeat'(first|refine gU ?_|apply gE<;>intro h|apply gM<;>intro h|refine finds_pf hput fun _=>?_|apply gK)<;>conv=>whnf
  ·rw[bldF,j1w (by assumption)]
   exact⟨rfl,rfl⟩
  ·have e:bldF (absF ns) (.mk k nn s ls ts) d left=(x,left-j0r x):=by rw[bldF,j2w (by assumption) hm]
   have hxT:TmP x (encT x):=j7v hla _ d x hW ⟨p,kk,hall,hk0,by omega⟩ hd0 (by omega) hm
   have hnb:=j0Y x;have hdn:=j2y 251 [.cp [.sl ab az (svs ns)],.cp [iv (svs ns).length],.cp [j2d (svs ns).length 0]] rfl left (by omega) (by omega) x _ hxT
   rw[he9] at hdn;refine vcall_st rfl rfl rfl rfl rfl rfl (Finds.mono hdn ?_);rintro _ _ ⟨rfl,rfl⟩;refine vback rfl ?_;repeat'(first|refine gU ?_|apply gE<;>intro h|apply gM<;>intro h|apply gK)<;>conv=>whnf
   rw[e];exact⟨by rw[he9];rfl,rfl⟩
 |none=>
  rw[hm] at hput;simp only[putV] at hput;refine run_intro Tryz.func252 rfl rfl rfl ?_;have hdn:=j2y 251 [.cp [.sl ab az (svs ns)],.cp [iv (svs ns).length],.cp [j2d (svs ns).length 0]] rfl left (by omega) (by omega) _ _ (j3T _ _ h)
  have hnb:=j0Y (.mk k nn s ls ts);obtain⟨k9,n9,s9,b9,z9,x9,c9,y9,ys9,he9⟩:=j04 (.mk k nn s ls ts);rw[he9] at happ hdn;repeat'(first|refine gU ?_|apply gE<;>intro h|apply gM<;>intro h|refine finds_pf hput fun _=>?_|refine gX happ ?_|apply gK)<;>conv=>whnf
  ·rw[bldF,j1w (by assumption)]
   exact⟨rfl,rfl⟩
  ·have e:bldF (absF ns) (.mk k nn s ls ts) d left=(.mk k nn s ls ts,left-j0r (.mk k nn s ls ts)):=by
    rw[bldF,j1C (by assumption) hm]
    show ts.length=0
    omega
   refine vcall_st rfl rfl rfl rfl rfl rfl (Finds.mono hdn ?_);rintro _ _ ⟨rfl,rfl⟩;refine vback rfl ?_;repeat'(first|refine gU ?_|apply gE<;>intro h|apply gM<;>intro h|apply gK)<;>conv=>whnf
   rw[e];exact⟨by rw[he9];rfl,rfl⟩
  ·have hlen0:¬ts.length=0:=by omega
   have e:bldF (absF ns) (.mk k nn s ls ts) d left=(.mk k 0 [] [] (j0n (absF ns) ts k 0 d (left-1)).1,(j0n (absF ns) ts k 0 d (left-1)).2):=by
    rw[bldF,j1D (by assumption) hm hlen0]
    rfl
   rw[e];refine loop_over (G:=Nat×Int×List Tm) (fun g=>[(53,iv g.1)]) (fun g=>match g.2.2 with
     |[]=>[.box 314 [absP ab az ns,iv g.2.1],.box 25 [iv k,iv nn,sv s,.sl b z xs,.sl c y ys],.box 25 zTm,.box 25 zTm,.box 25 [iv k,iv 0,sv [],.sl true 0 [],.sl true 0 []]]
     |a::r=>[.box 314 [absP ab az ns,iv g.2.1],.box 25 [iv k,iv nn,sv s,.sl b z xs,.sl c y ys],.box 25 zTm,.box 25 zTm,.box 25 [iv k,iv 0,sv [],.sl true 0 [],.ms 6 (r.length+1)],.dead,.row false 25 5 ((a::r).map encT)]) (fun g=>g.1≤ts.length∧g.2.2.length=g.1∧-2001≤g.2.1∧g.2.1≤2000∧(g.2.2++(j0n (absF ns) (ts.drop g.1) k g.1 d g.2.1).1,(j0n (absF ns) (ts.drop g.1) k g.1 d g.2.1).2)=j0n (absF ns) ts k 0 d (left-1)) (fun g=>ts.length-g.1) (0,left-1,[]) ⟨by omega,rfl,by dsimp only;omega,by dsimp only;omega,rfl⟩ rfl rfl ?_
   rintro⟨j,lf,don⟩ ⟨hj,hdl,hlf0,hlf1,hinv⟩;dsimp only at hj hdl hlf0 hlf1 hinv;have hround:∀(hj':j<ts.length),∃tc,ts[j]?=some tc∧∃v,ys[j]?=some v∧TmP tc v∧Pf C1 300 [iv k,iv j,iv d] [iv (j08 (j06 k) j d)] ∧
     (Finds C1 252 [.bp 0 0,v,iv (j08 (j06 k) j d)] [.box 314 [absP ab az ns,iv lf]] fun r st=>r=.ret [encT (bldF (absF ns) tc (j08 (j06 k) j d) lf).1]∧st=[.box 314 [absP ab az ns,iv (bldF (absF ns) tc (j08 (j06 k) j d) lf).2]]):=fun hj'=>by
    obtain⟨tc,htc⟩:∃tc,ts[j]?=some tc:=⟨_,List.getElem?_eq_getElem hj'⟩;obtain⟨v,hv,hl⟩:=hys.at htc;have hmem:=List.mem_of_getElem? htc;have hdep:=j2k hmem;have hac:=j2u hats htc;have hi1:=j0A (j06 k) (0+j) kk;have hi2:=j0A (j06 k) j d;exact⟨tc,htc,v,hv,hl,j1Q k j d (by omega) hd0 hk17.1 (by omega),ih _ hmem _ hl p _ _ lf hac (by omega) (by omega) (by omega) (by omega) hlf0 hlf1⟩
   cases don with
   |nil=>
    obtain rfl:j=0:=hdl.symm;repeat'(first|refine gU ?_|apply gE<;>intro h|apply gM<;>intro h|apply gK)<;>conv=>whnf
    ·obtain⟨tc,htc,v,hv,hl,hin,hrec⟩:=hround (by omega)
     have hlb:=j0G (absF ns) tc (j08 (j06 k) (0:Nat) d) lf hlf0;rw[drop_at htc] at hinv;simp only[j0n] at hinv;generalize hbx:bldF (absF ns) tc (j08 (j06 k) (0:Nat) d) lf=bx at hrec hlb hinv;obtain⟨bt,bl⟩:=bx;obtain⟨k8,n8,s8,b8,z8,x8,c8,y8,ys8,he8⟩:=j04 bt;dsimp only at hrec hlb hinv;rw[he8] at hrec;obtain⟨k1,n1,s1,l1,t1,b2,z1,x1,c1,y1,ys1,rfl,rfl,-⟩:=hl.open;repeat'(first|refine gU ?_|apply gE<;>intro h|apply gM<;>intro h|refine VIdx.mk _ hv ?_|refine gZ hy ?_|refine finds_pf hin fun _=>?_|apply gK)<;>conv=>whnf
     refine vcall_st rfl rfl rfl rfl rfl rfl (Finds.mono hrec ?_);rintro _ _ ⟨rfl,rfl⟩;refine vback rfl ?_;repeat'(first|refine gU ?_|apply gE<;>intro h|apply gM<;>intro h|apply gK)<;>conv=>whnf
     have er:[bt].map encT=[.ag [iv k8,iv n8,sv s8,.sl b8 z8 x8,.sl c8 y8 ys8]]:=by rw[List.map_cons,he8];rfl
     exact VAgain.mk _ rfl _ (j0q (.cons (j00 rfl rfl) (.cons (j00 rfl rfl) (.cons (j00 rfl rfl) (.cons (j00 rfl rfl) (.cons (j00 rfl rfl) (.cons (j00 rfl rfl) (.cons (j03 rfl) .nil))))))) (.cons (j00 rfl rfl) (.cons (j00 rfl rfl) (.cons (j00 rfl rfl) (.cons (j00 rfl rfl) (.cons (j00 rfl rfl) (.cons j07 (.cons (j03 rfl) .nil))))))) rfl rfl rfl rfl rfl) ⟨(1,bl,[bt]),⟨by omega,rfl,by dsimp only;omega,by dsimp only;omega,hinv⟩,by dsimp only;omega,congrArg (fun t=>(⟨_,[.box _ _,.box _ _,.box _ zTm,.box _ zTm,.box _ [iv k,iv 0,sv [],.sl true 0 [],.ms 6 1],.dead,.row false _ 5 t]⟩:AS)) er.symm⟩
    ·exact absurd (by assumption:¬_) (by omega)
   |cons a r=>
    have hln:((a::r).map encT).length=r.length+1:=by simp
    have hdl':r.length+1=j:=hdl;repeat'(first|refine gU ?_|apply gE<;>intro h|apply gM<;>intro h|apply gK)<;>conv=>whnf
    ·obtain⟨tc,htc,v,hv,hl,hin,hrec⟩:=hround (by omega)
     have hlb:=j0G (absF ns) tc (j08 (j06 k) j d) lf hlf0;rw[drop_at htc] at hinv;simp only[j0n] at hinv;generalize hbx:bldF (absF ns) tc (j08 (j06 k) j d) lf=bx at hrec hlb hinv;obtain⟨bt,bl⟩:=bx;obtain⟨k8,n8,s8,b8,z8,x8,c8,y8,ys8,he8⟩:=j04 bt;dsimp only at hrec hlb hinv;rw[he8] at hrec;obtain⟨k1,n1,s1,l1,t1,b2,z1,x1,c1,y1,ys1,rfl,rfl,-⟩:=hl.open;repeat'(first|refine gU ?_|apply gE<;>intro h|apply gM<;>intro h|refine VIdx.mk _ hv ?_|refine gZ hy ?_|refine finds_pf hin fun _=>?_|apply gK)<;>conv=>whnf
     refine vcall_st rfl rfl rfl rfl rfl rfl (Finds.mono hrec ?_);rintro _ _ ⟨rfl,rfl⟩;refine vback rfl ?_;have hp8:((a::r).map encT++[PV.ag [iv k8,iv n8,sv s8,.sl b8 z8 x8,.sl c8 y8 ys8]]).all (pur 8)=true:=by
      rw[←he8,show(a::r).map encT++[encT bt]=(a::r++[bt]).map encT by simp]
      exact j0k _ 6
     repeat'(first|refine gU ?_|apply gE<;>intro h|apply gM<;>intro h|refine VOk.mk (j0o (w:=80) (r:=140737488355328) hln rfl rfl rfl rfl (by simp only[List.length_cons,List.length_nil];omega) (by simp only[List.length_cons,List.length_nil];omega)) ?_|apply gK)<;>conv=>whnf
     have er:(a::(r++[bt])).map encT=(a::r).map encT++[.ag [iv k8,iv n8,sv s8,.sl b8 z8 x8,.sl c8 y8 ys8]]:=by rw[←he8];simp
     have el:(r++[bt]).length+1=r.length+1+1:=by simp
     refine VAgain.mk _ rfl _ (j0q (.cons (j00 rfl rfl) (.cons (j00 rfl rfl) (.cons (j00 rfl rfl) (.cons (j00 rfl rfl) (.cons (j00 rfl rfl) (.cons j07 (.cons (j03 hp8) (.cons (j00 rfl rfl) .nil)))))))) (.cons (j00 rfl rfl) (.cons (j00 rfl rfl) (.cons (j00 rfl rfl) (.cons (j00 rfl rfl) (.cons (j00 rfl rfl) (.cons j07 (.cons (j03 hp8) .nil))))))) rfl rfl rfl rfl rfl) ⟨(j+1,bl,a::(r++[bt])),⟨by omega,by simp only[List.length_cons,List.length_append,List.length_nil];omega,by dsimp only;omega,by dsimp only;omega,?_⟩,by dsimp only;omega,?_⟩
     ·dsimp only;rw[←hinv,Int.natCast_add];simp
     ·dsimp only;rw[er,el];rfl
    ·have hj2:j=ts.length:=by omega
     rw[hj2,List.drop_length] at hinv;simp only[j0n,List.append_nil] at hinv;rw[←hinv];refine j4p rfl (j02 (j2q (j02 rfl (j02 rfl (j02 rfl (j02 rfl (j02 (j0D rfl hln.symm (j0k _ 4)) j0h)))))) j0h) rfl rfl ⟨?_,rfl⟩;rw[j1r,j0L (by simp)]
     rfl
open Go Go.Am Go.Gw
def opT:List (List UInt8×Tm)→List Tm→List (List UInt8)→Option (List (List UInt8×Tm))
 |don,[],_=>some don
 |_,_::_,[]=>none
 |don,s::r,n::ns=>match InstF s (don.map fun x=>cn x.1) with
  |some x=>opT (don++[(n,x)]) r ns
  |none=>none
def j8r(t:Tm)(kind:Int)(ns:List (List UInt8)):Option (List (List UInt8×Tm)×Tm):=match j1m t kind ns.length with
 |none=>none
 |some (ss,body)=>match opT [] ss ns with
  |none=>none
  |some l=>match InstF body (l.map fun x=>cn x.1) with
   |none=>none
   |some b=>some (l,b)
def AbsF(t:Tm)(ns:List (List UInt8)):Option Tm:=if anyT t=true∧ns.length≤1048576 then j0X (absF ns) t else none
def j0P(kind:Int):List (List UInt8×Tm)→Tm→Option Tm
 |[],out=>some out
 |x::r,out=>match AbsF out [x.1] with
  |none=>none
  |some b=>if anyT x.2=true then j0P kind r (.mk kind 0 [] [] [x.2,b]) else none
def j0u(kind:Int)(body:Tm)(l:List (List UInt8×Tm)):Option Tm:=if j1y kind=true∧anyT body=true then(match j0P kind l.reverse body with
 |none=>none
 |some o=>if anyT o=true then some o else none) else none
theorem j6m(s c:List UInt8):j1e s [c] 0=if s=c then 0 else -1:=by
 simp only[j1e];rfl
theorem jb7(c:List UInt8):absF [c]=abF c:=by
 funext t d
 by_cases h:t.kind=3∧t.name=c
 ·have e:j1e t.name [c] 0=0:=by rw[j6m,if_pos h.2]
  rw[j9n ⟨h.1,by omega⟩,e]
  unfold abF;rw[if_pos h];simp
 ·rw[j3J h];refine j7u fun e=>h ⟨e.1,?_⟩
  have:=e.2;rw[j6m] at this;split at this
  ·assumption
  ·omega
theorem jcP{put:Tm→Int→Option Tm}(hs:∀t d x,put t d=some x→sizT x≤sizT t){d:Int}(h:sizT t≤2000):sizT (plF put t d)≤sizT t:=(j6T hs t d 2000 (by omega) h).2.2
theorem jb4(c:List UInt8)(h:anyT t=true):AbsF t [c]=some (plF (abF c) t 0):=by
 unfold AbsF;rw[if_pos ⟨h,by simp⟩,jb7]
 exact jbD (j9m c) (j3L h)
def jeY(kind:Int)(ss:List Tm)(body:Tm):Tm:=ss.foldr (fun s b=>.mk kind 0 [] [] [s,b]) body
def opL:List (List UInt8)→List (List UInt8)→List Tm→List (List UInt8×Tm)
 |don,n::ns,s::ss=>(n,plF (opF don) s 0)::opL (don++[n]) ns ss
 |_,_,_=>[]
open Go Go.Am Go.Gw
theorem j7m(ns:List (List UInt8))(ab:Bool)(az:Nat)(haz:az=1∨ns=[])(hla:ns.length≤1048576)(t:Tm)(v:PV)(h:TmP t v)(p kk:Int)(hall:allT t p kk=true)(hk0:0≤kk)(hk1:kk+depT t≤2251799813685248)(hd:depT t≤2000):
  Pf C1 200 [v,absP ab az ns] (putV (j0X (absF ns) t)):=by
 have hb:=j8y ns ab az haz hla t v h p kk 0 2000 hall hk0 hk1 (by omega) (by omega) (by omega) (by omega)
 have hl:=j0G (absF ns) t 0 2000 (by omega)
 have hm:j0X (absF ns) t=if(bldF (absF ns) t 0 2000).2<0 then none else some (bldF (absF ns) t 0 2000).1:=rfl
 generalize bldF (absF ns) t 0 2000=bx at hb hl hm;obtain⟨bt,bl⟩:=bx;obtain⟨k8,n8,s8,b8,z8,x8,c8,y8,ys8,he8⟩:=j04 bt;dsimp only at hb hl hm;rw[he8] at hb;obtain⟨k,nn,s,ls,ts,b,z,xs,c,y,ys,rfl,rfl,-⟩:=h.open;refine run_intro Tryz.func200 rfl rfl rfl ?_;repeat'(first|refine gU ?_|apply gE<;>intro h|apply gM<;>intro h|apply gK)<;>conv=>whnf
 refine vcall_st rfl rfl rfl rfl rfl rfl (Finds.mono hb ?_);rintro _ _ ⟨rfl,rfl⟩;refine vback rfl ?_;repeat'(first|refine gU ?_|apply gE<;>intro h|apply gM<;>intro h|apply gK)<;>conv=>whnf
 ·have e:j0X (absF ns) (.mk k nn s ls ts)=none:=by rw[hm,if_pos (by assumption)]
  rw[e];rfl
 ·have e:j0X (absF ns) (.mk k nn s ls ts)=some bt:=by rw[hm,if_neg (by assumption)]
  rw[e];simp only[putV];rw[he8];rfl
theorem j5N(t:Tm)(v:PV)(h:TmP t v)(ns:List (List UInt8))(b:Bool)(z:Nat)(hz:z=1∨ns=[])(hbd:ns.length≤8796093022208):Pf C1 197 [v,.sl b z (svs ns)] (putV (AbsF t ns)):=by
 have hr:=j1R t v h;have hmo:=j6w (svs ns).length 0;have hlen:(svs ns).length=ns.length:=by simp
 have hm:=fun(e1:anyT t=true) (e2:ns.length≤1048576)=>j7m ns b z hz e2 t v h 4 _ (j0v e1).2 (by omega) (by have:=j1P e1;omega) (j1P e1)
 have off:¬(anyT t=true∧ns.length≤1048576)→putV (AbsF t ns)=[encT tz,bv false]:=fun e=>by
  rw[AbsF,if_neg e];rfl
 have on:(anyT t=true∧ns.length≤1048576)→AbsF t ns=j0X (absF ns) t:=fun e=>if_pos e
 obtain⟨k,nn,s,ls,ts,b0,z0,x0,c,y,ys,rfl,rfl,-⟩:=h.open;refine run_intro Tryz.func197 rfl rfl rfl ?_;repeat'(first|refine gU ?_|apply gE<;>intro h|apply gM<;>intro h|refine gX hr ?_|refine gX hmo ?_|apply gK)<;>conv=>whnf
 ·rw[off (fun e=>by omega)]
  rfl
 ·have e1:anyT (.mk k nn s ls ts)=true:=by assumption
  have e2:ns.length≤1048576:=by omega
  have hm1:=hm e1 e2;rw[on ⟨e1,e2⟩];generalize j0X (absF ns) (.mk k nn s ls ts)=mo at hm1;cases mo with
  |none=>
   simp only[putV] at hm1⊢;refine j0K rfl rfl hm1 rfl ?_;repeat'(first|refine gU ?_|apply gE<;>intro h|apply gM<;>intro h|apply gK)<;>conv=>whnf
   rfl
  |some x=>
   simp only[putV] at hm1⊢;obtain⟨k8,n8,s8,b8,z8,x8,c8,y8,ys8,he8⟩:=j04 x;rw[he8] at hm1⊢;refine j0K rfl rfl hm1 rfl ?_;repeat'(first|refine gU ?_|apply gE<;>intro h|apply gM<;>intro h|apply gK)<;>conv=>whnf
   rfl
 ·rw[off (fun e=>by rw[e.1] at h;cases h)]
  rfl
end Go.Proofs.YtnfbeplfnblgjaaGreatDoor
