/- What package term finds. -/
import Derived.Test.YtnfbeplfnblgjaaGreatDoorZPl
set_option linter.all false
set_option maxHeartbeats 1000000
set_option maxRecDepth 100000
namespace Go.Proofs.YtnfbeplfnblgjaaGreatDoor
open Go Go.Am Go.Gw
mutual
def NmT(NM:List UInt8→Prop):Tm→Prop
 | .mk _ _ s _ ts=>NM s∧NmTs NM ts
def NmTs(NM:List UInt8→Prop):List Tm→Prop
 |[]=>True
 |t::r=>NmT NM t∧NmTs NM r
end
theorem NmTs.mem{NM:List UInt8→Prop}:∀{ts:List Tm},NmTs NM ts→∀t∈ts,NmT NM t
 |[],_,t,h=>by cases h
 |a::r,h,t,ht=>by
  simp only[NmTs] at h;rcases List.mem_cons.1 ht with rfl|ht
  ·exact h.1
  ·exact NmTs.mem h.2 t ht
def NmOk(NM:List UInt8→Prop):Prop:=∀s,NM s→Pf C1 53 [sv s] [bv (j1t s)]
theorem jaU(l:Lv):∀v,LvP l v→∀(left:Int),0≤left→left≤1000000→Finds C1 179 [v,.bp 0 0] [.box 3 [iv left]] fun r st=>r=.ret []∧st=[.box 3 [iv (j0y l left)]]:=by
 induction l using Lv.ind with
 |_ k nn ls ih=>
 intro v h left h0 h1;obtain⟨_,_,_,b,z,xs,⟨rfl,rfl,rfl⟩,rfl,hz,hxs,hlen,hbd⟩:=h.open;refine run_intro Tryz.func179 rfl rfl rfl ?_;repeat'(refine gU ?_)<;>conv=>whnf
 refine loop_over (G:=Nat×Int) (fun g=>[(14,iv g.1)]) (fun g=>[.box 3 [iv g.2],_]) (fun g=>g.1≤ls.length∧-1≤g.2∧g.2≤1000000∧j0d (ls.drop g.1) g.2=j0d ls (left-1)) (fun g=>ls.length-g.1) (0,left-1) ⟨by omega,by dsimp only;omega,by dsimp only;omega,rfl⟩ rfl rfl ?_
 rintro⟨i,lf⟩ ⟨hi,hlf0,hlf1,hall⟩;dsimp only at hi hlf0 hlf1 hall⊢;repeat'(first|refine gU ?_|apply gE<;>intro h)<;>conv=>whnf
 ·have hi':i<ls.length:=by omega
  obtain⟨lc,hlc⟩:∃lc,ls[i]?=some lc:=⟨_,List.getElem?_eq_getElem hi'⟩;obtain⟨v,hv,hl⟩:=hxs.at hlc;obtain⟨k1,n1,l1,b1,z1,x1,rfl,rfl,hz1,hxs1,hlen1,hbd1⟩:=hl.open;refine VIdx.mk _ hv (VOk.mk (szOk_of rfl hz) ?_);repeat'(first|refine gU ?_|apply gE<;>intro h)<;>conv=>whnf
  ·have:j0y (.mk k nn ls) left=lf:=by rw[j0y,←hall,j1q _ _ (by omega)]
   exact⟨rfl,by rw[this];rfl⟩
  ·refine vcall_st rfl rfl rfl rfl rfl rfl (Finds.mono (ih _ (List.mem_of_getElem? hlc) _ hl lf (by omega) (by omega)) ?_)
   rintro _ _ ⟨rfl,rfl⟩;refine vback rfl ?_;repeat'(refine gU ?_)<;>conv=>whnf
   have hcg:=j2j (.mk k1 n1 l1) lf (by omega)
   refine VAgain.mk _ rfl _ (gc_take rfl rfl rfl) ⟨(i+1,j0y (.mk k1 n1 l1) lf),⟨hi',by dsimp only;omega,by dsimp only;omega,?_⟩,by dsimp only;omega,rfl⟩
   rw[←hall,drop_at hlc,j0d,if_neg (by omega)]
 ·have:j0y (.mk k nn ls) left=lf:=by
   obtain rfl:i=ls.length:=by omega
   rw[List.drop_length,j0d] at hall;rw[j0y,←hall]
  exact⟨rfl,by rw[this];rfl⟩
theorem j8F(t:Tm):∀v,TmP t v→∀(left:Int),0≤left→left≤1000000→Finds C1 120 [v,.bp 0 0] [.box 3 [iv left]] fun r st=>r=.ret []∧st=[.box 3 [iv (cntT t left)]]:=by
 induction t using Tm.ind with
 |_ k nn s ls ts ih=>
 intro v h left h0 h1;obtain⟨_,_,_,_,_,b,z,xs,c,y,ys,⟨rfl,rfl,rfl,rfl,rfl⟩,rfl,hz,hxs,hlen,hbd,hy,hys,hlen2,hbd2,hsl⟩:=h.open;refine run_intro Tryz.func120 rfl rfl rfl ?_;repeat'(refine gU ?_)<;>conv=>whnf
 refine loop_over (G:=Nat×Int) (fun g=>[(16,iv g.1)]) (fun g=>[.box 3 [iv g.2],_]) (fun g=>g.1≤ls.length∧-1≤g.2∧g.2≤1000000∧j0d (ls.drop g.1) g.2=j0d ls (left-1)) (fun g=>ls.length-g.1) (0,left-1) ⟨by omega,by dsimp only;omega,by dsimp only;omega,rfl⟩ rfl rfl ?_
 rintro⟨i,lf⟩ ⟨hi,hlf0,hlf1,hall⟩;dsimp only at hi hlf0 hlf1 hall⊢;repeat'(first|refine gU ?_|apply gE<;>intro h)<;>conv=>whnf
 ·have hi':i<ls.length:=by omega
  obtain⟨lc,hlc⟩:∃lc,ls[i]?=some lc:=⟨_,List.getElem?_eq_getElem hi'⟩;obtain⟨v,hv,hl⟩:=hxs.at hlc;have hu:=jaU lc _ hl;obtain⟨k1,n1,l1,b1,z1,x1,rfl,rfl,hz1,hxs1,hlen1,hbd1⟩:=hl.open;refine VIdx.mk _ hv (VOk.mk (szOk_of rfl hz) ?_);repeat'(first|refine gU ?_|apply gE<;>intro h)<;>conv=>whnf
  ·have:cntT (.mk k nn s ls ts) left=lf:=by rw[cntT,←hall,j1q _ _ (by omega),j1E _ _ (by omega)]
   exact⟨rfl,by rw[this];rfl⟩
  ·refine vcall_st rfl rfl rfl rfl rfl rfl (Finds.mono (hu lf (by omega) (by omega)) ?_)
   rintro _ _ ⟨rfl,rfl⟩;refine vback rfl ?_;repeat'(refine gU ?_)<;>conv=>whnf
   have hcg:=j2j (.mk k1 n1 l1) lf (by omega)
   refine VAgain.mk _ rfl _ (gc_take rfl rfl rfl) ⟨(i+1,j0y (.mk k1 n1 l1) lf),⟨hi',by dsimp only;omega,by dsimp only;omega,?_⟩,by dsimp only;omega,rfl⟩
   rw[←hall,drop_at hlc,j0d,if_neg (by omega)]
 ·have hlf:j0d ls (left-1)=lf:=by
   obtain rfl:i=ls.length:=by omega
   rw[List.drop_length,j0d] at hall;exact hall.symm
  refine loop_over (G:=Nat×Int) (fun g=>[(31,iv g.1)]) (fun g=>[.box 3 [iv g.2],_]) (fun g=>g.1≤ts.length∧-1≤g.2∧g.2≤1000000∧j1S (ts.drop g.1) g.2=j1S ts lf) (fun g=>ts.length-g.1) (0,lf) ⟨by omega,by dsimp only;omega,by dsimp only;omega,rfl⟩ rfl rfl ?_
  rintro⟨j,lg⟩ ⟨hj,hlg0,hlg1,hallg⟩;dsimp only at hj hlg0 hlg1 hallg⊢;repeat'(first|refine gU ?_|apply gE<;>intro h)<;>conv=>whnf
  ·have hj':j<ts.length:=by omega
   obtain⟨tc,htc⟩:∃tc,ts[j]?=some tc:=⟨_,List.getElem?_eq_getElem hj'⟩;obtain⟨v,hv,hl⟩:=hys.at htc;obtain⟨k1,n1,s1,l1,t1,b1,z1,x1,c1,y1,ys1,rfl,rfl,hz1,hxs1,hlen1,hbd1,hy1,hys1,hlen21,hbd21,hsl1⟩:=hl.open;refine VIdx.mk _ hv (VOk.mk (szOk_of rfl hy) ?_);repeat'(first|refine gU ?_|apply gE<;>intro h)<;>conv=>whnf
   ·have:cntT (.mk k nn s ls ts) left=lg:=by rw[cntT,hlf,←hallg,j1E _ _ (by omega)]
    exact⟨rfl,by rw[this];rfl⟩
   ·refine vcall_st rfl rfl rfl rfl rfl rfl (Finds.mono (ih _ (List.mem_of_getElem? htc) _ hl lg (by omega) (by omega)) ?_)
    rintro _ _ ⟨rfl,rfl⟩;refine vback rfl ?_;repeat'(refine gU ?_)<;>conv=>whnf
    have hcg:=j5a (.mk k1 n1 s1 l1 t1) lg (by omega)
    refine VAgain.mk _ rfl _ (gc_take rfl rfl rfl) ⟨(j+1,cntT (.mk k1 n1 s1 l1 t1) lg),⟨hj',by dsimp only;omega,by dsimp only;omega,?_⟩,by dsimp only;omega,rfl⟩
    rw[←hallg,drop_at htc,j1S,if_neg (by omega)]
  ·have:cntT (.mk k nn s ls ts) left=lg:=by
    obtain rfl:j=ts.length:=by omega
    rw[List.drop_length,j1S] at hallg;rw[cntT,hlf,←hallg]
   exact⟨rfl,by rw[this];rfl⟩
theorem j4H(t:Tm)(v:PV)(h:TmP t v):Pf C1 67 [v] [iv (j0r t)]:=by
 have h0:=h;obtain⟨k,nn,s,ls,ts,b,z,xs,c,y,ys,rfl,rfl,hz,hxs,hlen,hbd,hy,hys,hlen2,hbd2,hsl⟩:=h.open;have hcg:=j5a (.mk k nn s ls ts) 2000 (by omega)
 refine run_intro Tryz.func67 rfl rfl rfl ?_;repeat'(refine gU ?_)<;>conv=>whnf
 refine vcall_st rfl rfl rfl rfl rfl rfl (Finds.mono (j8F _ _ h0 2000 (by omega) (by omega)) ?_)
 rintro _ _ ⟨rfl,rfl⟩;refine vback rfl ?_;repeat'(refine gU ?_)<;>conv=>whnf
 all_goals simp only[j0r,j8g]
 all_goals simp_all
 all_goals omega
def j2r(a l b:Int):PV:=.ag [iv a,iv l,iv b]
def jcV:List PV:=[j2r 0 0 0,j2r 0 0 (-1),j2r 0 1 (-1),j2r 0 0 (-1),j2r 2 0 (-1),j2r 2 0 1,j2r 2 0 1,j2r 3 0 2]
theorem j9c:∃b,Pf C1 186 [] [.sl b 3 jcV]:=by
 first
  |exact⟨true,pf_of (st':=[]) 3 (by kernel_rfl)⟩
  |exact⟨false,pf_of (st':=[]) 3 (by kernel_rfl)⟩
theorem j9b(k:Int):Pf C1 130 [iv k] [j2r (j1O k) (j1g k) (if 1≤k∧k≤7 then j06 k else 0),bv (decide (1≤k)&&decide (k≤7))]:=by
 obtain⟨b,hs⟩:=j9c;refine run_intro Tryz.func130 rfl rfl rfl ?_;repeat'(first|refine gU ?_|apply gE<;>intro h|refine gX hs ?_)<;>conv=>whnf
 ·have:¬(1≤k∧k≤7):=by omega
  rw[j1O,if_neg (by omega),if_neg (by omega),j1g,if_neg (by omega),if_neg this]
  simp;exact⟨rfl,by omega⟩
 ·have:¬(1≤k∧k≤7):=by omega
  rw[j1O,if_neg (by omega),if_neg (by omega),j1g,if_neg (by omega),if_neg this]
  simp;exact⟨rfl,by omega⟩
 ·obtain rfl|rfl|rfl|rfl|rfl|rfl|rfl:k=1∨k=2∨k=3∨k=4∨k=5∨k=6∨k=7:=by omega
  all_goals
   repeat'(first|refine gU ?_|refine VIdx.mk _ rfl ?_)<;>conv=>whnf
   rfl
theorem jaj(a l b i d:Int)(hd:d≤4611686018427387904)(hd0:0≤d):Pf C1 133 [j2r a l b,iv i,iv d] [iv (j08 b i d)]:=by
 refine run_intro Tryz.func133 rfl rfl rfl ?_;repeat'(first|refine gU ?_|apply gE<;>intro h)<;>conv=>whnf
 all_goals simp_all[j08]
theorem jaE(t:Tm)(v:PV)(h:TmP t v)(a b kk:Int)(hnm:Pf C1 53 [sv t.name] [bv (j1t t.name)]):Pf C1 131 [v,j2r a (j1g t.kind) b,iv kk] [bv (j1A t kk)]:=by
 obtain⟨k,n,s,ls,ts,b,z,xs,c,y,ys,rfl,rfl,hz,hxs,hlen,hbd,hy,hys,hlen2,hbd2,hsl⟩:=h.open;simp only[Tm.name,Tm.kind] at hnm⊢;refine run_intro Tryz.func131 rfl rfl rfl ?_;repeat'(first|refine gU ?_|apply gE<;>intro h|apply gM<;>intro h|refine gX hnm ?_|refine VRes.mk _ seql ?_)<;>conv=>whnf
 all_goals simp_all[j1A]
 all_goals first|done|omega|(intros;omega)
variable{ls:List Lv}{NM:List UInt8→Prop}
theorem jb8(hNM:NmOk NM)(t:Tm):∀v,TmP t v→NmT NM t→∀n kk:Int,0≤kk→kk+depT t≤2251799813685248→Pf C1 75 [v,iv n,iv kk] [bv (allT t n kk)]:=by
 induction t using Tm.ind with
 |_ k nn s ls ts ih=>
 intro v h hnt n kk hk0 hk1;simp only[NmT] at hnt;have hnode:=fun a b=>jaE _ v h a b kk (hNM s hnt.1)
 have hsh:=j9b k;obtain⟨_,_,_,_,_,b,z,xs,c,y,ys,⟨rfl,rfl,rfl,rfl,rfl⟩,rfl,hz,hxs,hlen,hbd,hy,hys,hlen2,hbd2,hsl⟩:=h.open;simp only[Tm.kind] at hnode;rw[depT] at hk1;refine run_intro Tryz.func75 rfl rfl rfl ?_;repeat'(first|refine gU ?_|apply gE<;>intro h|apply gM<;>intro h|refine gX hsh ?_|refine gX (hnode _ _) ?_)<;>conv=>whnf
 ·have hk17:1≤k∧k≤7:=by simp_all
  have hall0:allT (.mk k nn s ls ts) n kk=(j0F ls n&&j0g ts k 0 n kk):=by simp_all[allT]
  rw[if_pos hk17];refine loop_over (G:=Nat) (fun i=>[(39,iv i)]) (fun _=>_) (fun i=>i≤ls.length∧j0F (ls.drop i) n=j0F ls n) (fun i=>ls.length-i) 0 ⟨by omega,rfl⟩ rfl rfl ?_
  rintro i ⟨hi,hall⟩;repeat'(first|refine gU ?_|apply gE<;>intro h)<;>conv=>whnf
  ·have hi':i<ls.length:=by omega
   obtain⟨lc,hlc⟩:∃lc,ls[i]?=some lc:=⟨_,List.getElem?_eq_getElem hi'⟩;obtain⟨v,hv,hl⟩:=hxs.at hlc;have hr:=jaN lc _ hl n;obtain⟨k1,n1,l1,b1,z1,x1,rfl,rfl,hz1,hxs1,hlen1,hbd1⟩:=hl.open;refine VIdx.mk _ hv (VOk.mk (szOk_of rfl hz) ?_);rw[drop_at hlc] at hall;simp only[j0F] at hall;repeat'(first|refine gU ?_|apply gM<;>intro h|refine gX hr ?_)<;>conv=>whnf
   ·refine VAgain.mk _ rfl _ (gc_take rfl rfl rfl) ⟨i+1,⟨hi',?_⟩,by omega,rfl⟩
    rw[←hall,h];rfl
   ·have:j0F ls n=false:=by
     rw[←hall,h];rfl
    rw[hall0,this];rfl
  ·have hls:j0F ls n=true:=by
    rw[←hall,List.drop_of_length_le (by omega)]
    rfl
   refine loop_over (G:=Nat) (fun i=>[(51,iv i)]) (fun _=>_) (fun j=>j≤ts.length∧j0g (ts.drop j) k j n kk=j0g ts k 0 n kk) (fun i=>ts.length-i) 0 ⟨by omega,rfl⟩ rfl rfl ?_
   rintro j ⟨hj,hallj⟩;repeat'(first|refine gU ?_|apply gE<;>intro h)<;>conv=>whnf
   ·have hj':j<ts.length:=by omega
    obtain⟨tc,htc⟩:∃tc,ts[j]?=some tc:=⟨_,List.getElem?_eq_getElem hj'⟩;obtain⟨v,hv,hl⟩:=hys.at htc;have hmem:=List.mem_of_getElem? htc;have hdep:=j2k hmem;have hin:=jaj (j1O k) (j1g k) (j06 k) j kk (by omega) hk0
    have hinb:0≤j08 (j06 k) j kk∧j08 (j06 k) j kk≤kk+1:=by unfold j08;split<;>omega
    have hrec:=ih _ hmem _ hl (hnt.2.mem _ hmem) n (j08 (j06 k) j kk) hinb.1 (by omega)
    obtain⟨k1,n1,s1,l1,t1,b1,z1,x1,c1,y1,ys1,rfl,rfl,hz1,hxs1,hlen1,hbd1,hy1,hys1,hlen21,hbd21,hsl1⟩:=hl.open;refine VIdx.mk _ hv (VOk.mk (szOk_of rfl hy) ?_);rw[drop_at htc] at hallj;simp only[j0g] at hallj;repeat'(first|refine gU ?_|apply gM<;>intro h|refine finds_pf hin fun _=>?_|refine finds_pf hrec fun _=>?_|apply gK)<;>conv=>whnf
    ·refine VAgain.mk _ rfl _ (gc_take rfl rfl rfl) ⟨j+1,⟨hj',?_⟩,by omega,rfl⟩
     rw[←hallj,h,Int.natCast_add];rfl
    ·have:j0g ts k 0 n kk=false:=by
      rw[←hallj,h];rfl
     rw[hall0,hls,this];rfl
   ·have hts:j0g ts k 0 n kk=true:=by
     rw[←hallj,List.drop_of_length_le (by omega)]
     rfl
    rw[hall0,hls,hts];rfl
 all_goals simp_all[allT]
 all_goals first|done|omega|(intros;omega)
theorem j8Y(hNM:NmOk NM)(t:Tm)(v:PV)(h:TmP t v)(hnt:NmT NM t)(n kk:Int):Pf C1 31 [v,iv n,iv kk] [bv (j1c t n kk)]:=by
 have hn:=j4H t v h;have ha:=fun(h0:0≤kk) (h1:j0r t≤2000)=>jb8 hNM t v h hnt n (min kk 1125899906842624) (by omega) (by have:=j6z h1;omega)
 rw[show min kk 1125899906842624=if 1125899906842624<kk then 1125899906842624 else kk from(j6v _ _).symm] at ha
 obtain⟨k,nn,s,ls,ts,b,z,xs,c,y,ys,rfl,rfl,hz,hxs,hlen,hbd,hy,hys,hlen2,hbd2,hsl⟩:=h.open;refine run_intro Tryz.func31 rfl rfl rfl ?_;repeat'(first|refine gU ?_|apply gE<;>intro h|refine gX hn ?_|refine gX (ha (by assumption) (by assumption)) ?_)<;>conv=>whnf
 all_goals simp only[j1c,←j6v]
 all_goals simp_all
 all_goals first|done|rfl|omega|(intros;omega)
open Go Go.Am Go.Gw
mutual
def encL:Lv→PV
 | .mk k n ls=>.ag [iv k,iv n,match ls with
  |[]=>.sl true 0 []
  |l::r=>.sl false 3 (j6g (l::r))]
def j6g:List Lv→List PV
 |[]=>[]
 |l::r=>encL l::j6g r
end
def j2N(ls:List Lv):PV:=match ls with
 |[]=>.sl true 0 []
 |l::r=>.sl false 3 (j6g (l::r))
theorem j7K:∀ls:List Lv,j6g ls=ls.map encL
 |[]=>rfl
 |l::r=>by rw[j6g,j7K r];rfl
mutual
theorem ja0:∀(l:Lv) (v:PV),LvP l v→LvP l (encL l)
 | .mk k n ls,v,h=>by
  simp only[LvP] at h;obtain⟨b,z,xs,rfl,hz,hxs,hb⟩:=h;have:=j5h ls xs hxs;cases ls with
  |nil=>simp only[encL,LvP,LvsP];exact⟨_,_,_,rfl,.inr rfl,rfl,hb⟩
  |cons l r=>simp only[encL,LvP];exact⟨_,_,_,rfl,.inl rfl,this,hb⟩
theorem j5h:∀(ls:List Lv) (xs:List PV),LvsP ls xs→LvsP ls (j6g ls)
 |[],_,_=>by simp only[j6g,LvsP]
 |l::r,xs,h=>by
  simp only[LvsP] at h;obtain⟨v,xs',rfl,h1,h2⟩:=h;simp only[j6g,LvsP];exact⟨_,_,rfl,ja0 l v h1,j5h r xs' h2⟩
end
theorem ja1(l:Lv):∀n,pur (n+2) (encL l)=true:=fun n=>by
 obtain⟨k,nn,ls⟩:=l;cases ls<;>rfl
theorem j1G(ls:List Lv)(n:Nat):(ls.map encL).all (pur (n+2))=true:=by
 rw[List.all_eq_true]
 intro x hx;obtain⟨l,_,rfl⟩:=List.mem_map.1 hx;exact ja1 l n
abbrev zLv:List PV:=[iv 0,iv 0,.sl true 0 []]
abbrev zTm:List PV:=[iv 0,iv 0,sv [],.sl true 0 [],.sl true 0 []]
theorem j5g(k n:Int)(ls:List Lv):encL (.mk k n ls)=.ag [iv k,iv n,j2N ls]:=by cases ls<;>simp[encL,j2N]
theorem j2l(l:Lv):∃k n b z xs,encL l=.ag [iv k,iv n,.sl b z xs]:=by
 obtain⟨k,n,ls⟩:=l;rw[j5g];cases ls with
 |nil=>exact⟨_,_,_,_,_,rfl⟩
 |cons l r=>exact⟨_,_,_,_,_,rfl⟩
theorem j6h(h:0<ls.length):j2N ls=.sl false 3 (ls.map encL):=by
 cases ls with
 |nil=>simp at h
 |cons l r=>simp only[j2N,j7K]
theorem jcK(k:Int)(ls:List Lv)(ih:∀l∈ls,∀v,LvP l v→Pf C1 110 [v] [encL l])(b:Bool)(z:Nat)(xs:List PV)(hz:z=3∨xs=[])(hxs:LvsP ls xs)(hbd:ls.length≤3518437208780):
  Pf C1 111 [iv k,.sl b z xs] [encL (.mk k 0 ls)]:=by
 have hlen:=hxs.len;refine run_intro Tryz.func111 rfl rfl rfl ?_;repeat'(refine gU ?_)<;>conv=>whnf
 refine loop_over (G:=Nat) (fun i=>[(12,iv i)]) (fun i=>match i with
   |0=>[.box 41 zLv,.box 41 [iv k,iv 0,.sl true 0 []]]
   |n+1=>[.box 41 zLv,.box 41 [iv k,iv 0,.ms 3 (n+1)],.dead,.row false 41 3 ((ls.take (n+1)).map encL)]) (fun i=>i≤ls.length) (fun i=>ls.length-i) 0 (by omega) rfl rfl ?_
 intro i hi;have hround:∀(hi':i<ls.length),∃lc,ls[i]?=some lc∧∃v,xs[i]?=some v∧LvP lc v∧Pf C1 110 [v] [encL lc]:=fun hi'=>by
  obtain⟨lc,hlc⟩:∃lc,ls[i]?=some lc:=⟨_,List.getElem?_eq_getElem hi'⟩;obtain⟨v,hv,hl⟩:=hxs.at hlc;exact⟨lc,hlc,v,hv,hl,ih _ (List.mem_of_getElem? hlc) _ hl⟩
 cases i with
 |zero=>
  repeat'(first|refine gU ?_|apply gE<;>intro h)<;>conv=>whnf
  ·obtain⟨lc,hlc,v,hv,hl,hpl⟩:=hround (by omega)
   have e:(ls.take (0+1)).map encL=[encL lc]:=by rw[take_snoc' hlc];rfl
   obtain⟨k2,n2,b2,z2,x2,he⟩:=j2l lc;rw[he] at hpl e;obtain⟨k1,n1,l1,b1,z1,x1,rfl,rfl,hz1,hxs1,hlen1,hbd1⟩:=hl.open;refine VIdx.mk _ hv (VOk.mk (szOk_of rfl hz) ?_);repeat'(first|refine gU ?_|refine finds_pf hpl fun _=>?_|apply gK)<;>conv=>whnf
   exact VAgain.mk _ rfl _ (j0q (.cons (j00 rfl rfl) (.cons (j00 rfl rfl) (.cons (j00 rfl rfl) (.cons (j03 rfl) .nil)))) (.cons (j00 rfl rfl) (.cons (j00 rfl rfl) (.cons j07 (.cons (j03 rfl) .nil)))) rfl rfl rfl rfl rfl) ⟨1,by omega,by omega,congrArg (fun t=>(⟨_,[.box _ zLv,.box _ [iv k,iv 0,.ms 3 1],.dead,.row false _ 3 t]⟩:AS)) e.symm⟩
  ·obtain rfl:ls=[]:=List.eq_nil_of_length_eq_zero (by omega)
   rfl
 |succ i=>
  have hln:((ls.take (i+1)).map encL).length=i+1:=by simp;omega
  repeat'(first|refine gU ?_|apply gE<;>intro h)<;>conv=>whnf
  ·obtain⟨lc,hlc,v,hv,hl,hpl⟩:=hround (by omega)
   have e:(ls.take (i+1+1)).map encL=(ls.take (i+1)).map encL++[encL lc]:=by rw[take_snoc' hlc];simp
   have hp8:((ls.take (i+1)).map encL++[encL lc]).all (pur 8)=true:=e▸j1G _ 6;obtain⟨k2,n2,b2,z2,x2,he⟩:=j2l lc;rw[he] at hpl e hp8;obtain⟨k1,n1,l1,b1,z1,x1,rfl,rfl,hz1,hxs1,hlen1,hbd1⟩:=hl.open;refine VIdx.mk _ hv (VOk.mk (szOk_of rfl hz) ?_);repeat'(first|refine gU ?_|refine finds_pf hpl fun _=>?_|refine VOk.mk (j0o (w:=40) (r:=140737488355328) hln rfl rfl rfl rfl (by simp only[List.length_cons,List.length_nil];omega) (by simp only[List.length_cons,List.length_nil];omega)) ?_|apply gK)<;>conv=>whnf
   exact VAgain.mk _ rfl _ (j0q (.cons (j00 rfl rfl) (.cons (j00 rfl rfl) (.cons j07 (.cons (j03 hp8) (.cons (j00 rfl rfl) .nil))))) (.cons (j00 rfl rfl) (.cons (j00 rfl rfl) (.cons j07 (.cons (j03 hp8) .nil)))) rfl rfl rfl rfl rfl) ⟨i+1+1,by omega,by omega,congrArg (fun t=>(⟨_,[.box _ zLv,.box _ [iv k,iv 0,.ms 3 (i+1+1)],.dead,.row false _ 3 t]⟩:AS)) e.symm⟩
  ·have hi':i+1=ls.length:=by omega
   have e:(ls.take (i+1)).map encL=ls.map encL:=by rw[hi',List.take_length]
   refine j0O rfl (j02 (j2q (j02 rfl (j02 rfl (j02 (j0D rfl hln.symm (j1G _ 4)) j0h)))) j0h) rfl ?_;rw[j5g,j6h (by omega),←e]
theorem j8E(l:Lv):∀v,LvP l v→Pf C1 110 [v] [encL l]:=by
 induction l using Lv.ind with
 |_ k nn ls ih=>
 intro v h;obtain⟨_,_,_,b,z,xs,⟨rfl,rfl,rfl⟩,rfl,hz,hxs,hlen,hbd⟩:=h.open;have hm:=jcK k ls ih b z xs hz hxs hbd;rw[j5g] at hm⊢;obtain⟨b2,z2,x2,he⟩:∃b z xs,j2N ls=.sl b z xs:=by cases ls<;>exact⟨_,_,_,rfl⟩
 rw[he] at hm⊢;refine run_intro Tryz.func110 rfl rfl rfl ?_;repeat'(first|refine gU ?_|refine gX hm ?_)<;>conv=>whnf
 rfl
theorem jbE(l:Lv)(v:PV)(h:LvP l v)(b:Bool)(z:Nat)(hz:z=3):Pf C1 62 [.sl b z [v]] [encL l]:=by
 have hc:=j8E l v h;obtain⟨k2,n2,b2,z2,x2,he⟩:=j2l l;rw[he] at hc⊢;subst hz;obtain⟨k1,n1,l1,b1,z1,x1,rfl,rfl,hz1,hxs1,hlen1,hbd1⟩:=h.open;refine run_intro Tryz.func62 rfl rfl rfl ?_;repeat'(first|refine gU ?_|refine gX hc ?_|refine VIdx.mk _ rfl ?_)<;>conv=>whnf
 rfl
mutual
def encT:Tm→PV
 | .mk k n s ls ts=>.ag [iv k,iv n,sv s,j2N ls,match ts with
  |[]=>.sl true 0 []
  |t::r=>.sl false 5 (j6k (t::r))]
def j6k:List Tm→List PV
 |[]=>[]
 |t::r=>encT t::j6k r
end
def j2g(ts:List Tm):PV:=match ts with
 |[]=>.sl true 0 []
 |t::r=>.sl false 5 (j6k (t::r))
theorem j5i:∀ts:List Tm,j6k ts=ts.map encT
 |[]=>rfl
 |t::r=>by rw[j6k,j5i r];rfl
theorem j1r(k n:Int)(s:List UInt8)(ls:List Lv)(ts:List Tm):encT (.mk k n s ls ts)=.ag [iv k,iv n,sv s,j2N ls,j2g ts]:=by cases ts<;>simp[encT,j2g]
theorem j0L{ts:List Tm}(h:0<ts.length):j2g ts=.sl false 5 (ts.map encT):=by
 cases ts with
 |nil=>simp at h
 |cons l r=>simp only[j2g,j5i]
theorem j8L(ls:List Lv):∃b z xs,j2N ls=.sl b z xs:=by cases ls<;>exact⟨_,_,_,rfl⟩
theorem j4A(ls:List Tm):∃b z xs,j2g ls=.sl b z xs:=by cases ls<;>exact⟨_,_,_,rfl⟩
theorem j04(t:Tm):∃k n s b z xs c y ys,encT t=.ag [iv k,iv n,sv s,.sl b z xs,.sl c y ys]:=by
 obtain⟨k,n,s,ls,ts⟩:=t;obtain⟨b,z,xs,h1⟩:=j8L ls;obtain⟨c,y,ys,h2⟩:=j4A ts;rw[j1r,h1,h2];exact⟨_,_,_,_,_,_,_,_,_,rfl⟩
theorem j6j(t:Tm)(n:Nat):pur (n+2) (encT t)=true:=by
 obtain⟨k,nn,s,b,z,xs,c,y,ys,h⟩:=j04 t;rw[h];rfl
theorem j0k(ts:List Tm)(n:Nat):(ts.map encT).all (pur (n+2))=true:=by
 rw[List.all_eq_true]
 intro x hx;obtain⟨l,_,rfl⟩:=List.mem_map.1 hx;exact j6j l n
theorem j7L{xs:List PV}(h:LvsP ls xs):∃b z xs',j2N ls=.sl b z xs'∧(z=3∨xs'=[])∧LvsP ls xs':=by
 cases ls with
 |nil=>exact⟨_,_,_,rfl,.inr rfl,by simp only[LvsP]⟩
 |cons l r=>exact⟨_,_,_,rfl,.inl rfl,j5h _ _ h⟩
mutual
theorem j3T:∀(t:Tm) (v:PV),TmP t v→TmP t (encT t)
 | .mk k n s ls ts,v,h=>by
  simp only[TmP] at h;obtain⟨b,z,xs,c,y,ys,rfl,hz,hxs,hb,hy,hys,hc,hs,hn⟩:=h;obtain⟨b1,z1,xs1,e1,e2,e3⟩:=j7L hxs;have:=j7M ts ys hys;rw[j1r,e1];cases ts with
  |nil=>simp only[j2g,TmP,TmsP];exact⟨_,_,_,_,_,_,rfl,e2,e3,hb,.inr rfl,rfl,hc,hs,hn⟩
  |cons t r=>simp only[j2g,TmP];exact⟨_,_,_,_,_,_,rfl,e2,e3,hb,.inl rfl,this,hc,hs,hn⟩
theorem j7M:∀(ts:List Tm) (xs:List PV),TmsP ts xs→TmsP ts (j6k ts)
 |[],_,_=>by simp only[j6k,TmsP]
 |t::r,xs,h=>by
  simp only[TmsP] at h;obtain⟨v,xs',rfl,h1,h2⟩:=h;simp only[j6k,TmsP];exact⟨_,_,rfl,j3T t v h1,j7M r xs' h2⟩
end
-- the second loop of term.fresh: $1: the store's things ahead,but for what is made;$2: a slice of levels that is made;$3: numbers: the row's;$4,$5,$6: what they refer to
theorem j3V(t:Tm):∀v,TmP t v→Pf C1 61 [v] [encT t]:=by
 induction t using Tm.ind with
 |_ k nn s ls ts ih=>
 intro v h;obtain⟨_,_,_,_,_,b,z,xs,c,y,ys,⟨rfl,rfl,rfl,rfl,rfl⟩,rfl,hz,hxs,hlen,hbd,hy,hys,hlen2,hbd2,hsl⟩:=h.open;rw[j1r];refine run_intro Tryz.func61 rfl rfl rfl ?_;repeat'(refine gU ?_)<;>conv=>whnf
 refine loop_over (G:=Nat) (fun i=>[(18,iv i)]) (fun i=>match i with
   |0=>[.box 25 [iv k,iv nn,sv s,.sl b z xs,.sl c y ys],.box 25 zTm,.box 25 [iv k,iv nn,sv s,.sl true 0 [],.sl true 0 []]]
   |n+1=>[.box 25 [iv k,iv nn,sv s,.sl b z xs,.sl c y ys],.box 25 zTm,.box 25 [iv k,iv nn,sv s,.ms 4 (n+1),.sl true 0 []],.dead,.row false 41 3 ((ls.take (n+1)).map encL)]) (fun i=>i≤ls.length) (fun i=>ls.length-i) 0 (by omega) rfl rfl ?_
 intro i hi;have hround:∀(hi':i<ls.length),∃lc,ls[i]?=some lc∧∃v,xs[i]?=some v∧LvP lc v∧Pf C1 62 [.sl true 3 [v]] [encL lc]:=fun hi'=>by
  obtain⟨lc,hlc⟩:∃lc,ls[i]?=some lc:=⟨_,List.getElem?_eq_getElem hi'⟩;obtain⟨v,hv,hl⟩:=hxs.at hlc;exact⟨lc,hlc,v,hv,hl,jbE lc v hl true 3 rfl⟩
 cases i with
 |zero=>
  repeat'(first|refine gU ?_|apply gE<;>intro h)<;>conv=>whnf
  ·obtain⟨lc,hlc,v,hv,hl,hpl⟩:=hround (by omega)
   have e:(ls.take (0+1)).map encL=[encL lc]:=by rw[take_snoc' hlc];rfl
   obtain⟨k2,n2,b2,z2,x2,he⟩:=j2l lc;rw[he] at hpl e;obtain⟨k1,n1,l1,b1,z1,x1,rfl,rfl,hz1,hxs1,hlen1,hbd1⟩:=hl.open;refine VIdx.mk _ hv (VOk.mk (szOk_of rfl hz) ?_);repeat'(first|refine gU ?_|refine finds_pf hpl fun _=>?_|apply gK)<;>conv=>whnf
   exact VAgain.mk _ rfl _ (j0q (.cons (j00 rfl rfl) (.cons (j00 rfl rfl) (.cons (j00 rfl rfl) (.cons (j00 rfl rfl) (.cons (j03 rfl) .nil))))) (.cons (j00 rfl rfl) (.cons (j00 rfl rfl) (.cons (j00 rfl rfl) (.cons j07 (.cons (j03 rfl) .nil))))) rfl rfl rfl rfl rfl) ⟨1,by omega,by omega,congrArg (fun t=>(⟨_,[.box _ [iv k,iv nn,sv s,.sl b z xs,.sl c y ys],.box _ zTm,.box _ [iv k,iv nn,sv s,.ms 4 1,.sl true 0 []],.dead,.row false _ 3 t]⟩:AS)) e.symm⟩
  ·obtain rfl:ls=[]:=List.eq_nil_of_length_eq_zero (by omega)
   refine loop_over (G:=Nat) (fun j=>[(34,iv j)]) (fun j=>match j with
     |0=>[.box 25 [iv k,iv nn,sv s,.sl b z xs,.sl c y ys],.box 25 zTm,.box 25 [iv k,iv nn,sv s,.sl true 0 [],.sl true 0 []]]
     |n+1=>[.box 25 [iv k,iv nn,sv s,.sl b z xs,.sl c y ys],.box 25 zTm,.box 25 [iv k,iv nn,sv s,.sl true 0 [],.ms 4 (n+1)],.dead,.row false 25 5 ((ts.take (n+1)).map encT)]) (fun j=>j≤ts.length) (fun j=>ts.length-j) 0 (by omega) rfl rfl ?_
   intro j hj;have hround2:∀(hj':j<ts.length),∃lc,ts[j]?=some lc∧∃v,ys[j]?=some v∧TmP lc v∧Pf C1 61 [v] [encT lc]:=fun hj'=>by
    obtain⟨lc,hlc⟩:∃lc,ts[j]?=some lc:=⟨_,List.getElem?_eq_getElem hj'⟩;obtain⟨v,hv,hl⟩:=hys.at hlc;exact⟨lc,hlc,v,hv,hl,ih _ (List.mem_of_getElem? hlc) _ hl⟩
   cases j with
   |zero=>
    repeat'(first|refine gU ?_|apply gE<;>intro h)<;>conv=>whnf
    ·obtain⟨lc,hlc,v,hv,hl,hpl⟩:=hround2 (by omega)
     have e2:(ts.take (0+1)).map encT=[encT lc]:=by rw[take_snoc' hlc];rfl
     obtain⟨k2,n2,s2,b2,z2,x2,c2,y2,w2,he⟩:=j04 lc;rw[he] at hpl e2;obtain⟨k1,n1,s1,l1,t1,b1,z1,x1,c1,y1,ys1,rfl,rfl,hz1,hxs1,hlen1,hbd1,hy1,hys1,hlen21,hbd21,hsl1⟩:=hl.open;refine VIdx.mk _ hv (VOk.mk (szOk_of rfl hy) ?_);repeat'(first|refine gU ?_|refine finds_pf hpl fun _=>?_|apply gK)<;>conv=>whnf
     exact VAgain.mk _ rfl _ (j0q (.cons (j00 rfl rfl) (.cons (j00 rfl rfl) (.cons (j00 rfl rfl) ( (.cons (j00 rfl rfl) (.cons (j03 rfl) .nil)))))) (.cons (j00 rfl rfl) (.cons (j00 rfl rfl) (.cons (j00 rfl rfl) ( (.cons j07 (.cons (j03 rfl) .nil)))))) rfl rfl rfl rfl rfl) ⟨1,by omega,by omega,congrArg (fun t=>(⟨_,[.box _ [iv k,iv nn,sv s,.sl b z xs,.sl c y ys],.box _ zTm,.box _ [iv k,iv nn,sv s,.sl true 0 [],.ms 4 1],.dead,.row false _ 5 t]⟩:AS)) e2.symm⟩
    ·obtain rfl:ts=[]:=List.eq_nil_of_length_eq_zero (by omega)
     rfl
   |succ j=>
    have hlm:((ts.take (j+1)).map encT).length=j+1:=by simp;omega
    repeat'(first|refine gU ?_|apply gE<;>intro h)<;>conv=>whnf
    ·obtain⟨lc,hlc,v,hv,hl,hpl⟩:=hround2 (by omega)
     have e2:(ts.take (j+1+1)).map encT=(ts.take (j+1)).map encT++[encT lc]:=by rw[take_snoc' hlc];simp
     have hq8:((ts.take (j+1)).map encT++[encT lc]).all (pur 8)=true:=e2▸j0k _ 6;obtain⟨k2,n2,s2,b2,z2,x2,c2,y2,w2,he⟩:=j04 lc;rw[he] at hpl e2 hq8;obtain⟨k1,n1,s1,l1,t1,b1,z1,x1,c1,y1,ys1,rfl,rfl,hz1,hxs1,hlen1,hbd1,hy1,hys1,hlen21,hbd21,hsl1⟩:=hl.open;refine VIdx.mk _ hv (VOk.mk (szOk_of rfl hy) ?_);repeat'(first|refine gU ?_|refine finds_pf hpl fun _=>?_|refine VOk.mk (j0o (w:=80) (r:=140737488355328) hlm rfl rfl rfl rfl (by simp only[List.length_cons,List.length_nil];omega) (by simp only[List.length_cons,List.length_nil];omega)) ?_|apply gK)<;>conv=>whnf
     exact VAgain.mk _ rfl _ (j0q (.cons (j00 rfl rfl) (.cons (j00 rfl rfl) (.cons (j00 rfl rfl) ( (.cons j07 (.cons (j03 hq8) (.cons (j00 rfl rfl) .nil))))))) (.cons (j00 rfl rfl) (.cons (j00 rfl rfl) (.cons (j00 rfl rfl) ( (.cons j07 (.cons (j03 hq8) .nil)))))) rfl rfl rfl rfl rfl) ⟨j+1+1,by omega,by omega,congrArg (fun t=>(⟨_,[.box _ [iv k,iv nn,sv s,.sl b z xs,.sl c y ys],.box _ zTm,.box _ [iv k,iv nn,sv s,.sl true 0 [],.ms 4 (j+1+1)],.dead,.row false _ 5 t]⟩:AS)) e2.symm⟩
    ·have hj':j+1=ts.length:=by omega
     have e2:(ts.take (j+1)).map encT=ts.map encT:=by rw[hj',List.take_length]
     (refine j0O rfl (j02 (j2q (j02 rfl (j02 rfl (j02 rfl (j02 rfl (j02 (j0D rfl hlm.symm (j0k _ 4)) j0h)))))) j0h) rfl ?_;rw[j0L (by omega),←e2];rfl)
 |succ i=>
  have hln:((ls.take (i+1)).map encL).length=i+1:=by simp;omega
  repeat'(first|refine gU ?_|apply gE<;>intro h)<;>conv=>whnf
  ·obtain⟨lc,hlc,v,hv,hl,hpl⟩:=hround (by omega)
   have e:(ls.take (i+1+1)).map encL=(ls.take (i+1)).map encL++[encL lc]:=by rw[take_snoc' hlc];simp
   have hp8:((ls.take (i+1)).map encL++[encL lc]).all (pur 8)=true:=e▸j1G _ 6;obtain⟨k2,n2,b2,z2,x2,he⟩:=j2l lc;rw[he] at hpl e hp8;obtain⟨k1,n1,l1,b1,z1,x1,rfl,rfl,hz1,hxs1,hlen1,hbd1⟩:=hl.open;refine VIdx.mk _ hv (VOk.mk (szOk_of rfl hz) ?_);repeat'(first|refine gU ?_|refine finds_pf hpl fun _=>?_|refine VOk.mk (j0o (w:=40) (r:=140737488355328) hln rfl rfl rfl rfl (by simp only[List.length_cons,List.length_nil];omega) (by simp only[List.length_cons,List.length_nil];omega)) ?_|apply gK)<;>conv=>whnf
   exact VAgain.mk _ rfl _ (j0q (.cons (j00 rfl rfl) (.cons (j00 rfl rfl) (.cons (j00 rfl rfl) (.cons j07 (.cons (j03 hp8) (.cons (j00 rfl rfl) .nil)))))) (.cons (j00 rfl rfl) (.cons (j00 rfl rfl) (.cons (j00 rfl rfl) (.cons j07 (.cons (j03 hp8) .nil))))) rfl rfl rfl rfl rfl) ⟨i+1+1,by omega,by omega,congrArg (fun t=>(⟨_,[.box _ [iv k,iv nn,sv s,.sl b z xs,.sl c y ys],.box _ zTm,.box _ [iv k,iv nn,sv s,.ms 4 (i+1+1),.sl true 0 []],.dead,.row false _ 3 t]⟩:AS)) e.symm⟩
  ·have hi':i+1=ls.length:=by omega
   have e:(ls.take (i+1)).map encL=ls.map encL:=by rw[hi',List.take_length]
   have hlv:j2N ls=.sl false 3 ((ls.take (i+1)).map encL):=by rw[j6h (by omega),e]
   have hpu:((ls.take (i+1)).map encL).all (pur 8)=true:=j1G _ 6;have hpu6:((ls.take (i+1)).map encL).all (pur 6)=true:=j1G _ 4;rw[hlv];refine loop_over (G:=Nat) (fun j=>[(34,iv j)]) (fun j=>match j with
     |0=>[.box 25 [iv k,iv nn,sv s,.sl b z xs,.sl c y ys],.box 25 zTm,.box 25 [iv k,iv nn,sv s,.ms 4 (i+1),.sl true 0 []],.dead,.row false 41 3 ((ls.take (i+1)).map encL)]
     |n+1=>[.box 25 [iv k,iv nn,sv s,.sl b z xs,.sl c y ys],.box 25 zTm,.box 25 [iv k,iv nn,sv s,.ms 4 (i+1),.ms 6 (n+1)],.dead,.row false 41 3 ((ls.take (i+1)).map encL),.dead,.row false 25 5 ((ts.take (n+1)).map encT)]) (fun j=>j≤ts.length) (fun j=>ts.length-j) 0 (by omega) rfl rfl ?_
   intro j hj;have hround2:∀(hj':j<ts.length),∃lc,ts[j]?=some lc∧∃v,ys[j]?=some v∧TmP lc v∧Pf C1 61 [v] [encT lc]:=fun hj'=>by
    obtain⟨lc,hlc⟩:∃lc,ts[j]?=some lc:=⟨_,List.getElem?_eq_getElem hj'⟩;obtain⟨v,hv,hl⟩:=hys.at hlc;exact⟨lc,hlc,v,hv,hl,ih _ (List.mem_of_getElem? hlc) _ hl⟩
   cases j with
   |zero=>
    repeat'(first|refine gU ?_|apply gE<;>intro h)<;>conv=>whnf
    ·obtain⟨lc,hlc,v,hv,hl,hpl⟩:=hround2 (by omega)
     have e2:(ts.take (0+1)).map encT=[encT lc]:=by rw[take_snoc' hlc];rfl
     obtain⟨k2,n2,s2,b2,z2,x2,c2,y2,w2,he⟩:=j04 lc;rw[he] at hpl e2;obtain⟨k1,n1,s1,l1,t1,b1,z1,x1,c1,y1,ys1,rfl,rfl,hz1,hxs1,hlen1,hbd1,hy1,hys1,hlen21,hbd21,hsl1⟩:=hl.open;refine VIdx.mk _ hv (VOk.mk (szOk_of rfl hy) ?_);repeat'(first|refine gU ?_|refine finds_pf hpl fun _=>?_|apply gK)<;>conv=>whnf
     exact VAgain.mk _ rfl _ (j0q (.cons (j00 rfl rfl) (.cons (j00 rfl rfl) (.cons (j00 rfl rfl) (.cons j07 (.cons (j03 hpu) (.cons (j00 rfl rfl) (.cons (j03 rfl) .nil))))))) (.cons (j00 rfl rfl) (.cons (j00 rfl rfl) (.cons (j00 rfl rfl) (.cons j07 (.cons (j03 hpu) (.cons j07 (.cons (j03 rfl) .nil))))))) rfl rfl rfl rfl rfl) ⟨1,by omega,by omega,congrArg (fun t=>(⟨_,[.box _ [iv k,iv nn,sv s,.sl b z xs,.sl c y ys],.box _ zTm,.box _ [iv k,iv nn,sv s,.ms 4 (i+1),.ms 6 1],.dead,.row false 41 3 ((ls.take (i+1)).map encL),.dead,.row false _ 5 t]⟩:AS)) e2.symm⟩
    ·obtain rfl:ts=[]:=List.eq_nil_of_length_eq_zero (by omega)
     (refine j0O rfl (j02 (j2q (j02 rfl (j02 rfl (j02 rfl (j02 (j0D rfl hln.symm hpu6) (j02 rfl j0h)))))) j0h) rfl ?_;rfl)
   |succ j=>
    have hlm:((ts.take (j+1)).map encT).length=j+1:=by simp;omega
    repeat'(first|refine gU ?_|apply gE<;>intro h)<;>conv=>whnf
    ·obtain⟨lc,hlc,v,hv,hl,hpl⟩:=hround2 (by omega)
     have e2:(ts.take (j+1+1)).map encT=(ts.take (j+1)).map encT++[encT lc]:=by rw[take_snoc' hlc];simp
     have hq8:((ts.take (j+1)).map encT++[encT lc]).all (pur 8)=true:=e2▸j0k _ 6;obtain⟨k2,n2,s2,b2,z2,x2,c2,y2,w2,he⟩:=j04 lc;rw[he] at hpl e2 hq8;obtain⟨k1,n1,s1,l1,t1,b1,z1,x1,c1,y1,ys1,rfl,rfl,hz1,hxs1,hlen1,hbd1,hy1,hys1,hlen21,hbd21,hsl1⟩:=hl.open;refine VIdx.mk _ hv (VOk.mk (szOk_of rfl hy) ?_);repeat'(first|refine gU ?_|refine finds_pf hpl fun _=>?_|refine VOk.mk (j0o (w:=80) (r:=140737488355328) hlm rfl rfl rfl rfl (by simp only[List.length_cons,List.length_nil];omega) (by simp only[List.length_cons,List.length_nil];omega)) ?_|apply gK)<;>conv=>whnf
     exact VAgain.mk _ rfl _ (j0q (.cons (j00 rfl rfl) (.cons (j00 rfl rfl) (.cons (j00 rfl rfl) (.cons j07 (.cons (j03 hpu) (.cons j07 (.cons (j03 hq8) (.cons (j00 rfl rfl) .nil)))))))) (.cons (j00 rfl rfl) (.cons (j00 rfl rfl) (.cons (j00 rfl rfl) (.cons j07 (.cons (j03 hpu) (.cons j07 (.cons (j03 hq8) .nil))))))) rfl rfl rfl rfl rfl) ⟨j+1+1,by omega,by omega,congrArg (fun t=>(⟨_,[.box _ [iv k,iv nn,sv s,.sl b z xs,.sl c y ys],.box _ zTm,.box _ [iv k,iv nn,sv s,.ms 4 (i+1),.ms 6 (j+1+1)],.dead,.row false 41 3 ((ls.take (i+1)).map encL),.dead,.row false _ 5 t]⟩:AS)) e2.symm⟩
    ·have hj':j+1=ts.length:=by omega
     have e2:(ts.take (j+1)).map encT=ts.map encT:=by rw[hj',List.take_length]
     (refine j0O rfl (j02 (j2q (j02 rfl (j02 rfl (j02 rfl (j02 (j0D rfl hln.symm hpu6) (j02 (j0D rfl hlm.symm (j0k _ 4)) j0h)))))) j0h) rfl ?_;rw[j0L (by omega),←e2];try rfl)
end Go.Proofs.YtnfbeplfnblgjaaGreatDoor
