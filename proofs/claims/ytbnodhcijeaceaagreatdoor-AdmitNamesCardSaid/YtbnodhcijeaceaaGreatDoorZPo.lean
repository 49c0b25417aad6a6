/- What package name finds: a part of a name. -/
import Derived.Test.YtbnodhcijeaceaaGreatDoorZPl
set_option linter.all false
set_option maxHeartbeats 1000000
set_option maxRecDepth 100000
namespace Go.Proofs.YtbnodhcijeaceaaGreatDoor
open Go Go.Am Go.Gw
theorem jkw(s:ByteArray)(i:Nat)(h:(s.get! i).toNat<128):Utf8.decode s i=((s.get! i).toNat,1):=by
 unfold Utf8.decode;simp only[Nat.add_zero];rw[if_pos h]
theorem decode_high(s:ByteArray)(i:Nat)(h:¬(s.get! i).toNat<128):128≤(Utf8.decode s i).1:=by
 unfold Utf8.decode;simp only[Nat.add_zero];rw[if_neg h];repeat' split
 all_goals simp_all[Utf8.runeError]
 all_goals omega
theorem get_at(s:List UInt8)(i:Nat)(h:i<s.length):(⟨s.toArray⟩:ByteArray).get! i=s[i]:=by
 simp[ByteArray.get!,h]
theorem jgy(c:UInt8):j4S c.toNat=jbu c:=by
 rw[Bool.eq_iff_iff];simp[j4S,jbu,UInt8.le_iff_toNat_le,←UInt8.toNat_inj];omega
theorem jjc(s:List UInt8):∀(f pos:Nat),s.length≤pos+f→(Lib.idxFuncFrom (fun c=>!j4S c) true ⟨s.toArray⟩ f pos<0↔(s.drop pos).all jbu=true)
 |0,pos,h=>by
  rw[List.drop_of_length_le (by omega)]
  simp[Lib.idxFuncFrom]
 |f+1,pos,h=>by
  by_cases hp:pos<s.length
  ·have hsz:pos<(⟨s.toArray⟩:ByteArray).size:=by rw[j2K];exact hp
   have hg:=get_at s pos hp;rw[Lib.idxFuncFrom,if_pos hsz,List.drop_eq_getElem_cons hp,List.all_cons]
   by_cases hl:((⟨s.toArray⟩:ByteArray).get! pos).toNat<128
   ·rw[jkw _ _ hl,hg];simp only[jgy];have ih:=jjc s f (pos+1) (by omega)
    cases hc:jbu s[pos]
    ·simp
    ·simp[ih]
   ·have hh:=decode_high _ _ hl;have h1:j4S (Utf8.decode ⟨s.toArray⟩ pos).1=false:=by
     simp only[j4S,decide_eq_false_iff_not];omega
    have h2:jbu s[pos]=false:=by
     rw[←jgy];rw[hg] at hl;simp only[j4S,decide_eq_false_iff_not];omega
    rw[h1,h2];simp
  ·rw[List.drop_of_length_le (by omega),Lib.idxFuncFrom_end _ _ _ _ _ (by rw[j2K];exact hp)]
   simp
theorem jns(s:List UInt8):decide (Lib.idxFunc (fun c=>!j4S c) true ⟨s.toArray⟩<0)=s.all jbu:=by
 have:=jjc s (⟨s.toArray⟩:ByteArray).size 0 (by rw[j2K];omega)
 rw[Bool.eq_iff_iff,decide_eq_true_eq];simpa[Lib.idxFunc] using this
theorem jej(s:List UInt8):Pf C1 245 [sv s,.fn 243 [] []] [iv (Lib.idxFunc (fun c=>!j4S c) true ⟨s.toArray⟩)]:=jry rfl rfl
variable{a b:Int}{ls:List Lv}{NM:List UInt8→Prop}{x y:Operand}{P:Program}{T:TypeId}
theorem idx0{ρ:AEnv}{c:UInt8}{r:List UInt8}(hx:aval ρ x=some (sv (c::r)))(hy:aval ρ y=some (iv 0)):jcw C1.P ρ 9 x y=some (.sc (.int .u8 c.toNat)):=by
 simp only[jcw,hx,hy];rfl
theorem jtS:j0j P .lss T x y (.sc (.int .u8 a)) (.sc (.int .u8 b))=some (bv (decide (a<b))):=by
 simp only[j0j,j6E,eqGuard,binOp,Op.intCmp];rfl
theorem jtR:j0j P .gtr T x y (.sc (.int .u8 a)) (.sc (.int .u8 b))=some (bv (decide (b<a))):=by
 simp only[j0j,j6E,eqGuard,binOp,Op.intCmp];rfl
def u8Op(op:BinOp)(a b:Int)(K:PV→Prop):Prop:=match op with
 | .lss=>K (bv (decide (a<b)))
 | .gtr=>K (bv (decide (b<a)))
 |_=>False
theorem jsW{op:BinOp}{K:PV→Prop}(h:u8Op op a b K):VRes (j0j P op T x y (.sc (.int .u8 a)) (.sc (.int .u8 b))) K:=by
 cases op with
 |lss=>exact⟨_,jtS,h⟩
 |gtr=>exact⟨_,jtR,h⟩
 |_=>exact h.elim
theorem jqm(s:List UInt8):Pf C1 185 [sv s] [bv (j7e s)]:=by
 have hi:=jej s;have hp:=jns s;cases s with
 |nil=>
  refine j00 Tryz.func185 rfl rfl rfl ?_;repeat'(first|refine gU ?_|refine j4n ?_)<;>conv=>whnf
  all_goals first|rfl|(rename_i h;simp at h)|simp_all
 |cons c r=>
  refine j00 Tryz.func185 rfl rfl rfl ?_;repeat'(first|refine gU ?_|apply gE<;>intro h|refine j4n ?_|refine VRes.mk _ (idx0 rfl rfl) ?_|refine jsW ?_|refine gX hi ?_)<;>conv=>whnf
  all_goals
   have hd:(48≤c&&c≤57)=decide (48≤c.toNat∧c.toNat≤57):=by
    rw[Bool.eq_iff_iff];simp[UInt8.le_iff_toNat_le]
  ·rw[hp,j7e,hd,decide_eq_false (by omega)]
   rfl
  ·rw[hp,j7e,hd,decide_eq_false (by omega)]
   rfl
  ·rw[j7e,hd,decide_eq_true (by omega)]
   rfl
open Go Go.Am Go.Gw
theorem jgP(s:List UInt8):Finds C1 242 [sv s,sv [46],iv 0] [] fun r st=>r=.ret [.fn 281 [] [.bp 1 0,.bp 0 0,.bp 2 0]]∧st=[.box 9 [sv s],.box 9 [sv [46]],.box 3 [iv 0]]:=by
 refine j00 Tryz.func242 rfl rfl rfl ?_;all_goals try conv=>whnf
 exact VRet.mk [.fn 281 [] [.bp 1 0,.bp 0 0,.bp 2 0]] [.box 9 [sv s],.box 9 [sv [46]],.box 3 [iv 0]] (by kernel_rfl) ⟨rfl,rfl⟩
theorem jff(s:List UInt8):Finds C1 184 [sv s,sv [46]] [] fun r st=>r=.ret [.fn 281 [] [.bp 1 0,.bp 0 0,.bp 2 0]]∧st=[.box 9 [sv s],.box 9 [sv [46]],.box 3 [iv 0]]:=by
 refine j00 Tryz.func184 rfl rfl rfl ?_;all_goals try conv=>whnf
 refine j1b rfl (Finds.mono (jgP s) ?_);rintro _ _ ⟨rfl,rfl⟩;refine⟨rfl,j1Y rfl ?_⟩;all_goals try conv=>whnf
 exact VRet.mk [.fn 281 [] [.bp 1 0,.bp 0 0,.bp 2 0]] [.box 9 [sv s],.box 9 [sv [46]],.box 3 [iv 0]] (by kernel_rfl) ⟨rfl,rfl⟩
theorem jnv(g:List UInt8):Pf C1 283 [sv g,sv [46]] [iv (Lib.indexByte g 46)]:=jry rfl rfl
open Go Go.Am Go.Gw
mutual
def NmT(NM:List UInt8→Prop):Tm→Prop
 | .mk _ _ s _ ts=>NM s∧NmTs NM ts
def NmTs(NM:List UInt8→Prop):List Tm→Prop
 |[]=>True
 |t::r=>NmT NM t∧NmTs NM r
end
theorem NmTs.mem{NM:List UInt8→Prop}:∀{ts:List Tm},NmTs NM ts→∀t∈ts,NmT NM t
 |[],_,t,h=>by cases h
 |a::r,h,t,ht=>by
  simp only[NmTs] at h;rcases List.mem_cons.1 ht with rfl|ht
  ·exact h.1
  ·exact NmTs.mem h.2 t ht
def NmOk(NM:List UInt8→Prop):Prop:=∀s,NM s→Pf C1 121 [sv s] [bv (j2G s)]
theorem joW(l:Lv):∀v,LvP l v→∀(left:Int),0≤left→left≤1000000→Finds C1 260 [v,.bp 0 0] [.box 3 [iv left]] fun r st=>r=.ret []∧st=[.box 3 [iv (j1M l left)]]:=by
 induction l using Lv.ind with
 |_ k nn ls ih=>
 intro v h left h0 h1;obtain⟨_,_,_,b,z,xs,⟨rfl,rfl,rfl⟩,rfl,hz,hxs,hlen,hbd⟩:=h.open;refine j00 Tryz.func260 rfl rfl rfl ?_;repeat'(refine gU ?_)<;>conv=>whnf
 refine j03 (G:=Nat×Int) (fun g=>[(14,iv g.1)]) (fun g=>[.box 3 [iv g.2],_]) (fun g=>g.1≤ls.length∧-1≤g.2∧g.2≤1000000∧j0z (ls.drop g.1) g.2=j0z ls (left-1)) (fun g=>ls.length-g.1) (0,left-1) ⟨by omega,by dsimp only;omega,by dsimp only;omega,rfl⟩ rfl rfl ?_
 rintro⟨i,lf⟩ ⟨hi,hlf0,hlf1,hall⟩;dsimp only at hi hlf0 hlf1 hall⊢;repeat'(first|refine gU ?_|apply gE<;>intro h)<;>conv=>whnf
 ·have hi':i<ls.length:=by omega
  obtain⟨lc,hlc⟩:∃lc,ls[i]?=some lc:=⟨_,List.getElem?_eq_getElem hi'⟩;obtain⟨v,hv,hl⟩:=hxs.at hlc;obtain⟨k1,n1,l1,b1,z1,x1,rfl,rfl,hz1,hxs1,hlen1,hbd1⟩:=hl.open;refine VIdx.mk _ hv (VOk.mk (j0N rfl hz) ?_);repeat'(first|refine gU ?_|apply gE<;>intro h)<;>conv=>whnf
  ·have:j1M (.mk k nn ls) left=lf:=by rw[j1M,←hall,j3O _ _ (by omega)]
   exact⟨rfl,by rw[this];rfl⟩
  ·refine j0F rfl rfl rfl rfl rfl rfl (Finds.mono (ih _ (List.mem_of_getElem? hlc) _ hl lf (by omega) (by omega)) ?_)
   rintro _ _ ⟨rfl,rfl⟩;refine j1Y rfl ?_;repeat'(refine gU ?_)<;>conv=>whnf
   have hcg:=j5Y (.mk k1 n1 l1) lf (by omega)
   refine VAgain.mk _ rfl _ (j0a rfl rfl rfl) ⟨(i+1,j1M (.mk k1 n1 l1) lf),⟨hi',by dsimp only;omega,by dsimp only;omega,?_⟩,by dsimp only;omega,rfl⟩
   rw[←hall,drop_at hlc,j0z,if_neg (by omega)]
 ·have:j1M (.mk k nn ls) left=lf:=by
   obtain rfl:i=ls.length:=by omega
   rw[List.drop_length,j0z] at hall;rw[j1M,←hall]
  exact⟨rfl,by rw[this];rfl⟩
theorem jkv(t:Tm):∀v,TmP t v→∀(left:Int),0≤left→left≤1000000→Finds C1 216 [v,.bp 0 0] [.box 3 [iv left]] fun r st=>r=.ret []∧st=[.box 3 [iv (cntT t left)]]:=by
 induction t using Tm.ind with
 |_ k nn s ls ts ih=>
 intro v h left h0 h1;obtain⟨_,_,_,_,_,b,z,xs,c,y,ys,⟨rfl,rfl,rfl,rfl,rfl⟩,rfl,hz,hxs,hlen,hbd,hy,hys,hlen2,hbd2,hsl⟩:=h.open;refine j00 Tryz.func216 rfl rfl rfl ?_;repeat'(refine gU ?_)<;>conv=>whnf
 refine j03 (G:=Nat×Int) (fun g=>[(16,iv g.1)]) (fun g=>[.box 3 [iv g.2],_]) (fun g=>g.1≤ls.length∧-1≤g.2∧g.2≤1000000∧j0z (ls.drop g.1) g.2=j0z ls (left-1)) (fun g=>ls.length-g.1) (0,left-1) ⟨by omega,by dsimp only;omega,by dsimp only;omega,rfl⟩ rfl rfl ?_
 rintro⟨i,lf⟩ ⟨hi,hlf0,hlf1,hall⟩;dsimp only at hi hlf0 hlf1 hall⊢;repeat'(first|refine gU ?_|apply gE<;>intro h)<;>conv=>whnf
 ·have hi':i<ls.length:=by omega
  obtain⟨lc,hlc⟩:∃lc,ls[i]?=some lc:=⟨_,List.getElem?_eq_getElem hi'⟩;obtain⟨v,hv,hl⟩:=hxs.at hlc;have hu:=joW lc _ hl;obtain⟨k1,n1,l1,b1,z1,x1,rfl,rfl,hz1,hxs1,hlen1,hbd1⟩:=hl.open;refine VIdx.mk _ hv (VOk.mk (j0N rfl hz) ?_);repeat'(first|refine gU ?_|apply gE<;>intro h)<;>conv=>whnf
  ·have:cntT (.mk k nn s ls ts) left=lf:=by rw[cntT,←hall,j3O _ _ (by omega),j4w _ _ (by omega)]
   exact⟨rfl,by rw[this];rfl⟩
  ·refine j0F rfl rfl rfl rfl rfl rfl (Finds.mono (hu lf (by omega) (by omega)) ?_)
   rintro _ _ ⟨rfl,rfl⟩;refine j1Y rfl ?_;repeat'(refine gU ?_)<;>conv=>whnf
   have hcg:=j5Y (.mk k1 n1 l1) lf (by omega)
   refine VAgain.mk _ rfl _ (j0a rfl rfl rfl) ⟨(i+1,j1M (.mk k1 n1 l1) lf),⟨hi',by dsimp only;omega,by dsimp only;omega,?_⟩,by dsimp only;omega,rfl⟩
   rw[←hall,drop_at hlc,j0z,if_neg (by omega)]
 ·have hlf:j0z ls (left-1)=lf:=by
   obtain rfl:i=ls.length:=by omega
   rw[List.drop_length,j0z] at hall;exact hall.symm
  refine j03 (G:=Nat×Int) (fun g=>[(31,iv g.1)]) (fun g=>[.box 3 [iv g.2],_]) (fun g=>g.1≤ts.length∧-1≤g.2∧g.2≤1000000∧j5h (ts.drop g.1) g.2=j5h ts lf) (fun g=>ts.length-g.1) (0,lf) ⟨by omega,by dsimp only;omega,by dsimp only;omega,rfl⟩ rfl rfl ?_
  rintro⟨j,lg⟩ ⟨hj,hlg0,hlg1,hallg⟩;dsimp only at hj hlg0 hlg1 hallg⊢;repeat'(first|refine gU ?_|apply gE<;>intro h)<;>conv=>whnf
  ·have hj':j<ts.length:=by omega
   obtain⟨tc,htc⟩:∃tc,ts[j]?=some tc:=⟨_,List.getElem?_eq_getElem hj'⟩;obtain⟨v,hv,hl⟩:=hys.at htc;obtain⟨k1,n1,s1,l1,t1,b1,z1,x1,c1,y1,ys1,rfl,rfl,hz1,hxs1,hlen1,hbd1,hy1,hys1,hlen21,hbd21,hsl1⟩:=hl.open;refine VIdx.mk _ hv (VOk.mk (j0N rfl hy) ?_);repeat'(first|refine gU ?_|apply gE<;>intro h)<;>conv=>whnf
   ·have:cntT (.mk k nn s ls ts) left=lg:=by rw[cntT,hlf,←hallg,j4w _ _ (by omega)]
    exact⟨rfl,by rw[this];rfl⟩
   ·refine j0F rfl rfl rfl rfl rfl rfl (Finds.mono (ih _ (List.mem_of_getElem? htc) _ hl lg (by omega) (by omega)) ?_)
    rintro _ _ ⟨rfl,rfl⟩;refine j1Y rfl ?_;repeat'(refine gU ?_)<;>conv=>whnf
    have hcg:=jdX (.mk k1 n1 s1 l1 t1) lg (by omega)
    refine VAgain.mk _ rfl _ (j0a rfl rfl rfl) ⟨(j+1,cntT (.mk k1 n1 s1 l1 t1) lg),⟨hj',by dsimp only;omega,by dsimp only;omega,?_⟩,by dsimp only;omega,rfl⟩
    rw[←hallg,drop_at htc,j5h,if_neg (by omega)]
  ·have:cntT (.mk k nn s ls ts) left=lg:=by
    obtain rfl:j=ts.length:=by omega
    rw[List.drop_length,j5h] at hallg;rw[cntT,hlf,←hallg]
   exact⟨rfl,by rw[this];rfl⟩
theorem j1X(t:Tm)(v:PV)(h:TmP t v):Pf C1 163 [v] [iv (j0v t)]:=by
 have h0:=h;obtain⟨k,nn,s,ls,ts,b,z,xs,c,y,ys,rfl,rfl,hz,hxs,hlen,hbd,hy,hys,hlen2,hbd2,hsl⟩:=h.open;have hcg:=jdX (.mk k nn s ls ts) 2000 (by omega)
 refine j00 Tryz.func163 rfl rfl rfl ?_;repeat'(refine gU ?_)<;>conv=>whnf
 refine j0F rfl rfl rfl rfl rfl rfl (Finds.mono (jkv _ _ h0 2000 (by omega) (by omega)) ?_)
 rintro _ _ ⟨rfl,rfl⟩;refine j1Y rfl ?_;repeat'(refine gU ?_)<;>conv=>whnf
 all_goals simp only[j0v,jjv]
 all_goals simp_all
 all_goals omega
def j6A(a l b:Int):PV:=.ag [iv a,iv l,iv b]
def jsO:List PV:=[j6A 0 0 0,j6A 0 0 (-1),j6A 0 1 (-1),j6A 0 0 (-1),j6A 2 0 (-1),j6A 2 0 1,j6A 2 0 1,j6A 3 0 2]
theorem jlI:∃b,Pf C1 261 [] [.sl b 3 jsO]:=by
 first
  |exact⟨true,joi (st':=[]) 3 (by kernel_rfl)⟩
  |exact⟨false,joi (st':=[]) 3 (by kernel_rfl)⟩
theorem jlH(k:Int):Pf C1 217 [iv k] [j6A (j1f k) (j0O k) (if 1≤k∧k≤7 then j0g k else 0),bv (decide (1≤k)&&decide (k≤7))]:=by
 obtain⟨b,hs⟩:=jlI;refine j00 Tryz.func217 rfl rfl rfl ?_;repeat'(first|refine gU ?_|apply gE<;>intro h|refine gX hs ?_)<;>conv=>whnf
 ·have:¬(1≤k∧k≤7):=by omega
  rw[j1f,if_neg (by omega),if_neg (by omega),j0O,if_neg (by omega),if_neg this]
  simp;exact⟨rfl,by omega⟩
 ·have:¬(1≤k∧k≤7):=by omega
  rw[j1f,if_neg (by omega),if_neg (by omega),j0O,if_neg (by omega),if_neg this]
  simp;exact⟨rfl,by omega⟩
 ·obtain rfl|rfl|rfl|rfl|rfl|rfl|rfl:k=1∨k=2∨k=3∨k=4∨k=5∨k=6∨k=7:=by omega
  all_goals
   repeat'(first|refine gU ?_|refine VIdx.mk _ rfl ?_)<;>conv=>whnf
   rfl
theorem jnx(a l b i d:Int)(hd:d≤4611686018427387904)(hd0:0≤d):Pf C1 219 [j6A a l b,iv i,iv d] [iv (j0k b i d)]:=by
 refine j00 Tryz.func219 rfl rfl rfl ?_;repeat'(first|refine gU ?_|apply gE<;>intro h)<;>conv=>whnf
 all_goals simp_all[j0k]
theorem joa(t:Tm)(v:PV)(h:TmP t v)(a b kk:Int)(hnm:Pf C1 121 [sv t.name] [bv (j2G t.name)]):Pf C1 218 [v,j6A a (j0O t.kind) b,iv kk] [bv (j3W t kk)]:=by
 obtain⟨k,n,s,ls,ts,b,z,xs,c,y,ys,rfl,rfl,hz,hxs,hlen,hbd,hy,hys,hlen2,hbd2,hsl⟩:=h.open;simp only[Tm.name,Tm.kind] at hnm⊢;refine j00 Tryz.func218 rfl rfl rfl ?_;repeat'(first|refine gU ?_|apply gE<;>intro h|apply gM<;>intro h|refine gX hnm ?_|refine VRes.mk _ seql ?_)<;>conv=>whnf
 all_goals simp_all[j3W]
 all_goals first|done|omega|(intros;omega)
theorem jpi(hNM:NmOk NM)(t:Tm):∀v,TmP t v→NmT NM t→∀n kk:Int,0≤kk→kk+depT t≤2251799813685248→Pf C1 164 [v,iv n,iv kk] [bv (allT t n kk)]:=by
 induction t using Tm.ind with
 |_ k nn s ls ts ih=>
 intro v h hnt n kk hk0 hk1;simp only[NmT] at hnt;have hnode:=fun a b=>joa _ v h a b kk (hNM s hnt.1)
 have hsh:=jlH k;obtain⟨_,_,_,_,_,b,z,xs,c,y,ys,⟨rfl,rfl,rfl,rfl,rfl⟩,rfl,hz,hxs,hlen,hbd,hy,hys,hlen2,hbd2,hsl⟩:=h.open;simp only[Tm.kind] at hnode;rw[depT] at hk1;refine j00 Tryz.func164 rfl rfl rfl ?_;repeat'(first|refine gU ?_|apply gE<;>intro h|apply gM<;>intro h|refine gX hsh ?_|refine gX (hnode _ _) ?_)<;>conv=>whnf
 ·have hk17:1≤k∧k≤7:=by simp_all
  have hall0:allT (.mk k nn s ls ts) n kk=(j1F ls n&&j0T ts k 0 n kk):=by simp_all[allT]
  rw[if_pos hk17];refine j03 (G:=Nat) (fun i=>[(39,iv i)]) (fun _=>_) (fun i=>i≤ls.length∧j1F (ls.drop i) n=j1F ls n) (fun i=>ls.length-i) 0 ⟨by omega,rfl⟩ rfl rfl ?_
  rintro i ⟨hi,hall⟩;repeat'(first|refine gU ?_|apply gE<;>intro h)<;>conv=>whnf
  ·have hi':i<ls.length:=by omega
   obtain⟨lc,hlc⟩:∃lc,ls[i]?=some lc:=⟨_,List.getElem?_eq_getElem hi'⟩;obtain⟨v,hv,hl⟩:=hxs.at hlc;have hr:=j2D lc _ hl n;obtain⟨k1,n1,l1,b1,z1,x1,rfl,rfl,hz1,hxs1,hlen1,hbd1⟩:=hl.open;refine VIdx.mk _ hv (VOk.mk (j0N rfl hz) ?_);rw[drop_at hlc] at hall;simp only[j1F] at hall;repeat'(first|refine gU ?_|apply gM<;>intro h|refine gX hr ?_)<;>conv=>whnf
   ·refine VAgain.mk _ rfl _ (j0a rfl rfl rfl) ⟨i+1,⟨hi',?_⟩,by omega,rfl⟩
    rw[←hall,h];rfl
   ·have:j1F ls n=false:=by
     rw[←hall,h];rfl
    rw[hall0,this];rfl
  ·have hls:j1F ls n=true:=by
    rw[←hall,List.drop_of_length_le (by omega)]
    rfl
   refine j03 (G:=Nat) (fun i=>[(51,iv i)]) (fun _=>_) (fun j=>j≤ts.length∧j0T (ts.drop j) k j n kk=j0T ts k 0 n kk) (fun i=>ts.length-i) 0 ⟨by omega,rfl⟩ rfl rfl ?_
   rintro j ⟨hj,hallj⟩;repeat'(first|refine gU ?_|apply gE<;>intro h)<;>conv=>whnf
   ·have hj':j<ts.length:=by omega
    obtain⟨tc,htc⟩:∃tc,ts[j]?=some tc:=⟨_,List.getElem?_eq_getElem hj'⟩;obtain⟨v,hv,hl⟩:=hys.at htc;have hmem:=List.mem_of_getElem? htc;have hdep:=j7W hmem;have hin:=jnx (j1f k) (j0O k) (j0g k) j kk (by omega) hk0
    have hinb:0≤j0k (j0g k) j kk∧j0k (j0g k) j kk≤kk+1:=by unfold j0k;split<;>omega
    have hrec:=ih _ hmem _ hl (hnt.2.mem _ hmem) n (j0k (j0g k) j kk) hinb.1 (by omega)
    obtain⟨k1,n1,s1,l1,t1,b1,z1,x1,c1,y1,ys1,rfl,rfl,hz1,hxs1,hlen1,hbd1,hy1,hys1,hlen21,hbd21,hsl1⟩:=hl.open;refine VIdx.mk _ hv (VOk.mk (j0N rfl hy) ?_);rw[drop_at htc] at hallj;simp only[j0T] at hallj;repeat'(first|refine gU ?_|apply gM<;>intro h|refine j01 hin fun _=>?_|refine j01 hrec fun _=>?_|apply gK)<;>conv=>whnf
    ·refine VAgain.mk _ rfl _ (j0a rfl rfl rfl) ⟨j+1,⟨hj',?_⟩,by omega,rfl⟩
     rw[←hallj,h,Int.natCast_add];rfl
    ·have:j0T ts k 0 n kk=false:=by
      rw[←hallj,h];rfl
     rw[hall0,hls,this];rfl
   ·have hts:j0T ts k 0 n kk=true:=by
     rw[←hallj,List.drop_of_length_le (by omega)]
     rfl
    rw[hall0,hls,hts];rfl
 all_goals simp_all[allT]
 all_goals first|done|omega|(intros;omega)
theorem jlC(hNM:NmOk NM)(t:Tm)(v:PV)(h:TmP t v)(hnt:NmT NM t)(n kk:Int):Pf C1 99 [v,iv n,iv kk] [bv (j0w t n kk)]:=by
 have hn:=j1X t v h;have ha:=fun(h0:0≤kk) (h1:j0v t≤2000)=>jpi hNM t v h hnt n (min kk 1125899906842624) (by omega) (by have:=jgs h1;omega)
 rw[show min kk 1125899906842624=if 1125899906842624<kk then 1125899906842624 else kk from(j8r _ _).symm] at ha
 obtain⟨k,nn,s,ls,ts,b,z,xs,c,y,ys,rfl,rfl,hz,hxs,hlen,hbd,hy,hys,hlen2,hbd2,hsl⟩:=h.open;refine j00 Tryz.func99 rfl rfl rfl ?_;repeat'(first|refine gU ?_|apply gE<;>intro h|refine gX hn ?_|refine gX (ha (by assumption) (by assumption)) ?_)<;>conv=>whnf
 all_goals simp only[j0w,←j8r]
 all_goals simp_all
 all_goals first|done|rfl|omega|(intros;omega)
open Go Go.Am Go.Gw
mutual
def encL:Lv→PV
 | .mk k n ls=>.ag [iv k,iv n,match ls with
  |[]=>.sl true 0 []
  |l::r=>.sl false 3 (jfS (l::r))]
def jfS:List Lv→List PV
 |[]=>[]
 |l::r=>encL l::jfS r
end
def j7X(ls:List Lv):PV:=match ls with
 |[]=>.sl true 0 []
 |l::r=>.sl false 3 (jfS (l::r))
theorem jiX:∀ls:List Lv,jfS ls=ls.map encL
 |[]=>rfl
 |l::r=>by rw[jfS,jiX r];rfl
mutual
theorem je2:∀(l:Lv) (v:PV),LvP l v→LvP l (encL l)
 | .mk k n ls,v,h=>by
  simp only[LvP] at h;obtain⟨b,z,xs,rfl,hz,hxs,hb⟩:=h;have:=je3 ls xs hxs;cases ls with
  |nil=>simp only[encL,LvP,LvsP];exact⟨_,_,_,rfl,.inr rfl,rfl,hb⟩
  |cons l r=>simp only[encL,LvP];exact⟨_,_,_,rfl,.inl rfl,this,hb⟩
theorem je3:∀(ls:List Lv) (xs:List PV),LvsP ls xs→LvsP ls (jfS ls)
 |[],_,_=>by simp only[jfS,LvsP]
 |l::r,xs,h=>by
  simp only[LvsP] at h;obtain⟨v,xs',rfl,h1,h2⟩:=h;simp only[jfS,LvsP];exact⟨_,_,rfl,je2 l v h1,je3 r xs' h2⟩
end
theorem jfR(l:Lv):∀n,pur (n+2) (encL l)=true:=fun n=>by
 obtain⟨k,nn,ls⟩:=l;cases ls<;>rfl
theorem j2M(ls:List Lv)(n:Nat):(ls.map encL).all (pur (n+2))=true:=by
 rw[List.all_eq_true]
 intro x hx;obtain⟨l,_,rfl⟩:=List.mem_map.1 hx;exact jfR l n
abbrev zLv:List PV:=[iv 0,iv 0,.sl true 0 []]
abbrev zTm:List PV:=[iv 0,iv 0,sv [],.sl true 0 [],.sl true 0 []]
theorem jaT(k n:Int)(ls:List Lv):encL (.mk k n ls)=.ag [iv k,iv n,j7X ls]:=by cases ls<;>simp[encL,j7X]
theorem j0A(l:Lv):∃k n b z xs,encL l=.ag [iv k,iv n,.sl b z xs]:=by
 obtain⟨k,n,ls⟩:=l;rw[jaT];cases ls with
 |nil=>exact⟨_,_,_,_,_,rfl⟩
 |cons l r=>exact⟨_,_,_,_,_,rfl⟩
theorem j7Y(h:0<ls.length):j7X ls=.sl false 3 (ls.map encL):=by
 cases ls with
 |nil=>simp at h
 |cons l r=>simp only[j7X,jiX]
theorem jnY(k:Int)(ls:List Lv)(ih:∀l∈ls,∀v,LvP l v→Pf C1 161 [v] [encL l])(b:Bool)(z:Nat)(xs:List PV)(hz:z=3∨xs=[])(hxs:LvsP ls xs)(hbd:ls.length≤3518437208780):
  Pf C1 162 [iv k,.sl b z xs] [encL (.mk k 0 ls)]:=by
 have hlen:=hxs.len;refine j00 Tryz.func162 rfl rfl rfl ?_;repeat'(refine gU ?_)<;>conv=>whnf
 refine j03 (G:=Nat) (fun i=>[(12,iv i)]) (fun i=>match i with
   |0=>[.box 86 zLv,.box 86 [iv k,iv 0,.sl true 0 []]]
   |n+1=>[.box 86 zLv,.box 86 [iv k,iv 0,.ms 3 (n+1)],.dead,.row false 86 3 ((ls.take (n+1)).map encL)]) (fun i=>i≤ls.length) (fun i=>ls.length-i) 0 (by omega) rfl rfl ?_
 intro i hi;have hround:∀(hi':i<ls.length),∃lc,ls[i]?=some lc∧∃v,xs[i]?=some v∧LvP lc v∧Pf C1 161 [v] [encL lc]:=fun hi'=>by
  obtain⟨lc,hlc⟩:∃lc,ls[i]?=some lc:=⟨_,List.getElem?_eq_getElem hi'⟩;obtain⟨v,hv,hl⟩:=hxs.at hlc;exact⟨lc,hlc,v,hv,hl,ih _ (List.mem_of_getElem? hlc) _ hl⟩
 cases i with
 |zero=>
  repeat'(first|refine gU ?_|apply gE<;>intro h)<;>conv=>whnf
  ·obtain⟨lc,hlc,v,hv,hl,hpl⟩:=hround (by omega)
   have e:(ls.take (0+1)).map encL=[encL lc]:=by rw[take_snoc' hlc];rfl
   obtain⟨k2,n2,b2,z2,x2,he⟩:=j0A lc;rw[he] at hpl e;obtain⟨k1,n1,l1,b1,z1,x1,rfl,rfl,hz1,hxs1,hlen1,hbd1⟩:=hl.open;refine VIdx.mk _ hv (VOk.mk (j0N rfl hz) ?_);repeat'(first|refine gU ?_|refine j01 hpl fun _=>?_|apply gK)<;>conv=>whnf
   exact VAgain.mk _ rfl _ (j0L (.cons (j02 rfl rfl) (.cons (j02 rfl rfl) (.cons (j02 rfl rfl) (.cons (j08 rfl) .nil)))) (.cons (j02 rfl rfl) (.cons (j02 rfl rfl) (.cons j0i (.cons (j08 rfl) .nil)))) rfl rfl rfl rfl rfl) ⟨1,by omega,by omega,congrArg (fun t=>(⟨_,[.box _ zLv,.box _ [iv k,iv 0,.ms 3 1],.dead,.row false _ 3 t]⟩:AS)) e.symm⟩
  ·obtain rfl:ls=[]:=List.eq_nil_of_length_eq_zero (by omega)
   rfl
 |succ i=>
  have hln:((ls.take (i+1)).map encL).length=i+1:=by simp;omega
  repeat'(first|refine gU ?_|apply gE<;>intro h)<;>conv=>whnf
  ·obtain⟨lc,hlc,v,hv,hl,hpl⟩:=hround (by omega)
   have e:(ls.take (i+1+1)).map encL=(ls.take (i+1)).map encL++[encL lc]:=by rw[take_snoc' hlc];simp
   have hp8:((ls.take (i+1)).map encL++[encL lc]).all (pur 8)=true:=e▸j2M _ 6;obtain⟨k2,n2,b2,z2,x2,he⟩:=j0A lc;rw[he] at hpl e hp8;obtain⟨k1,n1,l1,b1,z1,x1,rfl,rfl,hz1,hxs1,hlen1,hbd1⟩:=hl.open;refine VIdx.mk _ hv (VOk.mk (j0N rfl hz) ?_);repeat'(first|refine gU ?_|refine j01 hpl fun _=>?_|refine VOk.mk (j1h (w:=40) (r:=140737488355328) hln rfl rfl rfl rfl (by simp only[List.length_cons,List.length_nil];omega) (by simp only[List.length_cons,List.length_nil];omega)) ?_|apply gK)<;>conv=>whnf
   exact VAgain.mk _ rfl _ (j0L (.cons (j02 rfl rfl) (.cons (j02 rfl rfl) (.cons j0i (.cons (j08 hp8) (.cons (j02 rfl rfl) .nil))))) (.cons (j02 rfl rfl) (.cons (j02 rfl rfl) (.cons j0i (.cons (j08 hp8) .nil)))) rfl rfl rfl rfl rfl) ⟨i+1+1,by omega,by omega,congrArg (fun t=>(⟨_,[.box _ zLv,.box _ [iv k,iv 0,.ms 3 (i+1+1)],.dead,.row false _ 3 t]⟩:AS)) e.symm⟩
  ·have hi':i+1=ls.length:=by omega
   have e:(ls.take (i+1)).map encL=ls.map encL:=by rw[hi',List.take_length]
   refine j0n rfl (j04 (j5z (j04 rfl (j04 rfl (j04 (j0D rfl hln.symm (j2M _ 4)) j0m)))) j0m) rfl ?_;rw[jaT,j7Y (by omega),←e]
theorem j8X(l:Lv):∀v,LvP l v→Pf C1 161 [v] [encL l]:=by
 induction l using Lv.ind with
 |_ k nn ls ih=>
 intro v h;obtain⟨_,_,_,b,z,xs,⟨rfl,rfl,rfl⟩,rfl,hz,hxs,hlen,hbd⟩:=h.open;have hm:=jnY k ls ih b z xs hz hxs hbd;rw[jaT] at hm⊢;obtain⟨b2,z2,x2,he⟩:∃b z xs,j7X ls=.sl b z xs:=by cases ls<;>exact⟨_,_,_,rfl⟩
 rw[he] at hm⊢;refine j00 Tryz.func161 rfl rfl rfl ?_;repeat'(first|refine gU ?_|refine gX hm ?_)<;>conv=>whnf
 rfl
theorem jjt(k:Int)(ls:List Lv)(b:Bool)(z:Nat)(xs:List PV)(hz:z=3∨xs=[])(hxs:LvsP ls xs)(hbd:ls.length≤3518437208780):Pf C1 162 [iv k,.sl b z xs] [encL (.mk k 0 ls)]:=
 jnY k ls (fun l _ v hv=>j8X l v hv) b z xs hz hxs hbd
theorem j8q(l:Lv)(v:PV)(h:LvP l v)(b:Bool)(z:Nat)(hz:z=3):Pf C1 97 [.sl b z [v]] [encL l]:=by
 have hc:=j8X l v h;obtain⟨k2,n2,b2,z2,x2,he⟩:=j0A l;rw[he] at hc⊢;subst hz;obtain⟨k1,n1,l1,b1,z1,x1,rfl,rfl,hz1,hxs1,hlen1,hbd1⟩:=h.open;refine j00 Tryz.func97 rfl rfl rfl ?_;repeat'(first|refine gU ?_|refine gX hc ?_|refine VIdx.mk _ rfl ?_)<;>conv=>whnf
 rfl
mutual
def encT:Tm→PV
 | .mk k n s ls ts=>.ag [iv k,iv n,sv s,j7X ls,match ts with
  |[]=>.sl true 0 []
  |t::r=>.sl false 5 (jfU (t::r))]
def jfU:List Tm→List PV
 |[]=>[]
 |t::r=>encT t::jfU r
end
def j7Z(ts:List Tm):PV:=match ts with
 |[]=>.sl true 0 []
 |t::r=>.sl false 5 (jfU (t::r))
theorem jiZ:∀ts:List Tm,jfU ts=ts.map encT
 |[]=>rfl
 |t::r=>by rw[jfU,jiZ r];rfl
theorem j2N(k n:Int)(s:List UInt8)(ls:List Lv)(ts:List Tm):encT (.mk k n s ls ts)=.ag [iv k,iv n,sv s,j7X ls,j7Z ts]:=by cases ts<;>simp[encT,j7Z]
theorem j2y{ts:List Tm}(h:0<ts.length):j7Z ts=.sl false 5 (ts.map encT):=by
 cases ts with
 |nil=>simp at h
 |cons l r=>simp only[j7Z,jiZ]
theorem j9a(ls:List Lv):∃b z xs,j7X ls=.sl b z xs:=by cases ls<;>exact⟨_,_,_,rfl⟩
theorem j9b(ls:List Tm):∃b z xs,j7Z ls=.sl b z xs:=by cases ls<;>exact⟨_,_,_,rfl⟩
theorem j07(t:Tm):∃k n s b z xs c y ys,encT t=.ag [iv k,iv n,sv s,.sl b z xs,.sl c y ys]:=by
 obtain⟨k,n,s,ls,ts⟩:=t;obtain⟨b,z,xs,h1⟩:=j9a ls;obtain⟨c,y,ys,h2⟩:=j9b ts;rw[j2N,h1,h2];exact⟨_,_,_,_,_,_,_,_,_,rfl⟩
theorem jmX(t:Tm)(n:Nat):pur (n+2) (encT t)=true:=by
 obtain⟨k,nn,s,b,z,xs,c,y,ys,h⟩:=j07 t;rw[h];rfl
theorem j0Q(ts:List Tm)(n:Nat):(ts.map encT).all (pur (n+2))=true:=by
 rw[List.all_eq_true]
 intro x hx;obtain⟨l,_,rfl⟩:=List.mem_map.1 hx;exact jmX l n
theorem jiY{xs:List PV}(h:LvsP ls xs):∃b z xs',j7X ls=.sl b z xs'∧(z=3∨xs'=[])∧LvsP ls xs':=by
 cases ls with
 |nil=>exact⟨_,_,_,rfl,.inr rfl,by simp only[LvsP]⟩
 |cons l r=>exact⟨_,_,_,rfl,.inl rfl,je3 _ _ h⟩
mutual
theorem je4:∀(t:Tm) (v:PV),TmP t v→TmP t (encT t)
 | .mk k n s ls ts,v,h=>by
  simp only[TmP] at h;obtain⟨b,z,xs,c,y,ys,rfl,hz,hxs,hb,hy,hys,hc,hs,hn⟩:=h;obtain⟨b1,z1,xs1,e1,e2,e3⟩:=jiY hxs;have:=jj0 ts ys hys;rw[j2N,e1];cases ts with
  |nil=>simp only[j7Z,TmP,TmsP];exact⟨_,_,_,_,_,_,rfl,e2,e3,hb,.inr rfl,rfl,hc,hs,hn⟩
  |cons t r=>simp only[j7Z,TmP];exact⟨_,_,_,_,_,_,rfl,e2,e3,hb,.inl rfl,this,hc,hs,hn⟩
theorem jj0:∀(ts:List Tm) (xs:List PV),TmsP ts xs→TmsP ts (jfU ts)
 |[],_,_=>by simp only[jfU,TmsP]
 |t::r,xs,h=>by
  simp only[TmsP] at h;obtain⟨v,xs',rfl,h1,h2⟩:=h;simp only[jfU,TmsP];exact⟨_,_,rfl,je4 t v h1,jj0 r xs' h2⟩
end
-- the second loop of term.fresh: $1: the store's things ahead,but for what is made;$2: a slice of levels that is made;$3: numbers: the row's;$4,$5,$6: what they refer to
theorem j3g(t:Tm):∀v,TmP t v→Pf C1 115 [v] [encT t]:=by
 induction t using Tm.ind with
 |_ k nn s ls ts ih=>
 intro v h;obtain⟨_,_,_,_,_,b,z,xs,c,y,ys,⟨rfl,rfl,rfl,rfl,rfl⟩,rfl,hz,hxs,hlen,hbd,hy,hys,hlen2,hbd2,hsl⟩:=h.open;rw[j2N];refine j00 Tryz.func115 rfl rfl rfl ?_;repeat'(refine gU ?_)<;>conv=>whnf
 refine j03 (G:=Nat) (fun i=>[(18,iv i)]) (fun i=>match i with
   |0=>[.box 25 [iv k,iv nn,sv s,.sl b z xs,.sl c y ys],.box 25 zTm,.box 25 [iv k,iv nn,sv s,.sl true 0 [],.sl true 0 []]]
   |n+1=>[.box 25 [iv k,iv nn,sv s,.sl b z xs,.sl c y ys],.box 25 zTm,.box 25 [iv k,iv nn,sv s,.ms 4 (n+1),.sl true 0 []],.dead,.row false 86 3 ((ls.take (n+1)).map encL)]) (fun i=>i≤ls.length) (fun i=>ls.length-i) 0 (by omega) rfl rfl ?_
 intro i hi;have hround:∀(hi':i<ls.length),∃lc,ls[i]?=some lc∧∃v,xs[i]?=some v∧LvP lc v∧Pf C1 97 [.sl true 3 [v]] [encL lc]:=fun hi'=>by
  obtain⟨lc,hlc⟩:∃lc,ls[i]?=some lc:=⟨_,List.getElem?_eq_getElem hi'⟩;obtain⟨v,hv,hl⟩:=hxs.at hlc;exact⟨lc,hlc,v,hv,hl,j8q lc v hl true 3 rfl⟩
 cases i with
 |zero=>
  repeat'(first|refine gU ?_|apply gE<;>intro h)<;>conv=>whnf
  ·obtain⟨lc,hlc,v,hv,hl,hpl⟩:=hround (by omega)
   have e:(ls.take (0+1)).map encL=[encL lc]:=by rw[take_snoc' hlc];rfl
   obtain⟨k2,n2,b2,z2,x2,he⟩:=j0A lc;rw[he] at hpl e;obtain⟨k1,n1,l1,b1,z1,x1,rfl,rfl,hz1,hxs1,hlen1,hbd1⟩:=hl.open;refine VIdx.mk _ hv (VOk.mk (j0N rfl hz) ?_);repeat'(first|refine gU ?_|refine j01 hpl fun _=>?_|apply gK)<;>conv=>whnf
   exact VAgain.mk _ rfl _ (j0L (.cons (j02 rfl rfl) (.cons (j02 rfl rfl) (.cons (j02 rfl rfl) (.cons (j02 rfl rfl) (.cons (j08 rfl) .nil))))) (.cons (j02 rfl rfl) (.cons (j02 rfl rfl) (.cons (j02 rfl rfl) (.cons j0i (.cons (j08 rfl) .nil))))) rfl rfl rfl rfl rfl) ⟨1,by omega,by omega,congrArg (fun t=>(⟨_,[.box _ [iv k,iv nn,sv s,.sl b z xs,.sl c y ys],.box _ zTm,.box _ [iv k,iv nn,sv s,.ms 4 1,.sl true 0 []],.dead,.row false _ 3 t]⟩:AS)) e.symm⟩
  ·obtain rfl:ls=[]:=List.eq_nil_of_length_eq_zero (by omega)
   refine j03 (G:=Nat) (fun j=>[(34,iv j)]) (fun j=>match j with
     |0=>[.box 25 [iv k,iv nn,sv s,.sl b z xs,.sl c y ys],.box 25 zTm,.box 25 [iv k,iv nn,sv s,.sl true 0 [],.sl true 0 []]]
     |n+1=>[.box 25 [iv k,iv nn,sv s,.sl b z xs,.sl c y ys],.box 25 zTm,.box 25 [iv k,iv nn,sv s,.sl true 0 [],.ms 4 (n+1)],.dead,.row false 25 5 ((ts.take (n+1)).map encT)]) (fun j=>j≤ts.length) (fun j=>ts.length-j) 0 (by omega) rfl rfl ?_
   intro j hj;have hround2:∀(hj':j<ts.length),∃lc,ts[j]?=some lc∧∃v,ys[j]?=some v∧TmP lc v∧Pf C1 115 [v] [encT lc]:=fun hj'=>by
    obtain⟨lc,hlc⟩:∃lc,ts[j]?=some lc:=⟨_,List.getElem?_eq_getElem hj'⟩;obtain⟨v,hv,hl⟩:=hys.at hlc;exact⟨lc,hlc,v,hv,hl,ih _ (List.mem_of_getElem? hlc) _ hl⟩
   cases j with
   |zero=>
    repeat'(first|refine gU ?_|apply gE<;>intro h)<;>conv=>whnf
    ·obtain⟨lc,hlc,v,hv,hl,hpl⟩:=hround2 (by omega)
     have e2:(ts.take (0+1)).map encT=[encT lc]:=by rw[take_snoc' hlc];rfl
     obtain⟨k2,n2,s2,b2,z2,x2,c2,y2,w2,he⟩:=j07 lc;rw[he] at hpl e2;obtain⟨k1,n1,s1,l1,t1,b1,z1,x1,c1,y1,ys1,rfl,rfl,hz1,hxs1,hlen1,hbd1,hy1,hys1,hlen21,hbd21,hsl1⟩:=hl.open;refine VIdx.mk _ hv (VOk.mk (j0N rfl hy) ?_);repeat'(first|refine gU ?_|refine j01 hpl fun _=>?_|apply gK)<;>conv=>whnf
     exact VAgain.mk _ rfl _ (j0L (.cons (j02 rfl rfl) (.cons (j02 rfl rfl) (.cons (j02 rfl rfl) ( (.cons (j02 rfl rfl) (.cons (j08 rfl) .nil)))))) (.cons (j02 rfl rfl) (.cons (j02 rfl rfl) (.cons (j02 rfl rfl) ( (.cons j0i (.cons (j08 rfl) .nil)))))) rfl rfl rfl rfl rfl) ⟨1,by omega,by omega,congrArg (fun t=>(⟨_,[.box _ [iv k,iv nn,sv s,.sl b z xs,.sl c y ys],.box _ zTm,.box _ [iv k,iv nn,sv s,.sl true 0 [],.ms 4 1],.dead,.row false _ 5 t]⟩:AS)) e2.symm⟩
    ·obtain rfl:ts=[]:=List.eq_nil_of_length_eq_zero (by omega)
     rfl
   |succ j=>
    have hlm:((ts.take (j+1)).map encT).length=j+1:=by simp;omega
    repeat'(first|refine gU ?_|apply gE<;>intro h)<;>conv=>whnf
    ·obtain⟨lc,hlc,v,hv,hl,hpl⟩:=hround2 (by omega)
     have e2:(ts.take (j+1+1)).map encT=(ts.take (j+1)).map encT++[encT lc]:=by rw[take_snoc' hlc];simp
     have hq8:((ts.take (j+1)).map encT++[encT lc]).all (pur 8)=true:=e2▸j0Q _ 6;obtain⟨k2,n2,s2,b2,z2,x2,c2,y2,w2,he⟩:=j07 lc;rw[he] at hpl e2 hq8;obtain⟨k1,n1,s1,l1,t1,b1,z1,x1,c1,y1,ys1,rfl,rfl,hz1,hxs1,hlen1,hbd1,hy1,hys1,hlen21,hbd21,hsl1⟩:=hl.open;refine VIdx.mk _ hv (VOk.mk (j0N rfl hy) ?_);repeat'(first|refine gU ?_|refine j01 hpl fun _=>?_|refine VOk.mk (j1h (w:=80) (r:=140737488355328) hlm rfl rfl rfl rfl (by simp only[List.length_cons,List.length_nil];omega) (by simp only[List.length_cons,List.length_nil];omega)) ?_|apply gK)<;>conv=>whnf
     exact VAgain.mk _ rfl _ (j0L (.cons (j02 rfl rfl) (.cons (j02 rfl rfl) (.cons (j02 rfl rfl) ( (.cons j0i (.cons (j08 hq8) (.cons (j02 rfl rfl) .nil))))))) (.cons (j02 rfl rfl) (.cons (j02 rfl rfl) (.cons (j02 rfl rfl) ( (.cons j0i (.cons (j08 hq8) .nil)))))) rfl rfl rfl rfl rfl) ⟨j+1+1,by omega,by omega,congrArg (fun t=>(⟨_,[.box _ [iv k,iv nn,sv s,.sl b z xs,.sl c y ys],.box _ zTm,.box _ [iv k,iv nn,sv s,.sl true 0 [],.ms 4 (j+1+1)],.dead,.row false _ 5 t]⟩:AS)) e2.symm⟩
    ·have hj':j+1=ts.length:=by omega
     have e2:(ts.take (j+1)).map encT=ts.map encT:=by rw[hj',List.take_length]
     (refine j0n rfl (j04 (j5z (j04 rfl (j04 rfl (j04 rfl (j04 rfl (j04 (j0D rfl hlm.symm (j0Q _ 4)) j0m)))))) j0m) rfl ?_;rw[j2y (by omega),←e2];rfl)
 |succ i=>
  have hln:((ls.take (i+1)).map encL).length=i+1:=by simp;omega
  repeat'(first|refine gU ?_|apply gE<;>intro h)<;>conv=>whnf
  ·obtain⟨lc,hlc,v,hv,hl,hpl⟩:=hround (by omega)
   have e:(ls.take (i+1+1)).map encL=(ls.take (i+1)).map encL++[encL lc]:=by rw[take_snoc' hlc];simp
   have hp8:((ls.take (i+1)).map encL++[encL lc]).all (pur 8)=true:=e▸j2M _ 6;obtain⟨k2,n2,b2,z2,x2,he⟩:=j0A lc;rw[he] at hpl e hp8;obtain⟨k1,n1,l1,b1,z1,x1,rfl,rfl,hz1,hxs1,hlen1,hbd1⟩:=hl.open;refine VIdx.mk _ hv (VOk.mk (j0N rfl hz) ?_);repeat'(first|refine gU ?_|refine j01 hpl fun _=>?_|refine VOk.mk (j1h (w:=40) (r:=140737488355328) hln rfl rfl rfl rfl (by simp only[List.length_cons,List.length_nil];omega) (by simp only[List.length_cons,List.length_nil];omega)) ?_|apply gK)<;>conv=>whnf
   exact VAgain.mk _ rfl _ (j0L (.cons (j02 rfl rfl) (.cons (j02 rfl rfl) (.cons (j02 rfl rfl) (.cons j0i (.cons (j08 hp8) (.cons (j02 rfl rfl) .nil)))))) (.cons (j02 rfl rfl) (.cons (j02 rfl rfl) (.cons (j02 rfl rfl) (.cons j0i (.cons (j08 hp8) .nil))))) rfl rfl rfl rfl rfl) ⟨i+1+1,by omega,by omega,congrArg (fun t=>(⟨_,[.box _ [iv k,iv nn,sv s,.sl b z xs,.sl c y ys],.box _ zTm,.box _ [iv k,iv nn,sv s,.ms 4 (i+1+1),.sl true 0 []],.dead,.row false _ 3 t]⟩:AS)) e.symm⟩
  ·have hi':i+1=ls.length:=by omega
   have e:(ls.take (i+1)).map encL=ls.map encL:=by rw[hi',List.take_length]
   have hlv:j7X ls=.sl false 3 ((ls.take (i+1)).map encL):=by rw[j7Y (by omega),e]
   have hpu:((ls.take (i+1)).map encL).all (pur 8)=true:=j2M _ 6;have hpu6:((ls.take (i+1)).map encL).all (pur 6)=true:=j2M _ 4;rw[hlv];refine j03 (G:=Nat) (fun j=>[(34,iv j)]) (fun j=>match j with
     |0=>[.box 25 [iv k,iv nn,sv s,.sl b z xs,.sl c y ys],.box 25 zTm,.box 25 [iv k,iv nn,sv s,.ms 4 (i+1),.sl true 0 []],.dead,.row false 86 3 ((ls.take (i+1)).map encL)]
     |n+1=>[.box 25 [iv k,iv nn,sv s,.sl b z xs,.sl c y ys],.box 25 zTm,.box 25 [iv k,iv nn,sv s,.ms 4 (i+1),.ms 6 (n+1)],.dead,.row false 86 3 ((ls.take (i+1)).map encL),.dead,.row false 25 5 ((ts.take (n+1)).map encT)]) (fun j=>j≤ts.length) (fun j=>ts.length-j) 0 (by omega) rfl rfl ?_
   intro j hj;have hround2:∀(hj':j<ts.length),∃lc,ts[j]?=some lc∧∃v,ys[j]?=some v∧TmP lc v∧Pf C1 115 [v] [encT lc]:=fun hj'=>by
    obtain⟨lc,hlc⟩:∃lc,ts[j]?=some lc:=⟨_,List.getElem?_eq_getElem hj'⟩;obtain⟨v,hv,hl⟩:=hys.at hlc;exact⟨lc,hlc,v,hv,hl,ih _ (List.mem_of_getElem? hlc) _ hl⟩
   cases j with
   |zero=>
    repeat'(first|refine gU ?_|apply gE<;>intro h)<;>conv=>whnf
    ·obtain⟨lc,hlc,v,hv,hl,hpl⟩:=hround2 (by omega)
     have e2:(ts.take (0+1)).map encT=[encT lc]:=by rw[take_snoc' hlc];rfl
     obtain⟨k2,n2,s2,b2,z2,x2,c2,y2,w2,he⟩:=j07 lc;rw[he] at hpl e2;obtain⟨k1,n1,s1,l1,t1,b1,z1,x1,c1,y1,ys1,rfl,rfl,hz1,hxs1,hlen1,hbd1,hy1,hys1,hlen21,hbd21,hsl1⟩:=hl.open;refine VIdx.mk _ hv (VOk.mk (j0N rfl hy) ?_);repeat'(first|refine gU ?_|refine j01 hpl fun _=>?_|apply gK)<;>conv=>whnf
     exact VAgain.mk _ rfl _ (j0L (.cons (j02 rfl rfl) (.cons (j02 rfl rfl) (.cons (j02 rfl rfl) (.cons j0i (.cons (j08 hpu) (.cons (j02 rfl rfl) (.cons (j08 rfl) .nil))))))) (.cons (j02 rfl rfl) (.cons (j02 rfl rfl) (.cons (j02 rfl rfl) (.cons j0i (.cons (j08 hpu) (.cons j0i (.cons (j08 rfl) .nil))))))) rfl rfl rfl rfl rfl) ⟨1,by omega,by omega,congrArg (fun t=>(⟨_,[.box _ [iv k,iv nn,sv s,.sl b z xs,.sl c y ys],.box _ zTm,.box _ [iv k,iv nn,sv s,.ms 4 (i+1),.ms 6 1],.dead,.row false 86 3 ((ls.take (i+1)).map encL),.dead,.row false _ 5 t]⟩:AS)) e2.symm⟩
    ·obtain rfl:ts=[]:=List.eq_nil_of_length_eq_zero (by omega)
     (refine j0n rfl (j04 (j5z (j04 rfl (j04 rfl (j04 rfl (j04 (j0D rfl hln.symm hpu6) (j04 rfl j0m)))))) j0m) rfl ?_;rfl)
   |succ j=>
    have hlm:((ts.take (j+1)).map encT).length=j+1:=by simp;omega
    repeat'(first|refine gU ?_|apply gE<;>intro h)<;>conv=>whnf
    ·obtain⟨lc,hlc,v,hv,hl,hpl⟩:=hround2 (by omega)
     have e2:(ts.take (j+1+1)).map encT=(ts.take (j+1)).map encT++[encT lc]:=by rw[take_snoc' hlc];simp
     have hq8:((ts.take (j+1)).map encT++[encT lc]).all (pur 8)=true:=e2▸j0Q _ 6;obtain⟨k2,n2,s2,b2,z2,x2,c2,y2,w2,he⟩:=j07 lc;rw[he] at hpl e2 hq8;obtain⟨k1,n1,s1,l1,t1,b1,z1,x1,c1,y1,ys1,rfl,rfl,hz1,hxs1,hlen1,hbd1,hy1,hys1,hlen21,hbd21,hsl1⟩:=hl.open;refine VIdx.mk _ hv (VOk.mk (j0N rfl hy) ?_);repeat'(first|refine gU ?_|refine j01 hpl fun _=>?_|refine VOk.mk (j1h (w:=80) (r:=140737488355328) hlm rfl rfl rfl rfl (by simp only[List.length_cons,List.length_nil];omega) (by simp only[List.length_cons,List.length_nil];omega)) ?_|apply gK)<;>conv=>whnf
     exact VAgain.mk _ rfl _ (j0L (.cons (j02 rfl rfl) (.cons (j02 rfl rfl) (.cons (j02 rfl rfl) (.cons j0i (.cons (j08 hpu) (.cons j0i (.cons (j08 hq8) (.cons (j02 rfl rfl) .nil)))))))) (.cons (j02 rfl rfl) (.cons (j02 rfl rfl) (.cons (j02 rfl rfl) (.cons j0i (.cons (j08 hpu) (.cons j0i (.cons (j08 hq8) .nil))))))) rfl rfl rfl rfl rfl) ⟨j+1+1,by omega,by omega,congrArg (fun t=>(⟨_,[.box _ [iv k,iv nn,sv s,.sl b z xs,.sl c y ys],.box _ zTm,.box _ [iv k,iv nn,sv s,.ms 4 (i+1),.ms 6 (j+1+1)],.dead,.row false 86 3 ((ls.take (i+1)).map encL),.dead,.row false _ 5 t]⟩:AS)) e2.symm⟩
    ·have hj':j+1=ts.length:=by omega
     have e2:(ts.take (j+1)).map encT=ts.map encT:=by rw[hj',List.take_length]
     (refine j0n rfl (j04 (j5z (j04 rfl (j04 rfl (j04 rfl (j04 (j0D rfl hln.symm hpu6) (j04 (j0D rfl hlm.symm (j0Q _ 4)) j0m)))))) j0m) rfl ?_;rw[j2y (by omega),←e2];try rfl)
open Go Go.Am Go.Gw
end Go.Proofs.YtbnodhcijeaceaaGreatDoor
