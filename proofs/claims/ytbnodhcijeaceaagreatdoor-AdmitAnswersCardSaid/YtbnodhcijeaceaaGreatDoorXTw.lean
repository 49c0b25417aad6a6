/- Terms made anew, and raised (package bind). -/
import Derived.Test.YtbnodhcijeaceaaGreatDoorXTg
set_option linter.all false
set_option maxHeartbeats 2000000
set_option maxRecDepth 100000
namespace Go.Proofs.YtbnodhcijeaceaaGreatDoor
open Go Go.Am Go.Gw
def j3K(put:Tm→Int→Option Tm)(t:Tm):Option Tm:=if(bldF put t 0 2000).2<0 then none else some (bldF put t 0 2000).1
def j8O(by_ from_:Int)(qB:0≤by_∧by_≤4194304)(hB:0≤from_∧from_≤4194304)(t:Tm)(v:PV)(h:TmP t v)(p kk:Int)(hA:allT t p kk=true)(wA:0≤kk)(gA:kk+depT t≤2251799813685248):
  Pf C1 208 [v,jal by_ from_] (putV (j3K (movF by_ from_) t)):=by
 have hb:=jfU by_ from_ qB hB t v h p kk 0 2000 hA wA gA (by omega) (by omega) (by omega) (by omega)
 have hl:=j4a (movF by_ from_) t 0 2000 (by omega)
 have hm:j3K (movF by_ from_) t=if(bldF (movF by_ from_) t 0 2000).2<0 then none else some (bldF (movF by_ from_) t 0 2000).1:=rfl
 generalize bldF (movF by_ from_) t 0 2000=bx at hb hl hm;obtain⟨bt,bl⟩:=bx;obtain⟨k8,n8,s8,b8,z8,x8,c8,y8,ys8,qA⟩:=j06 bt;dsimp only at hb hl hm;rw[qA] at hb;obtain⟨k,nn,s,ls,ts,b,z,xs,c,y,ys,rfl,rfl,-⟩:=h.open;refine gR Tryz.func208 ?_;all_goals try conv=>whnf
 refine j0K rfl rfl rfl rfl rfl rfl (Finds.mono hb ?_);rintro _ _ ⟨rfl,rfl⟩;refine j1z rfl ?_;repeat'(first|refine gU ?_|apply gE<;>intro h)<;>conv=>whnf
 ·have e:j3K (movF by_ from_) (.mk k nn s ls ts)=none:=by rw[hm,if_pos (by assumption)]
  rw[e];rfl
 ·have e:j3K (movF by_ from_) (.mk k nn s ls ts)=some bt:=by rw[hm,if_neg (by assumption)]
  rw[e];simp only[putV];rw[qA];rfl
def j4u(t:Tm)(by_:Int):Tm:=(j3K (movF by_ 0) t).getD tz
def jm7(by_:Int)(hB:0≤by_∧by_≤4194304)(t:Tm)(v:PV)(h:TmP t v)(p kk:Int)(hA:allT t p kk=true)(gA:0≤kk)(qA:kk+depT t≤2251799813685248):
  Pf C1 214 [v,iv by_] [encT (j4u t by_)]:=by
 have hm:=jgJ by_ 0;have hd:=j8O by_ 0 hB (by omega) t v h p kk hA gA qA
 obtain⟨k,nn,s,ls,ts,b,z,xs,c,y,ys,rfl,rfl,-⟩:=h.open;unfold j4u;cases he:j3K (movF by_ 0) (.mk k nn s ls ts) with
 |some x=>
  rw[he] at hd;simp only[putV] at hd;obtain⟨k8,n8,s8,b8,z8,x8,c8,y8,ys8,wA⟩:=j06 x;simp only[CF];rw[wA] at hd⊢;refine gR Tryz.func214 ?_;repeat'(first|refine gU ?_|refine j01 hm fun _=>?_|refine j01 hd fun _=>?_|apply gK)<;>conv=>whnf
  all_goals rfl
 |none=>
  rw[he] at hd;simp only[putV] at hd;simp only[Option.getD_none];refine gR Tryz.func214 ?_;repeat'(first|refine gU ?_|refine j01 hm fun _=>?_|refine j01 hd fun _=>?_|apply gK)<;>conv=>whnf
  all_goals rfl
open Go Go.Am Go.Gw
def insF(us:List Tm)(t:Tm)(d:Int):Option Tm:=if t.kind=1∧¬t.num-d<0 then some (if(us.length:Int)≤t.num-d then .mk 1 (t.num-us.length) [] [] [] else j4u (us.getD ((us.length:Int)-1-(t.num-d)).toNat tz) d) else none
variable{by_ d k n:Int}{ts us:List Tm}{t:Tm}
def jjR(h:t.kind=1∧¬t.num-d<0)(h2:(us.length:Int)≤t.num-d):insF us t d=some (.mk 1 (t.num-us.length) [] [] []):=by
 unfold insF;rw[if_pos h,if_pos h2]
def jjP(h:t.kind=1∧¬t.num-d<0)(h2:¬(us.length:Int)≤t.num-d):insF us t d=some (j4u (us.getD ((us.length:Int)-1-(t.num-d)).toNat tz) d):=by
 unfold insF;rw[if_pos h,if_neg h2]
def insP(b:Bool)(z:Nat)(xs:List PV):PV:=.fn 213 [] [.cp [iv xs.length],.cp [.sl b z xs]]
def joj(us:List Tm)(b:Bool)(z:Nat)(xs:List PV)(hz:z=5∨xs=[])(gA:TmsP us xs)(wB:us.length≤1048576)(has:∀a∈us,anyT a=true)(t:Tm)(v:PV)(h:TmP t v)(d:Int)(gB:0≤d)(qB:d≤4194304)(h1:0≤t.num∧t.num≤2251799813685248):
  Pf C1 213 [v,iv d,.cp [iv xs.length],.cp [.sl b z xs]] (putV (insF us t d)):=by
 have qA:=gA.len;have hv:=jhz (t.num-us.length);have wA:∀(q:Nat) a,us[q]?=some a→∃w,xs[q]?=some w∧TmP a w∧Pf C1 214 [w,iv d] [encT (j4u a d)]:=fun q a ha=>by
  obtain⟨w,hw,hl⟩:=gA.at ha;have hA:=has a (AE ha);have:=j5w hA;exact⟨w,hw,hl,jm7 d ⟨gB,qB⟩ a w hl 4 _ (j2n hA).2 (by omega) (by omega)⟩
 obtain⟨k,n,s,ls,ts,b0,z0,xs0,c0,y0,ys0,rfl,rfl,-⟩:=h.open;simp only[Tm.num] at h1 hv;rw[←qA] at hv;refine gR Tryz.func213 ?_;repeat'(first|refine gU ?_|apply gE<;>intro h|refine gX hv ?_|refine VNat.nonneg (by omega) ?_)<;>conv=>whnf
 ·have e:insF us (.mk k n s ls ts) d=none:=by
   simp only[insF,Tm.kind,Tm.num];exact if_neg (by omega)
  rw[e];rfl
 ·have e:insF us (.mk k n s ls ts) d=some (.mk 1 (n-xs.length) [] [] []):=by
   rw[jjR (by simp only[Tm.kind,Tm.num];omega) (by simp only[Tm.num];omega),qA]
   rfl
  rw[e];rfl
 ·have hq:(((xs.length:Int)-1-(n-d)).toNat)<us.length:=by omega
  obtain⟨a,ha⟩:∃a,us[((xs.length:Int)-1-(n-d)).toNat]?=some a:=⟨_,AA hq⟩;have e:insF us (.mk k n s ls ts) d=some (j4u a d):=by
   rw[jjP (by simp only[Tm.kind,Tm.num];omega) (by simp only[Tm.num];omega),←qA,AQ]
   simp only[Tm.num];rw[ha];rfl
  obtain⟨w,hw,hl,hr⟩:=wA _ a ha;obtain⟨k8,n8,s8,b8,z8,x8,c8,y8,ys8,hB⟩:=j06 (j4u a d);obtain⟨k1,n1,s1,l1,t1,b2,z1,x1,c1,y1,ys1,rfl,rfl,-⟩:=hl.open;rw[e];simp only[putV];rw[hB] at hr⊢;repeat'(first|refine gU ?_|refine VIdx.mk _ hw ?_|refine gZ hz ?_|refine gX hr ?_)<;>conv=>whnf
  rfl
 ·have e:insF us (.mk k n s ls ts) d=none:=by
   simp only[insF,Tm.kind,Tm.num];exact if_neg (by omega)
  rw[e];rfl
open Go Go.Am Go.Gw
def TmW(t:Tm):Prop:=TmP t (encT t)
def TmP.w{v:PV}(h:TmP t v):TmW t:=jeq _ _ h
def jaY:∀{ts:List Tm},(∀t∈ts,TmW t)→TmsP ts (ts.map encT)
 |[],_=>by simp only[CE,TmsP]
 |t::r,h=>by
  simp only[BC,TmsP];exact⟨_,_,rfl,h t (by simp),jaY fun x hx=>h x (by simp[hx])⟩
def TmsP.ws:∀{ts:List Tm}{xs:List PV},TmsP ts xs→∀t∈ts,TmW t
 |[],_,_,t,ht=>by cases ht
 |a::r,xs,h,t,ht=>by
  simp only[TmsP] at h;obtain⟨v,xs',rfl,h1,h2⟩:=h;rcases AN.1 ht with rfl|ht
  ·exact h1.w
  ·exact TmsP.ws h2 t ht
def TmW.args{s:List UInt8}{ls:List Lv}(h:TmW (.mk k n s ls ts)):(∀t∈ts,TmW t)∧ts.length≤1759218604441:=by
 unfold TmW at h;simp only[TmP] at h;obtain⟨b,z,xs,c,y,ys,_,hz,qA,hb,hy,hA,hc,hs,_⟩:=h;exact⟨hA.ws,hc⟩
def jkA(hn:i64 n)(hl:ts.length≤1759218604441)(h:∀t∈ts,TmW t):TmW (.mk k n [] [] ts):=by
 unfold TmW;have h1:=jaY h;rw[j2O];cases ts with
 |nil=>
  simp only[j8y,j7F,TmP,LvsP];exact⟨_,_,_,_,_,_,rfl,.inr rfl,rfl,by simp,.inr rfl,h1,hl,by simp,hn⟩
 |cons a r=>
  rw[j1V (by simp)]
  simp only[j7F,TmP,LvsP];exact⟨_,_,_,_,_,_,rfl,.inr rfl,rfl,by simp,.inl rfl,h1,hl,by simp,hn⟩
def jkB:TmW tz:=jkA (by unfold i64;omega) (by simp) (by simp)
def jmL(put:Tm→Int→Option Tm):Prop:=∀t d x,TmW t→(∃p kk,allT t p kk=true∧0≤kk∧kk≤2251799813685248)→0≤d→d≤4194304→put t d=some x→TmW x
def j6u(put:Tm→Int→Option Tm):∀(ts:List Tm) (k i d left:Int),(j1C put ts k i d left).1.length=ts.length
 |[],k,i,d,left=>by simp[j1C]
 |t::r,k,i,d,left=>by simp only[j1C,AC,j6u put r]
mutual
theorem jnb{put:Tm→Int→Option Tm}(hA:jmL put):∀(t:Tm) (p kk d left:Int),TmW t→allT t p kk=true→0≤kk→kk+depT t≤2251799813685248→0≤d→d+depT t≤4194304→TmW (bldF put t d left).1
 | .mk k n s ls ts,p,kk,d,left,hw,ha,hB,wB,qB,hC=>by
  rw[bldF]
  by_cases h0:left<0
  ·rw[j4z h0];exact jkB
  ·cases hp:put (.mk k n s ls ts) d with
   |some x=>
    rw[j5y h0 hp];exact hA _ d x hw ⟨p,kk,ha,hB,by omega⟩ qB (by omega) hp
   |none=>
    by_cases hl:ts.length=0
    ·rw[j4b h0 hp hl];exact hw
    ·rw[j4c h0 hp hl];obtain⟨gB,wA,gA,-,qA⟩:=j0q ha;rw[depT] at wB hC;refine jkA (by unfold i64;omega) (by rw[j6u];exact hw.args.2) ?_
     exact jjm hA ts k 0 p kk d (left-1) hw.args.1 qA hB (by omega) qB (by omega)
theorem jjm{put:Tm→Int→Option Tm}(hA:jmL put):∀(ts:List Tm) (k i p kk d left:Int),(∀t∈ts,TmW t)→j0M ts k i p kk=true→0≤kk→kk+1+jcK ts≤2251799813685248→0≤d→d+1+jcK ts≤4194304→∀x∈(j1C put ts k i d left).1,TmW x
 |[],k,i,p,kk,d,left,hw,ha,gA,qA,hB,wA=>by simp[j1C]
 |t::r,k,i,p,kk,d,left,hw,ha,gA,qA,hB,wA=>by
  simp only[j0M,AB] at ha;rw[jcK] at qA wA;have gB:=j2q (j0g k) i kk;have qB:=j2q (j0g k) i d
  intro x hx;simp only[j1C,AN] at hx;rcases hx with rfl|hx
  ·exact jnb hA t p _ _ left (hw t (by simp)) ha.1 (by omega) (by omega) (by omega) (by omega)
  ·exact jjm hA r k (i+1) p kk d _ (fun y hy=>hw y (by simp[hy])) ha.2 gA (by omega) hB (by omega) x hx
end
def jk9{from_:Int}(hB:0≤by_∧by_≤4194304):jmL (movF by_ from_):=by
 rintro⟨k,n,s,ls,ts⟩ d x hw ⟨p,kk,ha,qA,hA⟩ wA gA h;refine joO h fun e=>?_
 have:=j1L (j0q ha).2.2.1 e;simp only[Tm.num];unfold i64;omega
def jeM{put:Tm→Int→Option Tm}(hA:jmL put){x:Tm}(hw:TmW t){p kk:Int}(ha:allT t p kk=true)(gA:0≤kk)(qA:kk+depT t≤2251799813685248)(hd:depT t≤2000)(h:j3K put t=some x):TmW x:=by
 unfold j3K at h;split at h
 ·cases h
 ·cases h;exact jnb hA t p kk 0 2000 hw ha gA qA (by omega) (by omega)
def jm5(hA:0≤by_∧by_≤4194304)(hw:TmW t)(ha:anyT t=true):TmW (j4u t by_):=by
 unfold j4u;cases h:j3K (movF by_ 0) t with
 |none=>exact jkB
 |some x=>
  have:=j5w ha;exact jeM (jk9 hA) hw (j2n ha).2 (by omega) (by omega) this h
def jjQ(hw:∀u∈us,TmW u)(has:∀a∈us,anyT a=true)(wA:us.length≤1048576):jmL (insF us):=by
 rintro⟨k,n,s,ls,ts⟩ d x gA ⟨p,kk,ha,qB,hB⟩ qA hA h
 by_cases hc:(Tm.mk k n s ls ts).kind=1∧¬(Tm.mk k n s ls ts).num-d<0
 ·have hv:=j1L (j0q ha).2.2.1 hc.1
  by_cases h3:(us.length:Int)≤(Tm.mk k n s ls ts).num-d
  ·rw[jjR hc h3] at h;cases h;simp only[Tm.num] at *;exact jiU (by unfold i64;omega)
  ·rw[jjP hc h3] at h;cases h;simp only[Tm.num] at *;have hq:((us.length:Int)-1-(n-d)).toNat<us.length:=by omega
   have hm:us.getD ((us.length:Int)-1-(n-d)).toNat tz∈us:=by
    rw[AQ,AA hq];exact DH hq
   exact jm5 ⟨qA,hA⟩ (hw _ hm) (has _ hm)
 ·unfold insF at h;rw[if_neg hc] at h;cases h
