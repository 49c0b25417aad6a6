/- Terms made anew, and raised (package bind). -/
import Derived.Test.YtnfbeplfnblgjaaGreatDoorZTg
set_option linter.all false
set_option maxHeartbeats 2000000
set_option maxRecDepth 100000
namespace Go.Proofs.YtnfbeplfnblgjaaGreatDoor
open Go Go.Am Go.Gw
def j0X(put:Tm→Int→Option Tm)(t:Tm):Option Tm:=if(bldF put t 0 2000).2<0 then none else some (bldF put t 0 2000).1
theorem j5t(by_ from_:Int)(hby:0≤by_∧by_≤4194304)(hfr:0≤from_∧from_≤4194304)(t:Tm)(v:PV)(h:TmP t v)(p kk:Int)(hall:allT t p kk=true)(hk0:0≤kk)(hk1:kk+depT t≤2251799813685248):
  Pf C1 200 [v,j2d by_ from_] (putV (j0X (movF by_ from_) t)):=by
 have hb:=j6a by_ from_ hby hfr t v h p kk 0 2000 hall hk0 hk1 (by omega) (by omega) (by omega) (by omega)
 have hl:=j0G (movF by_ from_) t 0 2000 (by omega)
 have hm:j0X (movF by_ from_) t=if(bldF (movF by_ from_) t 0 2000).2<0 then none else some (bldF (movF by_ from_) t 0 2000).1:=rfl
 generalize bldF (movF by_ from_) t 0 2000=bx at hb hl hm;obtain⟨bt,bl⟩:=bx;obtain⟨k8,n8,s8,b8,z8,x8,c8,y8,ys8,he8⟩:=j04 bt;dsimp only at hb hl hm;rw[he8] at hb;obtain⟨k,nn,s,ls,ts,b,z,xs,c,y,ys,rfl,rfl,-⟩:=h.open;refine run_intro Tryz.func200 rfl rfl rfl ?_;all_goals try conv=>whnf
 refine vcall_st rfl rfl rfl rfl rfl rfl (Finds.mono hb ?_);rintro _ _ ⟨rfl,rfl⟩;refine vback rfl ?_;repeat'(first|refine gU ?_|apply gE<;>intro h)<;>conv=>whnf
 ·have e:j0X (movF by_ from_) (.mk k nn s ls ts)=none:=by rw[hm,if_pos (by assumption)]
  rw[e];rfl
 ·have e:j0X (movF by_ from_) (.mk k nn s ls ts)=some bt:=by rw[hm,if_neg (by assumption)]
  rw[e];simp only[putV];rw[he8];rfl
def j1Z(t:Tm)(by_:Int):Tm:=(j0X (movF by_ 0) t).getD tz
theorem j8X(by_:Int)(hby:0≤by_∧by_≤4194304)(t:Tm)(v:PV)(h:TmP t v)(p kk:Int)(hall:allT t p kk=true)(hk0:0≤kk)(hk1:kk+depT t≤2251799813685248):
  Pf C1 202 [v,iv by_] [encT (j1Z t by_)]:=by
 have hm:=j6w by_ 0;have hd:=j5t by_ 0 hby (by omega) t v h p kk hall hk0 hk1
 obtain⟨k,nn,s,ls,ts,b,z,xs,c,y,ys,rfl,rfl,-⟩:=h.open;unfold j1Z;cases he:j0X (movF by_ 0) (.mk k nn s ls ts) with
 |some x=>
  rw[he] at hd;simp only[putV] at hd;obtain⟨k8,n8,s8,b8,z8,x8,c8,y8,ys8,he8⟩:=j04 x;simp only[Option.getD_some];rw[he8] at hd⊢;refine run_intro Tryz.func202 rfl rfl rfl ?_;repeat'(first|refine gU ?_|refine finds_pf hm fun _=>?_|refine finds_pf hd fun _=>?_|apply gK)<;>conv=>whnf
  all_goals rfl
 |none=>
  rw[he] at hd;simp only[putV] at hd;simp only[Option.getD_none];refine run_intro Tryz.func202 rfl rfl rfl ?_;repeat'(first|refine gU ?_|refine finds_pf hm fun _=>?_|refine finds_pf hd fun _=>?_|apply gK)<;>conv=>whnf
  all_goals rfl
open Go Go.Am Go.Gw
def insF(us:List Tm)(t:Tm)(d:Int):Option Tm:=if t.kind=1∧¬t.num-d<0 then some (if(us.length:Int)≤t.num-d then .mk 1 (t.num-us.length) [] [] [] else j1Z (us.getD ((us.length:Int)-1-(t.num-d)).toNat tz) d) else none
variable{by_ d k n:Int}{ts us:List Tm}{t:Tm}
theorem j7X(h:t.kind=1∧¬t.num-d<0)(h2:(us.length:Int)≤t.num-d):insF us t d=some (.mk 1 (t.num-us.length) [] [] []):=by
 unfold insF;rw[if_pos h,if_pos h2]
theorem j7V(h:t.kind=1∧¬t.num-d<0)(h2:¬(us.length:Int)≤t.num-d):insF us t d=some (j1Z (us.getD ((us.length:Int)-1-(t.num-d)).toNat tz) d):=by
 unfold insF;rw[if_pos h,if_neg h2]
def insP(b:Bool)(z:Nat)(xs:List PV):PV:=.fn 201 [] [.cp [iv xs.length],.cp [.sl b z xs]]
theorem jak(us:List Tm)(b:Bool)(z:Nat)(xs:List PV)(hz:z=5∨xs=[])(hxs:TmsP us xs)(hla:us.length≤1048576)(has:∀a∈us,anyT a=true)(t:Tm)(v:PV)(h:TmP t v)(d:Int)(hd0:0≤d)(hd1:d≤4194304)(h1:0≤t.num∧t.num≤2251799813685248):
  Pf C1 201 [v,iv d,.cp [iv xs.length],.cp [.sl b z xs]] (putV (insF us t d)):=by
 have hlx:=hxs.len;have hv:=j6N (t.num-us.length);have hra:∀(q:Nat) a,us[q]?=some a→∃w,xs[q]?=some w∧TmP a w∧Pf C1 202 [w,iv d] [encT (j1Z a d)]:=fun q a ha=>by
  obtain⟨w,hw,hl⟩:=hxs.at ha;have hany:=has a (List.mem_of_getElem? ha);have:=j1P hany;exact⟨w,hw,hl,j8X d ⟨hd0,hd1⟩ a w hl 4 _ (j0v hany).2 (by omega) (by omega)⟩
 obtain⟨k,n,s,ls,ts,b0,z0,xs0,c0,y0,ys0,rfl,rfl,-⟩:=h.open;simp only[Tm.num] at h1 hv;rw[←hlx] at hv;refine run_intro Tryz.func201 rfl rfl rfl ?_;repeat'(first|refine gU ?_|apply gE<;>intro h|refine gX hv ?_|refine VNat.nonneg (by omega) ?_)<;>conv=>whnf
 ·have e:insF us (.mk k n s ls ts) d=none:=by
   simp only[insF,Tm.kind,Tm.num];exact if_neg (by omega)
  rw[e];rfl
 ·have e:insF us (.mk k n s ls ts) d=some (.mk 1 (n-xs.length) [] [] []):=by
   rw[j7X (by simp only[Tm.kind,Tm.num];omega) (by simp only[Tm.num];omega),hlx]
   rfl
  rw[e];rfl
 ·have hq:(((xs.length:Int)-1-(n-d)).toNat)<us.length:=by omega
  obtain⟨a,ha⟩:∃a,us[((xs.length:Int)-1-(n-d)).toNat]?=some a:=⟨_,List.getElem?_eq_getElem hq⟩;have e:insF us (.mk k n s ls ts) d=some (j1Z a d):=by
   rw[j7V (by simp only[Tm.kind,Tm.num];omega) (by simp only[Tm.num];omega),←hlx,List.getD_eq_getElem?_getD]
   simp only[Tm.num];rw[ha];rfl
  obtain⟨w,hw,hl,hr⟩:=hra _ a ha;obtain⟨k8,n8,s8,b8,z8,x8,c8,y8,ys8,he8⟩:=j04 (j1Z a d);obtain⟨k1,n1,s1,l1,t1,b2,z1,x1,c1,y1,ys1,rfl,rfl,-⟩:=hl.open;rw[e];simp only[putV];rw[he8] at hr⊢;repeat'(first|refine gU ?_|refine VIdx.mk _ hw ?_|refine gZ hz ?_|refine gX hr ?_)<;>conv=>whnf
  rfl
 ·have e:insF us (.mk k n s ls ts) d=none:=by
   simp only[insF,Tm.kind,Tm.num];exact if_neg (by omega)
  rw[e];rfl
open Go Go.Am Go.Gw
def TmW(t:Tm):Prop:=TmP t (encT t)
theorem TmP.w{v:PV}(h:TmP t v):TmW t:=j3T _ _ h
theorem j3F:∀{ts:List Tm},(∀t∈ts,TmW t)→TmsP ts (ts.map encT)
 |[],_=>by simp only[List.map_nil,TmsP]
 |t::r,h=>by
  simp only[List.map_cons,TmsP];exact⟨_,_,rfl,h t (by simp),j3F fun x hx=>h x (by simp[hx])⟩
theorem TmsP.ws:∀{ts:List Tm}{xs:List PV},TmsP ts xs→∀t∈ts,TmW t
 |[],_,_,t,ht=>by cases ht
 |a::r,xs,h,t,ht=>by
  simp only[TmsP] at h;obtain⟨v,xs',rfl,h1,h2⟩:=h;rcases List.mem_cons.1 ht with rfl|ht
  ·exact h1.w
  ·exact TmsP.ws h2 t ht
theorem TmW.args{s:List UInt8}{ls:List Lv}(h:TmW (.mk k n s ls ts)):(∀t∈ts,TmW t)∧ts.length≤1759218604441:=by
 unfold TmW at h;simp only[TmP] at h;obtain⟨b,z,xs,c,y,ys,_,hz,hxs,hb,hy,hys,hc,hs,_⟩:=h;exact⟨hys.ws,hc⟩
theorem j5J(hn:i64 n)(hl:ts.length≤1759218604441)(h:∀t∈ts,TmW t):TmW (.mk k n [] [] ts):=by
 unfold TmW;have h1:=j3F h;rw[j1r];cases ts with
 |nil=>
  simp only[j2g,j2N,TmP,LvsP];exact⟨_,_,_,_,_,_,rfl,.inr rfl,rfl,by simp,.inr rfl,h1,hl,by simp,hn⟩
 |cons a r=>
  rw[j0L (by simp)]
  simp only[j2N,TmP,LvsP];exact⟨_,_,_,_,_,_,rfl,.inr rfl,rfl,by simp,.inl rfl,h1,hl,by simp,hn⟩
theorem jch:TmW tz:=j5J (by unfold i64;omega) (by simp) (by simp)
def j8s(put:Tm→Int→Option Tm):Prop:=∀t d x,TmW t→(∃p kk,allT t p kk=true∧0≤kk∧kk≤2251799813685248)→0≤d→d≤4194304→put t d=some x→TmW x
theorem j3r(put:Tm→Int→Option Tm):∀(ts:List Tm) (k i d left:Int),(j0n put ts k i d left).1.length=ts.length
 |[],k,i,d,left=>by simp[j0n]
 |t::r,k,i,d,left=>by simp only[j0n,List.length_cons,j3r put r]
mutual
theorem j9E{put:Tm→Int→Option Tm}(hput:j8s put):∀(t:Tm) (p kk d left:Int),TmW t→allT t p kk=true→0≤kk→kk+depT t≤2251799813685248→0≤d→d+depT t≤4194304→TmW (bldF put t d left).1
 | .mk k n s ls ts,p,kk,d,left,hw,ha,hk0,hk1,hd0,hd1=>by
  rw[bldF]
  by_cases h0:left<0
  ·rw[j1w h0];exact jch
  ·cases hp:put (.mk k n s ls ts) d with
   |some x=>
    rw[j2w h0 hp];exact hput _ d x hw ⟨p,kk,ha,hk0,by omega⟩ hd0 (by omega) hp
   |none=>
    by_cases hl:ts.length=0
    ·rw[j1C h0 hp hl];exact hw
    ·rw[j1D h0 hp hl];obtain⟨hk17,hlenk,hnode,-,hats⟩:=j0b ha;rw[depT] at hk1 hd1;refine j5J (by unfold i64;omega) (by rw[j3r];exact hw.args.2) ?_
     exact j7B hput ts k 0 p kk d (left-1) hw.args.1 hats hk0 (by omega) hd0 (by omega)
theorem j7B{put:Tm→Int→Option Tm}(hput:j8s put):∀(ts:List Tm) (k i p kk d left:Int),(∀t∈ts,TmW t)→j0g ts k i p kk=true→0≤kk→kk+1+j2Y ts≤2251799813685248→0≤d→d+1+j2Y ts≤4194304→∀x∈(j0n put ts k i d left).1,TmW x
 |[],k,i,p,kk,d,left,hw,ha,hk0,hk1,hd0,hd1=>by simp[j0n]
 |t::r,k,i,p,kk,d,left,hw,ha,hk0,hk1,hd0,hd1=>by
  simp only[j0g,Bool.and_eq_true] at ha;rw[j2Y] at hk1 hd1;have hi1:=j0A (j06 k) i kk;have hi2:=j0A (j06 k) i d
  intro x hx;simp only[j0n,List.mem_cons] at hx;rcases hx with rfl|hx
  ·exact j9E hput t p _ _ left (hw t (by simp)) ha.1 (by omega) (by omega) (by omega) (by omega)
  ·exact j7B hput r k (i+1) p kk d _ (fun y hy=>hw y (by simp[hy])) ha.2 hk0 (by omega) hd0 (by omega) x hx
end
theorem j8h{from_:Int}(hby:0≤by_∧by_≤4194304):j8s (movF by_ from_):=by
 rintro⟨k,n,s,ls,ts⟩ d x hw ⟨p,kk,ha,hk0,hk1⟩ hd0 hd1 h;refine jaz h fun e=>?_
 have:=j0w (j0b ha).2.2.1 e;simp only[Tm.num];unfold i64;omega
theorem j5s{put:Tm→Int→Option Tm}(hput:j8s put){x:Tm}(hw:TmW t){p kk:Int}(ha:allT t p kk=true)(hk0:0≤kk)(hk1:kk+depT t≤2251799813685248)(hd:depT t≤2000)(h:j0X put t=some x):TmW x:=by
 unfold j0X at h;split at h
 ·cases h
 ·cases h;exact j9E hput t p kk 0 2000 hw ha hk0 hk1 (by omega) (by omega)
theorem j8W(hby:0≤by_∧by_≤4194304)(hw:TmW t)(ha:anyT t=true):TmW (j1Z t by_):=by
 unfold j1Z;cases h:j0X (movF by_ 0) t with
 |none=>exact jch
 |some x=>
  have:=j1P ha;exact j5s (j8h hby) hw (j0v ha).2 (by omega) (by omega) this h
theorem j7W(hw:∀u∈us,TmW u)(has:∀a∈us,anyT a=true)(hla:us.length≤1048576):j8s (insF us):=by
 rintro⟨k,n,s,ls,ts⟩ d x hwt ⟨p,kk,ha,hk0,hk1⟩ hd0 hd1 h
 by_cases hc:(Tm.mk k n s ls ts).kind=1∧¬(Tm.mk k n s ls ts).num-d<0
 ·have hv:=j0w (j0b ha).2.2.1 hc.1
  by_cases h3:(us.length:Int)≤(Tm.mk k n s ls ts).num-d
  ·rw[j7X hc h3] at h;cases h;simp only[Tm.num] at *;exact j7r (by unfold i64;omega)
  ·rw[j7V hc h3] at h;cases h;simp only[Tm.num] at *;have hq:((us.length:Int)-1-(n-d)).toNat<us.length:=by omega
   have hm:us.getD ((us.length:Int)-1-(n-d)).toNat tz∈us:=by
    rw[List.getD_eq_getElem?_getD,List.getElem?_eq_getElem hq];exact List.getElem_mem hq
   exact j8W ⟨hd0,hd1⟩ (hw _ hm) (has _ hm)
 ·unfold insF at h;rw[if_neg hc] at h;cases h
end Go.Proofs.YtnfbeplfnblgjaaGreatDoor
