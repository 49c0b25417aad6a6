/- Terms made anew, and raised (package bind). -/
import Derived.Test.YtbnodhcijeaceaaGreatDoorZTg
set_option linter.all false
set_option maxHeartbeats 2000000
set_option maxRecDepth 100000
namespace Go.Proofs.YtbnodhcijeaceaaGreatDoor
open Go Go.Am Go.Gw
def j3u(put:Tm→Int→Option Tm)(t:Tm):Option Tm:=if(bldF put t 0 2000).2<0 then none else some (bldF put t 0 2000).1
theorem j8n(by_ from_:Int)(hby:0≤by_∧by_≤4194304)(hfr:0≤from_∧from_≤4194304)(t:Tm)(v:PV)(h:TmP t v)(p kk:Int)(hall:allT t p kk=true)(hk0:0≤kk)(hk1:kk+depT t≤2251799813685248):
  Pf C1 208 [v,j9Q by_ from_] (putV (j3u (movF by_ from_) t)):=by
 have hb:=jfz by_ from_ hby hfr t v h p kk 0 2000 hall hk0 hk1 (by omega) (by omega) (by omega) (by omega)
 have hl:=j3J (movF by_ from_) t 0 2000 (by omega)
 have hm:j3u (movF by_ from_) t=if(bldF (movF by_ from_) t 0 2000).2<0 then none else some (bldF (movF by_ from_) t 0 2000).1:=rfl
 generalize bldF (movF by_ from_) t 0 2000=bx at hb hl hm;obtain⟨bt,bl⟩:=bx;obtain⟨k8,n8,s8,b8,z8,x8,c8,y8,ys8,he8⟩:=j07 bt;dsimp only at hb hl hm;rw[he8] at hb;obtain⟨k,nn,s,ls,ts,b,z,xs,c,y,ys,rfl,rfl,-⟩:=h.open;refine j00 Tryz.func208 rfl rfl rfl ?_;all_goals try conv=>whnf
 refine j0F rfl rfl rfl rfl rfl rfl (Finds.mono hb ?_);rintro _ _ ⟨rfl,rfl⟩;refine j1Y rfl ?_;repeat'(first|refine gU ?_|apply gE<;>intro h)<;>conv=>whnf
 ·have e:j3u (movF by_ from_) (.mk k nn s ls ts)=none:=by rw[hm,if_pos (by assumption)]
  rw[e];rfl
 ·have e:j3u (movF by_ from_) (.mk k nn s ls ts)=some bt:=by rw[hm,if_neg (by assumption)]
  rw[e];simp only[putV];rw[he8];rfl
def j4b(t:Tm)(by_:Int):Tm:=(j3u (movF by_ 0) t).getD tz
theorem jlw(by_:Int)(hby:0≤by_∧by_≤4194304)(t:Tm)(v:PV)(h:TmP t v)(p kk:Int)(hall:allT t p kk=true)(hk0:0≤kk)(hk1:kk+depT t≤2251799813685248):
  Pf C1 214 [v,iv by_] [encT (j4b t by_)]:=by
 have hm:=jgo by_ 0;have hd:=j8n by_ 0 hby (by omega) t v h p kk hall hk0 hk1
 obtain⟨k,nn,s,ls,ts,b,z,xs,c,y,ys,rfl,rfl,-⟩:=h.open;unfold j4b;cases he:j3u (movF by_ 0) (.mk k nn s ls ts) with
 |some x=>
  rw[he] at hd;simp only[putV] at hd;obtain⟨k8,n8,s8,b8,z8,x8,c8,y8,ys8,he8⟩:=j07 x;simp only[Option.getD_some];rw[he8] at hd⊢;refine j00 Tryz.func214 rfl rfl rfl ?_;repeat'(first|refine gU ?_|refine j01 hm fun _=>?_|refine j01 hd fun _=>?_|apply gK)<;>conv=>whnf
  all_goals rfl
 |none=>
  rw[he] at hd;simp only[putV] at hd;simp only[Option.getD_none];refine j00 Tryz.func214 rfl rfl rfl ?_;repeat'(first|refine gU ?_|refine j01 hm fun _=>?_|refine j01 hd fun _=>?_|apply gK)<;>conv=>whnf
  all_goals rfl
open Go Go.Am Go.Gw
def insF(us:List Tm)(t:Tm)(d:Int):Option Tm:=if t.kind=1∧¬t.num-d<0 then some (if(us.length:Int)≤t.num-d then .mk 1 (t.num-us.length) [] [] [] else j4b (us.getD ((us.length:Int)-1-(t.num-d)).toNat tz) d) else none
variable{by_ d k n:Int}{ts us:List Tm}{t:Tm}
theorem jjf(h:t.kind=1∧¬t.num-d<0)(h2:(us.length:Int)≤t.num-d):insF us t d=some (.mk 1 (t.num-us.length) [] [] []):=by
 unfold insF;rw[if_pos h,if_pos h2]
theorem jjd(h:t.kind=1∧¬t.num-d<0)(h2:¬(us.length:Int)≤t.num-d):insF us t d=some (j4b (us.getD ((us.length:Int)-1-(t.num-d)).toNat tz) d):=by
 unfold insF;rw[if_pos h,if_neg h2]
def insP(b:Bool)(z:Nat)(xs:List PV):PV:=.fn 213 [] [.cp [iv xs.length],.cp [.sl b z xs]]
theorem jny(us:List Tm)(b:Bool)(z:Nat)(xs:List PV)(hz:z=5∨xs=[])(hxs:TmsP us xs)(hla:us.length≤1048576)(has:∀a∈us,anyT a=true)(t:Tm)(v:PV)(h:TmP t v)(d:Int)(hd0:0≤d)(hd1:d≤4194304)(h1:0≤t.num∧t.num≤2251799813685248):
  Pf C1 213 [v,iv d,.cp [iv xs.length],.cp [.sl b z xs]] (putV (insF us t d)):=by
 have hlx:=hxs.len;have hv:=jhb (t.num-us.length);have hra:∀(q:Nat) a,us[q]?=some a→∃w,xs[q]?=some w∧TmP a w∧Pf C1 214 [w,iv d] [encT (j4b a d)]:=fun q a ha=>by
  obtain⟨w,hw,hl⟩:=hxs.at ha;have hany:=has a (List.mem_of_getElem? ha);have:=j5b hany;exact⟨w,hw,hl,jlw d ⟨hd0,hd1⟩ a w hl 4 _ (j2u hany).2 (by omega) (by omega)⟩
 obtain⟨k,n,s,ls,ts,b0,z0,xs0,c0,y0,ys0,rfl,rfl,-⟩:=h.open;simp only[Tm.num] at h1 hv;rw[←hlx] at hv;refine j00 Tryz.func213 rfl rfl rfl ?_;repeat'(first|refine gU ?_|apply gE<;>intro h|refine gX hv ?_|refine VNat.nonneg (by omega) ?_)<;>conv=>whnf
 ·have e:insF us (.mk k n s ls ts) d=none:=by
   simp only[insF,Tm.kind,Tm.num];exact if_neg (by omega)
  rw[e];rfl
 ·have e:insF us (.mk k n s ls ts) d=some (.mk 1 (n-xs.length) [] [] []):=by
   rw[jjf (by simp only[Tm.kind,Tm.num];omega) (by simp only[Tm.num];omega),hlx]
   rfl
  rw[e];rfl
 ·have hq:(((xs.length:Int)-1-(n-d)).toNat)<us.length:=by omega
  obtain⟨a,ha⟩:∃a,us[((xs.length:Int)-1-(n-d)).toNat]?=some a:=⟨_,List.getElem?_eq_getElem hq⟩;have e:insF us (.mk k n s ls ts) d=some (j4b a d):=by
   rw[jjd (by simp only[Tm.kind,Tm.num];omega) (by simp only[Tm.num];omega),←hlx,List.getD_eq_getElem?_getD]
   simp only[Tm.num];rw[ha];rfl
  obtain⟨w,hw,hl,hr⟩:=hra _ a ha;obtain⟨k8,n8,s8,b8,z8,x8,c8,y8,ys8,he8⟩:=j07 (j4b a d);obtain⟨k1,n1,s1,l1,t1,b2,z1,x1,c1,y1,ys1,rfl,rfl,-⟩:=hl.open;rw[e];simp only[putV];rw[he8] at hr⊢;repeat'(first|refine gU ?_|refine VIdx.mk _ hw ?_|refine gZ hz ?_|refine gX hr ?_)<;>conv=>whnf
  rfl
 ·have e:insF us (.mk k n s ls ts) d=none:=by
   simp only[insF,Tm.kind,Tm.num];exact if_neg (by omega)
  rw[e];rfl
open Go Go.Am Go.Gw
def TmW(t:Tm):Prop:=TmP t (encT t)
theorem TmP.w{v:PV}(h:TmP t v):TmW t:=je4 _ _ h
theorem jas:∀{ts:List Tm},(∀t∈ts,TmW t)→TmsP ts (ts.map encT)
 |[],_=>by simp only[List.map_nil,TmsP]
 |t::r,h=>by
  simp only[List.map_cons,TmsP];exact⟨_,_,rfl,h t (by simp),jas fun x hx=>h x (by simp[hx])⟩
theorem TmsP.ws:∀{ts:List Tm}{xs:List PV},TmsP ts xs→∀t∈ts,TmW t
 |[],_,_,t,ht=>by cases ht
 |a::r,xs,h,t,ht=>by
  simp only[TmsP] at h;obtain⟨v,xs',rfl,h1,h2⟩:=h;rcases List.mem_cons.1 ht with rfl|ht
  ·exact h1.w
  ·exact TmsP.ws h2 t ht
theorem TmW.args{s:List UInt8}{ls:List Lv}(h:TmW (.mk k n s ls ts)):(∀t∈ts,TmW t)∧ts.length≤1759218604441:=by
 unfold TmW at h;simp only[TmP] at h;obtain⟨b,z,xs,c,y,ys,_,hz,hxs,hb,hy,hys,hc,hs,_⟩:=h;exact⟨hys.ws,hc⟩
theorem jjZ(hn:i64 n)(hl:ts.length≤1759218604441)(h:∀t∈ts,TmW t):TmW (.mk k n [] [] ts):=by
 unfold TmW;have h1:=jas h;rw[j2N];cases ts with
 |nil=>
  simp only[j7Z,j7X,TmP,LvsP];exact⟨_,_,_,_,_,_,rfl,.inr rfl,rfl,by simp,.inr rfl,h1,hl,by simp,hn⟩
 |cons a r=>
  rw[j2y (by simp)]
  simp only[j7X,TmP,LvsP];exact⟨_,_,_,_,_,_,rfl,.inr rfl,rfl,by simp,.inl rfl,h1,hl,by simp,hn⟩
theorem jk0:TmW tz:=jjZ (by unfold i64;omega) (by simp) (by simp)
def jm7(put:Tm→Int→Option Tm):Prop:=∀t d x,TmW t→(∃p kk,allT t p kk=true∧0≤kk∧kk≤2251799813685248)→0≤d→d≤4194304→put t d=some x→TmW x
theorem j5W(put:Tm→Int→Option Tm):∀(ts:List Tm) (k i d left:Int),(j1x put ts k i d left).1.length=ts.length
 |[],k,i,d,left=>by simp[j1x]
 |t::r,k,i,d,left=>by simp only[j1x,List.length_cons,j5W put r]
mutual
theorem jmw{put:Tm→Int→Option Tm}(hput:jm7 put):∀(t:Tm) (p kk d left:Int),TmW t→allT t p kk=true→0≤kk→kk+depT t≤2251799813685248→0≤d→d+depT t≤4194304→TmW (bldF put t d left).1
 | .mk k n s ls ts,p,kk,d,left,hw,ha,hk0,hk1,hd0,hd1=>by
  rw[bldF]
  by_cases h0:left<0
  ·rw[j4h h0];exact jk0
  ·cases hp:put (.mk k n s ls ts) d with
   |some x=>
    rw[j5e h0 hp];exact hput _ d x hw ⟨p,kk,ha,hk0,by omega⟩ hd0 (by omega) hp
   |none=>
    by_cases hl:ts.length=0
    ·rw[j3K h0 hp hl];exact hw
    ·rw[j3L h0 hp hl];obtain⟨hk17,hlenk,hnode,-,hats⟩:=j0r ha;rw[depT] at hk1 hd1;refine jjZ (by unfold i64;omega) (by rw[j5W];exact hw.args.2) ?_
     exact jiM hput ts k 0 p kk d (left-1) hw.args.1 hats hk0 (by omega) hd0 (by omega)
theorem jiM{put:Tm→Int→Option Tm}(hput:jm7 put):∀(ts:List Tm) (k i p kk d left:Int),(∀t∈ts,TmW t)→j0T ts k i p kk=true→0≤kk→kk+1+jch ts≤2251799813685248→0≤d→d+1+jch ts≤4194304→∀x∈(j1x put ts k i d left).1,TmW x
 |[],k,i,p,kk,d,left,hw,ha,hk0,hk1,hd0,hd1=>by simp[j1x]
 |t::r,k,i,p,kk,d,left,hw,ha,hk0,hk1,hd0,hd1=>by
  simp only[j0T,Bool.and_eq_true] at ha;rw[jch] at hk1 hd1;have hi1:=j2e (j0g k) i kk;have hi2:=j2e (j0g k) i d
  intro x hx;simp only[j1x,List.mem_cons] at hx;rcases hx with rfl|hx
  ·exact jmw hput t p _ _ left (hw t (by simp)) ha.1 (by omega) (by omega) (by omega) (by omega)
  ·exact jiM hput r k (i+1) p kk d _ (fun y hy=>hw y (by simp[hy])) ha.2 hk0 (by omega) hd0 (by omega) x hx
end
theorem jjx{from_:Int}(hby:0≤by_∧by_≤4194304):jm7 (movF by_ from_):=by
 rintro⟨k,n,s,ls,ts⟩ d x hw ⟨p,kk,ha,hk0,hk1⟩ hd0 hd1 h;refine jo4 h fun e=>?_
 have:=j1E (j0r ha).2.2.1 e;simp only[Tm.num];unfold i64;omega
theorem jes{put:Tm→Int→Option Tm}(hput:jm7 put){x:Tm}(hw:TmW t){p kk:Int}(ha:allT t p kk=true)(hk0:0≤kk)(hk1:kk+depT t≤2251799813685248)(hd:depT t≤2000)(h:j3u put t=some x):TmW x:=by
 unfold j3u at h;split at h
 ·cases h
 ·cases h;exact jmw hput t p kk 0 2000 hw ha hk0 hk1 (by omega) (by omega)
theorem jlu(hby:0≤by_∧by_≤4194304)(hw:TmW t)(ha:anyT t=true):TmW (j4b t by_):=by
 unfold j4b;cases h:j3u (movF by_ 0) t with
 |none=>exact jk0
 |some x=>
  have:=j5b ha;exact jes (jjx hby) hw (j2u ha).2 (by omega) (by omega) this h
theorem jje(hw:∀u∈us,TmW u)(has:∀a∈us,anyT a=true)(hla:us.length≤1048576):jm7 (insF us):=by
 rintro⟨k,n,s,ls,ts⟩ d x hwt ⟨p,kk,ha,hk0,hk1⟩ hd0 hd1 h
 by_cases hc:(Tm.mk k n s ls ts).kind=1∧¬(Tm.mk k n s ls ts).num-d<0
 ·have hv:=j1E (j0r ha).2.2.1 hc.1
  by_cases h3:(us.length:Int)≤(Tm.mk k n s ls ts).num-d
  ·rw[jjf hc h3] at h;cases h;simp only[Tm.num] at *;exact jik (by unfold i64;omega)
  ·rw[jjd hc h3] at h;cases h;simp only[Tm.num] at *;have hq:((us.length:Int)-1-(n-d)).toNat<us.length:=by omega
   have hm:us.getD ((us.length:Int)-1-(n-d)).toNat tz∈us:=by
    rw[List.getD_eq_getElem?_getD,List.getElem?_eq_getElem hq];exact List.getElem_mem hq
   exact jlu ⟨hd0,hd1⟩ (hw _ hm) (has _ hm)
 ·unfold insF at h;rw[if_neg hc] at h;cases h
end Go.Proofs.YtbnodhcijeaceaaGreatDoor
