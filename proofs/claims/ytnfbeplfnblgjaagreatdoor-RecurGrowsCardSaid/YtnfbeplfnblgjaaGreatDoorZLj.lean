/- Terms with constants in their variables' places, and back: plain lemmas. -/
import Derived.Test.YtnfbeplfnblgjaaGreatDoorZUa
set_option linter.all false
namespace Go.Proofs.YtnfbeplfnblgjaaGreatDoor
open Go Go.Am Go.Gw
def cn(s:List UInt8):Tm:=.mk 3 0 s [] []
def plN(put:Tm→Int→Option Tm)(t:Tm)(d:Int)(r:List Tm):Tm:=match put t d with
 |some x=>x
 |none=>if t.args.length=0 then t else .mk t.kind 0 [] [] r
mutual
def plF(put:Tm→Int→Option Tm):Tm→Int→Tm
 | .mk k n s ls ts,d=>plN put (.mk k n s ls ts) d (plFs put ts k 0 d)
def plFs(put:Tm→Int→Option Tm):List Tm→Int→Int→Int→List Tm
 |[],_,_,_=>[]
 |t::r,k,i,d=>plF put t (j08 (j06 k) i d)::plFs put r k (i+1) d
end
section
variable{put:Tm→Int→Option Tm}{t x:Tm}{d:Int}{r:List Tm}
theorem j0M(h:put t d=some x):plN put t d r=x:=by rw[plN,h]
theorem j0m(h:put t d=none)(ha:t.args.length=0):plN put t d r=t:=by rw[plN,h];exact if_pos ha
theorem j1f(h:put t d=none)(ha:¬t.args.length=0):plN put t d r=.mk t.kind 0 [] [] r:=by rw[plN,h];exact if_neg ha
end
theorem j1v(put:Tm→Int→Option Tm):∀(ts:List Tm) (k i d:Int),(plFs put ts k i d).length=ts.length
 |[],k,i,d=>by simp[plFs]
 |t::r,k,i,d=>by simp only[plFs,List.length_cons,j1v put r]
mutual
theorem j6T{put:Tm→Int→Option Tm}(hs:∀t d x,put t d=some x→sizT x≤sizT t):∀(t:Tm) (d left:Int),(sizT t:Int)≤left→sizT t≤2000→(bldF put t d left).1=plF put t d∧left-sizT t≤(bldF put t d left).2∧sizT (plF put t d)≤sizT t
 | .mk k n s ls ts,d,left,h1,h2=>by
  rw[bldF,plF];have hp1:1+j0j ts≤sizT (.mk k n s ls ts):=by rw[sizT];omega
  cases hp:put (.mk k n s ls ts) d with
  |some x=>
   have:=hs _ _ _ hp;have hx:=j1L x;rw[j2w (by omega) hp,j0M hp]
   refine⟨rfl,?_,this⟩;dsimp only;omega
  |none=>
   by_cases ha:ts.length=0
   ·have hx:=j1L (.mk k n s ls ts);rw[j1C (by omega) hp ha,j0m hp ha]
    refine⟨rfl,?_,Nat.le_refl _⟩;dsimp only;omega
   ·rw[j1D (by omega) hp ha,j1f hp ha]
    have ih:=j7C hs ts k 0 d (left-1) (by omega) (by omega)
    refine⟨by dsimp only;rw[ih.1],by dsimp only;omega,?_⟩
    rw[sizT,j0c];omega
theorem j7C{put:Tm→Int→Option Tm}(hs:∀t d x,put t d=some x→sizT x≤sizT t):∀(ts:List Tm) (k i d left:Int),(j0j ts:Int)≤left→j0j ts≤2000→(j0n put ts k i d left).1=plFs put ts k i d∧left-j0j ts≤(j0n put ts k i d left).2∧j0j (plFs put ts k i d)≤j0j ts
 |[],k,i,d,left,h1,h2=>by simp[j0n,plFs,j0j] at *
 |t::r,k,i,d,left,h1,h2=>by
  rw[j0j] at h1 h2;simp only[j0n,plFs,j0j];have a:=j6T hs t (j08 (j06 k) i d) left (by omega) (by omega)
  have b:=j7C hs r k (i+1) d (bldF put t (j08 (j06 k) i d) left).2 (by omega) (by omega)
  refine⟨?_,by omega,by omega⟩
  rw[a.1,b.1]
end
variable{b d f k kk n p:Int}{ns:List (List UInt8)}{ls:List Lv}{ts:List Tm}{c s:List UInt8}{i:Nat}{t:Tm}
theorem jbD{put:Tm→Int→Option Tm}(hs:∀t d x,put t d=some x→sizT x≤sizT t)(h:sizT t≤2000):j0X put t=some (plF put t 0):=by
 have a:=j6T hs t 0 2000 (by omega) h
 unfold j0X;rw[if_neg (by omega),a.1]
theorem j3L(h:anyT t=true):sizT t≤2000:=by
 have:=(j0v h).1;rw[j1L] at this;omega
theorem jbb:anyT t=true↔sizT t≤2000∧allT t 4 1125899906842624=true:=by
 constructor
 ·exact fun h=>⟨j3L h,(j0v h).2⟩
 ·rintro⟨h1,h2⟩;have:j0r t≤2000:=by rw[j1L];omega
  simp[anyT,j1c,this,h2]
theorem jck(s:List UInt8)(p kk:Int):allT (cn s) p kk=j1t s:=by
 simp[cn,allT,j1A,j1O,j0F,j0g]
def opF(ns:List (List UInt8))(t:Tm)(d:Int):Option Tm:=if t.kind=1∧d≤t.num then some (if(ns.length:Int)≤t.num-d then .mk 1 (t.num-ns.length) [] [] [] else cn (ns.getD ((ns.length:Int)-1-(t.num-d)).toNat [])) else none
theorem j1Y(h:¬(t.kind=1∧d≤t.num)):opF ns t d=none:=if_neg h
theorem j5C(h:t.kind=1∧d≤t.num)(h2:(ns.length:Int)≤t.num-d):opF ns t d=some (.mk 1 (t.num-ns.length) [] [] []):=by
 unfold opF;rw[if_pos h,if_pos h2]
theorem j5B(h:t.kind=1∧d≤t.num)(h2:¬(ns.length:Int)≤t.num-d):opF ns t d=some (cn (ns.getD ((ns.length:Int)-1-(t.num-d)).toNat [])):=by
 unfold opF;rw[if_pos h,if_neg h2]
theorem jaA(h:t.kind=1∧¬t.num<f+d):movF b f t d=some (.mk 1 (t.num+b) [] [] []):=if_pos h
theorem j4g(h:¬(t.kind=1∧¬t.num<f+d)):movF b f t d=none:=if_neg h
theorem jbP(t:Tm):1≤sizT t:=by
 obtain⟨k,n,s,ls,ts⟩:=t;rw[sizT];omega
def abF(c:List UInt8)(t:Tm)(d:Int):Option Tm:=if t.kind=3∧t.name=c then some (.mk 1 d [] [] []) else movF 1 0 t d
theorem j3J(h:¬(t.kind=3∧t.name=c)):abF c t d=movF 1 0 t d:=if_neg h
theorem j9m(c:List UInt8)(t:Tm)(d:Int)(x:Tm)(h:abF c t d=some x):sizT x≤sizT t:=by
 have:=jbP t;unfold abF at h;split at h
 ·cases h;simp[sizT,j0j,j0c];omega
 ·unfold movF at h;split at h
  ·cases h;simp[sizT,j0j,j0c];omega
  ·cases h
mutual
def j0f:Tm→List (List UInt8)
 | .mk k _ s _ ts=>(if k=3 then[s] else[])++j09 ts
def j09:List Tm→List (List UInt8)
 |[]=>[]
 |t::r=>j0f t++j09 r
end
theorem j1K(h:j1A (.mk k n s ls ts) kk=true)(hk:k=1):s=[]∧ls=[]:=by
 simp only[j1A,if_pos hk,Bool.and_eq_true,decide_eq_true_eq] at h;obtain⟨-,-,h1,h2⟩:=h;exact⟨by simpa using h1,List.eq_nil_of_length_eq_zero h2⟩
theorem j2B(h:j1A (.mk k n s ls ts) kk=true)(hk:4≤k):n=0∧s=[]∧ls=[]:=by
 have e:j1g k=0:=by rw[j1g,if_neg (by omega)]
 simp only[j1A,if_neg (show ¬k=1 by omega),if_neg (show ¬k=3 by omega),Bool.and_eq_true,decide_eq_true_eq,e] at h
 obtain⟨h0,h1,h2⟩:=h;exact⟨h0,by simpa using h1,List.eq_nil_of_length_eq_zero (by omega)⟩
theorem j2h(h:allT (.mk k n s ls ts) p kk=true):(k<4→ts=[])∧(4≤k→ts.length≠0):=by
 obtain⟨hk,hl,-⟩:=j0b h;constructor
 ·intro h4;rw[j1O,if_neg (by omega),if_neg (by omega)] at hl
  exact List.eq_nil_of_length_eq_zero (by omega)
 ·intro h4;rw[j1O] at hl;split at hl
  ·omega
  ·rw[if_pos (by omega)] at hl
   omega
theorem j4B(b i d:Int):j08 b i (d+1)=j08 b i d+1:=by
 unfold j08;split<;>omega
theorem j2n(b i d e:Int):j08 b i (d+e)=j08 b i d+e:=by
 unfold j08;split<;>omega
theorem jab(ns:List (List UInt8))(c:List UInt8):(ns++[c]).getD ns.length []=c:=by simp[List.getD_eq_getElem?_getD]
theorem j8R(ns:List (List UInt8))(c:List UInt8)(h:i<ns.length):(ns++[c]).getD i []=ns.getD i []:=by simp[List.getD_eq_getElem?_getD,List.getElem?_append_left h]
theorem getD_in(ns:List (List UInt8))(h:i<ns.length):ns.getD i []∈ns:=by
 rw[List.getD_eq_getElem?_getD,List.getElem?_eq_getElem h];exact List.getElem_mem h
theorem jd2(h:s≠c):abF c (cn s) d=none:=by
 unfold abF movF cn;simp[Tm.kind,Tm.name,h]
theorem j6A(h:s≠c):plF (abF c) (cn s) d=cn s:=by
 rw[cn,plF];exact j0m (jd2 h) rfl
theorem j7o:plF (abF c) (cn c) d=.mk 1 d [] [] []:=by
 rw[cn,plF];exact j0M (by simp[abF,Tm.kind,Tm.name])
mutual
theorem jdX{ns:List (List UInt8)}{c:List UInt8}(hc:c∉ns):∀(t:Tm) (p kk d:Int),allT t p kk=true→c∉j0f t→plF (abF c) (plF (opF (ns++[c])) t d) d=plF (opF ns) t (d+1)
 | .mk k n s ls ts,p,kk,d,ha,hn=>by
  obtain⟨hk,hl,hnd,-,hts⟩:=j0b ha;obtain⟨ha1,ha2⟩:=j2h ha;rw[j0f,List.mem_append,not_or] at hn
  by_cases h1:k=1
  ·obtain⟨rfl,rfl⟩:=j1K hnd h1;obtain rfl:=ha1 (by omega)
   subst h1;have hlen:((ns++[c]).length:Int)=ns.length+1:=by simp
   by_cases h2:d≤n
   ·by_cases h3:n=d
    ·subst h3;have e1:opF (ns++[c]) (.mk 1 n [] [] []) n=some (cn c):=by
      rw[j5B (t:=.mk 1 n [] [] []) (d:=n) ⟨rfl,Int.le_refl _⟩ (by rw[hlen];simp only[Tm.num];omega),hlen]
      simp only[Tm.num];rw[show((ns.length:Int)+1-1-(n-n)).toNat=ns.length by omega,jab]
     have e2:opF ns (.mk 1 n [] [] []) (n+1)=none:=j1Y (by simp only[Tm.num];omega)
     rw[plF,plF,j0M e1,j7o,j0m e2 rfl]
    ·by_cases h4:(ns.length:Int)+1≤n-d
     ·have e1:opF (ns++[c]) (.mk 1 n [] [] []) d=some (.mk 1 (n-(ns.length+1)) [] [] []):=by
       rw[j5C (t:=.mk 1 n [] [] []) ⟨rfl,h2⟩ (by rw[hlen];simp only[Tm.num];omega),hlen]
       rfl
      have e2:opF ns (.mk 1 n [] [] []) (d+1)=some (.mk 1 (n-ns.length) [] [] []):=j5C ⟨rfl,by simp only[Tm.num];omega⟩ (by simp only[Tm.num];omega)
      have e3:abF c (.mk 1 (n-(ns.length+1)) [] [] []) d=some (.mk 1 (n-(ns.length+1)+1) [] [] []):=by
       rw[j3J (by simp only[Tm.kind];omega),jaA (t:=.mk 1 _ [] [] []) ⟨rfl,by simp only[Tm.num];omega⟩]
       rfl
      rw[plF,plF,j0M e1,plF,j0M e2,j0M e3];congr 1;omega
     ·have hq:((ns.length:Int)-(n-d)).toNat<ns.length:=by omega
      have e1:opF (ns++[c]) (.mk 1 n [] [] []) d=some (cn (ns.getD ((ns.length:Int)-(n-d)).toNat [])):=by
       rw[j5B (t:=.mk 1 n [] [] []) ⟨rfl,h2⟩ (by rw[hlen];simp only[Tm.num];omega),hlen]
       simp only[Tm.num];rw[show(ns.length:Int)+1-1-(n-d)=(ns.length:Int)-(n-d) by omega,j8R ns c hq]
      have e2:opF ns (.mk 1 n [] [] []) (d+1)=some (cn (ns.getD ((ns.length:Int)-(n-d)).toNat [])):=by
       rw[j5B (t:=.mk 1 n [] [] []) ⟨rfl,by simp only[Tm.num];omega⟩ (by simp only[Tm.num];omega)]
       simp only[Tm.num];rw[show(ns.length:Int)-1-(n-(d+1))=(ns.length:Int)-(n-d) by omega]
      have hne:ns.getD ((ns.length:Int)-(n-d)).toNat []≠c:=fun e=>hc (e▸getD_in ns hq)
      rw[plF,plF,j0M e1,j0M e2,j6A hne]
   ·have e1:∀m:List (List UInt8),∀e,d≤e→opF m (.mk 1 n [] [] []) e=none:=fun m e he=>j1Y (by simp only[Tm.num];omega)
    have e3:abF c (.mk 1 n [] [] []) d=none:=by
     rw[j3J (by simp only[Tm.kind];omega)]
     exact j4g (by simp only[Tm.num];omega)
    rw[plF,plF,j0m (e1 _ d (by omega)) rfl,plF,j0m (e1 _ (d+1) (by omega)) rfl,j0m e3 rfl]
  ·have e1:∀m:List (List UInt8),∀e s ls ts n,opF m (.mk k n s ls ts) e=none:=fun m e s ls ts n=>j1Y (fun h=>h1 h.1)
   by_cases h4:4≤k
   ·have e3:∀ts n,abF c (.mk k n [] [] ts) d=none:=fun ts n=>by
     rw[j3J (by simp only[Tm.kind];omega)]
     exact j4g (by simp only[Tm.kind];omega)
    have hne:=ha2 h4;have ih:=jbY hc ts k 0 p kk d hts hn.2;rw[plF,plF,j1f (e1 _ _ _ _ _ _) hne,j1f (e1 _ _ _ _ _ _) hne,plF];simp only[Tm.kind];rw[j1f (e3 _ _) (by simp only[Tm.args,j1v];exact hne)]
    simp only[Tm.kind];rw[ih]
   ·obtain rfl:=ha1 (by omega)
    have e3:abF c (.mk k n s ls []) d=none:=by
     rw[j3J]
     ·exact j4g (by simp only[Tm.kind];omega)
     ·simp only[Tm.kind,Tm.name];rintro⟨rfl,rfl⟩;exact hn.1 (by simp)
    rw[plF,plF,j0m (e1 _ _ _ _ _ _) rfl,j0m (e1 _ _ _ _ _ _) rfl,plF,j0m e3 rfl]
theorem jbY{ns:List (List UInt8)}{c:List UInt8}(hc:c∉ns):∀(ts:List Tm) (k i p kk d:Int),j0g ts k i p kk=true→c∉j09 ts→plFs (abF c) (plFs (opF (ns++[c])) ts k i d) k i d=plFs (opF ns) ts k i (d+1)
 |[],k,i,p,kk,d,ha,hn=>by simp only[plFs]
 |t::r,k,i,p,kk,d,ha,hn=>by
  simp only[j0g,Bool.and_eq_true] at ha;rw[j09,List.mem_append,not_or] at hn;simp only[plFs];rw[jdX hc t p _ _ ha.1 hn.1,jbY hc r k (i+1) p kk d ha.2 hn.2,j4B]
end
mutual
theorem jdB:∀(t:Tm) (p kk d:Int),allT t p kk=true→plF (opF []) t d=t
 | .mk k n s ls ts,p,kk,d,ha=>by
  obtain⟨hk,hl,hnd,-,hts⟩:=j0b ha;obtain⟨ha1,ha2⟩:=j2h ha
  by_cases h1:k=1
  ·obtain⟨rfl,rfl⟩:=j1K hnd h1;obtain rfl:=ha1 (by omega)
   by_cases h2:d≤n
   ·have e:opF [] (.mk k n [] [] []) d=some (.mk 1 n [] [] []):=by
     rw[j5C (t:=.mk k n [] [] []) ⟨h1,h2⟩ (by simp only[Tm.num,List.length_nil];omega)]
     simp[Tm.num]
    rw[plF,j0M e,h1]
   ·have e:opF [] (.mk k n [] [] []) d=none:=j1Y (by simp only[Tm.num];omega)
    rw[plF,j0m e rfl]
  ·have e:opF [] (.mk k n s ls ts) d=none:=j1Y (fun h=>h1 h.1)
   by_cases h4:4≤k
   ·obtain⟨rfl,rfl,rfl⟩:=j2B hnd h4;rw[plF,j1f e (ha2 h4),jaH ts k 0 p kk d hts];rfl
   ·obtain rfl:=ha1 (by omega)
    rw[plF,j0m e rfl]
theorem jaH:∀(ts:List Tm) (k i p kk d:Int),j0g ts k i p kk=true→plFs (opF []) ts k i d=ts
 |[],k,i,p,kk,d,ha=>by simp only[plFs]
 |t::r,k,i,p,kk,d,ha=>by
  simp only[j0g,Bool.and_eq_true] at ha;simp only[plFs];rw[jdB t p _ _ ha.1,jaH r k (i+1) p kk d ha.2]
end
theorem j1J{ts':List Tm}{kk':Int}(h:j1A (.mk k n s ls ts) kk=true)(hk:¬k=1):j1A (.mk k n s ls ts') kk'=true:=by
 simp only[j1A,if_neg hk] at h⊢;exact h
theorem j0J(h1:1≤k∧k≤7)(h2:(ts.length:Int)=j1O k)(h3:j1A (.mk k n s ls ts) kk=true)(h4:j0F ls p=true)(h5:j0g ts k 0 p kk=true):allT (.mk k n s ls ts) p kk=true:=by
 simp[allT,h1,h2,h3,h4,h5]
theorem j2t{m:Int}(h0:0≤m)(h1:m<kk):allT (.mk 1 m [] [] []) p kk=true:=by
 simp[allT,j1A,j1O,j0F,j0g,h0,h1]
mutual
theorem j2R:∀(t:Tm) (p kk kk':Int),allT t p kk=true→kk≤kk'→allT t p kk'=true
 | .mk k n s ls ts,p,kk,kk',ha,h=>by
  obtain⟨hk,hl,hnd,hls,hts⟩:=j0b ha;refine j0J hk hl ?_ hls (j4v ts k 0 p kk kk' hts h)
  by_cases h1:k=1
  ·have:=j0w hnd h1;obtain⟨rfl,rfl⟩:=j1K hnd h1;simp[j1A,h1];omega
  ·exact j1J hnd h1
theorem j4v:∀(ts:List Tm) (k i p kk kk':Int),j0g ts k i p kk=true→kk≤kk'→j0g ts k i p kk'=true
 |[],k,i,p,kk,kk',ha,h=>by simp[j0g]
 |t::r,k,i,p,kk,kk',ha,h=>by
  simp only[j0g,Bool.and_eq_true] at ha⊢;refine⟨j2R t p _ _ ha.1 ?_,j4v r k (i+1) p kk kk' ha.2 h⟩;unfold j08;split<;>omega
end
mutual
theorem jcl{ns:List (List UInt8)}(hns:∀c∈ns,j1t c=true):∀(t:Tm) (p K d:Int),allT t p (K+d+ns.length)=true→0≤K→0≤d→allT (plF (opF ns) t d) p (K+d)=true
 | .mk k n s ls ts,p,K,d,ha,hK,hd=>by
  obtain⟨hk,hl,hnd,hls,hts⟩:=j0b ha;obtain⟨ha1,ha2⟩:=j2h ha
  by_cases h1:k=1
  ·have hv:=j0w hnd h1;obtain⟨rfl,rfl⟩:=j1K hnd h1;obtain rfl:=ha1 (by omega)
   subst h1
   by_cases h2:d≤n
   ·by_cases h3:(ns.length:Int)≤n-d
    ·have e:opF ns (.mk 1 n [] [] []) d=some (.mk 1 (n-ns.length) [] [] []):=j5C ⟨rfl,h2⟩ h3;rw[plF,j0M e];exact j2t (by omega) (by omega)
    ·have hq:((ns.length:Int)-1-(n-d)).toNat<ns.length:=by omega
     have e:opF ns (.mk 1 n [] [] []) d=some (cn (ns.getD ((ns.length:Int)-1-(n-d)).toNat [])):=j5B ⟨rfl,h2⟩ h3;rw[plF,j0M e,jck];exact hns _ (getD_in ns hq)
   ·have e:opF ns (.mk 1 n [] [] []) d=none:=j1Y (by simp only[Tm.num];omega)
    rw[plF,j0m e rfl];exact j2t hv.1 (by omega)
  ·have e:opF ns (.mk k n s ls ts) d=none:=j1Y (fun h=>h1 h.1)
   by_cases h4:4≤k
   ·obtain⟨rfl,rfl,rfl⟩:=j2B hnd h4;rw[plF,j1f e (ha2 h4)];exact j0J hk (by rw[j1v];exact hl) (j1J hnd h1) hls (j7y hns ts k 0 p K d hts hK hd)
   ·obtain rfl:=ha1 (by omega)
    rw[plF,j0m e rfl];exact j0J hk hl (j1J hnd h1) hls (by simp[j0g])
theorem j7y{ns:List (List UInt8)}(hns:∀c∈ns,j1t c=true):∀(ts:List Tm) (k i p K d:Int),j0g ts k i p (K+d+ns.length)=true→0≤K→0≤d→j0g (plFs (opF ns) ts k i d) k i p (K+d)=true
 |[],k,i,p,K,d,ha,hK,hd=>by simp[plFs,j0g]
 |t::r,k,i,p,K,d,ha,hK,hd=>by
  simp only[j0g,Bool.and_eq_true] at ha;simp only[plFs,j0g,Bool.and_eq_true];refine⟨?_,j7y hns r k (i+1) p K d ha.2 hK hd⟩;have hi:=j0A (j06 k) i d;rw[show K+d=d+K by omega,j2n,show j08 (j06 k) i d+K=K+j08 (j06 k) i d by omega]
  refine jcl hns t p K _ ?_ hK (by omega)
  have:=ha.1;rw[show K+d+(ns.length:Int)=d+(K+ns.length) by omega,j2n] at this
  rw[show K+j08 (j06 k) i d+(ns.length:Int)=j08 (j06 k) i d+(K+ns.length) by omega]
  exact this
end
mutual
theorem j9o{c:List UInt8}:∀(t:Tm) (p kk d:Int),allT t p kk=true→0≤d→d≤kk→allT (plF (abF c) t d) p (kk+1)=true
 | .mk k n s ls ts,p,kk,d,ha,hd,hk0=>by
  obtain⟨hk,hl,hnd,hls,hts⟩:=j0b ha;obtain⟨ha1,ha2⟩:=j2h ha;cases hp:abF c (.mk k n s ls ts) d with
  |some x=>
   rw[plF,j0M hp];unfold abF at hp;split at hp
   ·cases hp;exact j2t hd (by omega)
   ·unfold movF at hp;split at hp
    ·rename_i h;cases hp;have hv:=j0w hnd h.1;simp only[Tm.num] at h⊢;exact j2t (by omega) (by omega)
    ·cases hp
  |none=>
   by_cases h4:4≤k
   ·obtain⟨rfl,rfl,rfl⟩:=j2B hnd h4;rw[plF,j1f hp (ha2 h4)];exact j0J hk (by rw[j1v];exact hl) (j1J hnd (show ¬k=1 by omega)) hls (j7x ts k 0 p kk d hts hd hk0)
   ·obtain rfl:=ha1 (by omega)
    rw[plF,j0m hp rfl];exact j2R _ p kk _ ha (by omega)
theorem j7x{c:List UInt8}:∀(ts:List Tm) (k i p kk d:Int),j0g ts k i p kk=true→0≤d→d≤kk→j0g (plFs (abF c) ts k i d) k i p (kk+1)=true
 |[],k,i,p,kk,d,ha,hd,hk0=>by simp[plFs,j0g]
 |t::r,k,i,p,kk,d,ha,hd,hk0=>by
  simp only[j0g,Bool.and_eq_true] at ha;simp only[plFs,j0g,Bool.and_eq_true];have hi:=j0A (j06 k) i d;refine⟨?_,j7x r k (i+1) p kk d ha.2 hd hk0⟩;rw[j4B];refine j9o t p _ _ ha.1 (by omega) ?_
  unfold j08;split<;>omega
end
theorem j4e:∀(ts:List Tm) (k i d acc:Int),acc≤j1z ts k i d acc
 |[],k,i,d,acc=>by simp[j1z]
 |t::r,k,i,d,acc=>by
  rw[j1z];have:=j4e r k (i+1) d (max acc (j2H t (j08 (j06 k) i d)));omega
mutual
theorem j8v:∀(t:Tm) (p kk d K:Int),allT t p kk=true→j2H t d≤K→allT t p (K+d)=true
 | .mk k n s ls ts,p,kk,d,K,ha,h=>by
  obtain⟨hk,hl,hnd,hls,hts⟩:=j0b ha;obtain⟨ha1,ha2⟩:=j2h ha
  by_cases h1:k=1
  ·have hv:=j0w hnd h1;obtain⟨rfl,rfl⟩:=j1K hnd h1;obtain rfl:=ha1 (by omega)
   rw[j2H,if_pos h1] at h;subst h1;exact j2t hv.1 (by omega)
  ·rw[j2H,if_neg h1] at h;exact j0J hk hl (j1J hnd h1) hls (j3K ts k 0 p kk d 0 K hts h)
theorem j3K:∀(ts:List Tm) (k i p kk d acc K:Int),j0g ts k i p kk=true→j1z ts k i d acc≤K→j0g ts k i p (K+d)=true
 |[],k,i,p,kk,d,acc,K,ha,h=>by simp[j0g]
 |t::r,k,i,p,kk,d,acc,K,ha,h=>by
  simp only[j0g,Bool.and_eq_true] at ha⊢;rw[j1z] at h;have h2:=j4e r k (i+1) d (max acc (j2H t (j08 (j06 k) i d)));refine⟨?_,j3K r k (i+1) p kk d _ K ha.2 h⟩;rw[show K+d=d+K by omega,j2n,show j08 (j06 k) i d+K=K+j08 (j06 k) i d by omega]
  exact j8v t p _ _ K ha.1 (by omega)
end
mutual
theorem j8T:∀(t:Tm) (p d K:Int),allT t p (K+d)=true→0≤K→j2H t d≤K
 | .mk k n s ls ts,p,d,K,ha,h=>by
  obtain⟨hk,hl,hnd,hls,hts⟩:=j0b ha
  by_cases h1:k=1
  ·have hv:=j0w hnd h1;rw[j2H,if_pos h1];omega
  ·rw[j2H,if_neg h1];exact j4f ts k 0 p d 0 K hts h (by omega)
theorem j4f:∀(ts:List Tm) (k i p d acc K:Int),j0g ts k i p (K+d)=true→0≤K→acc≤K→j1z ts k i d acc≤K
 |[],k,i,p,d,acc,K,ha,h,hac=>by simpa[j1z] using hac
 |t::r,k,i,p,d,acc,K,ha,h,hac=>by
  simp only[j0g,Bool.and_eq_true] at ha;rw[j1z];have:=j8T t p (j08 (j06 k) i d) K (by
   have:=ha.1
   rwa [show K+d=d+K by omega,j2n,show j08 (j06 k) i d+K=K+j08 (j06 k) i d by omega] at this) h
  exact j4f r k (i+1) p d _ K ha.2 h (by omega)
end
mutual
theorem j9P{ns:List (List UInt8)}{c:List UInt8}:∀(t:Tm) (p kk d:Int),allT t p kk=true→c∈j0f (plF (opF ns) t d)→c∈j0f t∨c∈ns
 | .mk k n s ls ts,p,kk,d,hall,h=>by
  obtain⟨hk,hl,hnd,hls,hts⟩:=j0b hall;obtain⟨ha1,ha2⟩:=j2h hall;cases hp:opF ns (.mk k n s ls ts) d with
  |some x=>
   rw[plF,j0M hp] at h;unfold opF at hp;split at hp
   ·rename_i hc;cases hp;split at h
    ·simp[j0f,j09] at h
    ·rename_i h3;simp only[cn,j0f,j09,if_true,List.append_nil,List.mem_singleton] at h;simp only[Tm.num] at h h3 hc;have hq:((ns.length:Int)-1-(n-d)).toNat<ns.length:=by omega
     right
     rw[h];exact getD_in ns hq
   ·cases hp
  |none=>
   by_cases ha:ts.length=0
   ·rw[plF,j0m hp ha] at h;exact .inl h
   ·have h4:4≤k:=by
     by_cases h4:4≤k
     ·exact h4
     ·rw[ha1 (by omega)] at ha
      exact absurd rfl ha
    rw[plF,j1f hp ha,j0f,if_neg (by simp only[Tm.kind];omega),List.nil_append] at h
    rw[j0f,if_neg (by omega),List.nil_append]
    exact j4z ts k 0 p kk d hts h
theorem j4z{ns:List (List UInt8)}{c:List UInt8}:∀(ts:List Tm) (k i p kk d:Int),j0g ts k i p kk=true→c∈j09 (plFs (opF ns) ts k i d)→c∈j09 ts∨c∈ns
 |[],k,i,p,kk,d,ha,h=>by simp[plFs,j09] at h
 |t::r,k,i,p,kk,d,ha,h=>by
  simp only[j0g,Bool.and_eq_true] at ha;simp only[plFs,j09,List.mem_append] at h⊢;rcases h with h|h
  ·rcases j9P t p _ _ ha.1 h with h|h
   ·exact .inl (.inl h)
   ·exact .inr h
  ·rcases j4z r k (i+1) p kk d ha.2 h with h|h
   ·exact .inl (.inr h)
   ·exact .inr h
end
open Go Go.Am Go.Gw
theorem jay{x:Tm}(h:movF b f t d=some x):t.kind=1∧x=.mk 1 (t.num+b) [] [] []:=by
 unfold movF at h;split at h
 ·rename_i h1;cases h;exact⟨h1.1,rfl⟩
 ·cases h
mutual
theorem jb9{b:Int}(hb:0≤b):∀(t:Tm) (p kk d:Int),allT t p kk=true→0≤d→d≤kk→allT (plF (movF b 0) t d) p (kk+b)=true
 | .mk k n s ls ts,p,kk,d,ha,hd,hk0=>by
  obtain⟨hk,hl,hnd,hls,hts⟩:=j0b ha;obtain⟨ha1,ha2⟩:=j2h ha;cases hp:movF b 0 (.mk k n s ls ts) d with
  |some x=>
   rw[plF,j0M hp];obtain⟨h1,rfl⟩:=jay hp;have hv:=j0w hnd h1;simp only[Tm.num];exact j2t (by omega) (by omega)
  |none=>
   by_cases h4:4≤k
   ·obtain⟨rfl,rfl,rfl⟩:=j2B hnd h4;rw[plF,j1f hp (ha2 h4)];exact j0J hk (by rw[j1v];exact hl) (j1J hnd (show ¬k=1 by omega)) hls (j5U hb ts k 0 p kk d hts hd hk0)
   ·obtain rfl:=ha1 (by omega)
    rw[plF,j0m hp rfl];exact j2R _ p kk _ ha (by omega)
theorem j5U{b:Int}(hb:0≤b):∀(ts:List Tm) (k i p kk d:Int),j0g ts k i p kk=true→0≤d→d≤kk→j0g (plFs (movF b 0) ts k i d) k i p (kk+b)=true
 |[],k,i,p,kk,d,ha,hd,hk0=>by simp[plFs,j0g]
 |t::r,k,i,p,kk,d,ha,hd,hk0=>by
  simp only[j0g,Bool.and_eq_true] at ha;simp only[plFs,j0g,Bool.and_eq_true];have hi:=j0A (j06 k) i d;refine⟨?_,j5U hb r k (i+1) p kk d ha.2 hd hk0⟩;rw[j2n];refine jb9 hb t p _ _ ha.1 (by omega) ?_
  unfold j08;split<;>omega
end
mutual
theorem j5T{p q:Int}(hpq:p≤q):∀l:Lv,allF l p=true→allF l q=true
 | .mk k n ls,h=>by
  simp only[allF,Bool.and_eq_true] at h⊢;refine⟨?_,j4u hpq ls h.2⟩;have h1:=h.1;simp only[j7n] at h1 ⊢
  by_cases hw:(ls.length:Int)=j9g k<;>by_cases k1:k=1<;>by_cases k2:k=2<;>simp_all<;>omega
theorem j4u{p q:Int}(hpq:p≤q):∀ls:List Lv,j2f ls p=true→j2f ls q=true
 |[],_=>rfl
 |l::r,h=>by
  simp only[j2f,Bool.and_eq_true] at h⊢;exact⟨j5T hpq l h.1,j4u hpq r h.2⟩
end
theorem j3y{p q:Int}(hpq:p≤q)(hq:q≤4):∀ls:List Lv,j0F ls p=true→j0F ls q=true
 |[],_=>rfl
 |l::r,h=>by
  simp only[j0F,j2e,Bool.and_eq_true,decide_eq_true_eq] at h⊢;obtain⟨⟨h1,h2,h3,h4⟩,h5⟩:=h;exact⟨⟨by omega,hq,h3,j5T hpq l h4⟩,j3y hpq hq r h5⟩
mutual
theorem j9q{p q:Int}(hpq:p≤q)(hq:q≤4):∀(t:Tm) (kk:Int),allT t p kk=true→allT t q kk=true
 | .mk k n s ls ts,kk,ha=>by
  obtain⟨hk,hl,hnd,hls,hts⟩:=j0b ha;exact j0J hk hl hnd (j3y hpq hq ls hls) (j4w hpq hq ts k 0 kk hts)
theorem j4w{p q:Int}(hpq:p≤q)(hq:q≤4):∀(ts:List Tm) (k i kk:Int),j0g ts k i p kk=true→j0g ts k i q kk=true
 |[],k,i,kk,ha=>by simp[j0g]
 |t::r,k,i,kk,ha=>by
  simp only[j0g,Bool.and_eq_true] at ha⊢;exact⟨j9q hpq hq t _ ha.1,j4w hpq hq r k (i+1) kk ha.2⟩
end
def jeX(t:Tm)(by_ from_:Int):Option Tm:=if anyT t=true∧(0≤by_∧by_≤1048576)∧(0≤from_∧from_≤1048576) then j0X (movF by_ from_) t else none
end Go.Proofs.YtnfbeplfnblgjaaGreatDoor
