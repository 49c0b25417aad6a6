/- Terms with constants in their variables' places, and back: plain lemmas. -/
import Derived.Test.YtbnodhcijeaceaaGreatDoorZUa
set_option linter.all false
set_option maxHeartbeats 2000000
set_option maxRecDepth 100000
namespace Go.Proofs.YtbnodhcijeaceaaGreatDoor
open Go Go.Am Go.Gw
def cn(s:List UInt8):Tm:=.mk 3 0 s [] []
def plN(put:Tm→Int→Option Tm)(t:Tm)(d:Int)(r:List Tm):Tm:=match put t d with
 |some x=>x
 |none=>if t.args.length=0 then t else .mk t.kind 0 [] [] r
mutual
def plF(put:Tm→Int→Option Tm):Tm→Int→Tm
 | .mk k n s ls ts,d=>plN put (.mk k n s ls ts) d (plFs put ts k 0 d)
def plFs(put:Tm→Int→Option Tm):List Tm→Int→Int→Int→List Tm
 |[],_,_,_=>[]
 |t::r,k,i,d=>plF put t (j0k (j0g k) i d)::plFs put r k (i+1) d
end
section
variable{put:Tm→Int→Option Tm}{t x:Tm}{d:Int}{r:List Tm}
theorem j2B(h:put t d=some x):plN put t d r=x:=by rw[plN,h]
theorem j1r(h:put t d=none)(ha:t.args.length=0):plN put t d r=t:=by rw[plN,h];exact if_pos ha
theorem j3C(h:put t d=none)(ha:¬t.args.length=0):plN put t d r=.mk t.kind 0 [] [] r:=by rw[plN,h];exact if_neg ha
end
theorem j3Z(put:Tm→Int→Option Tm):∀(ts:List Tm) (k i d:Int),(plFs put ts k i d).length=ts.length
 |[],k,i,d=>by simp[plFs]
 |t::r,k,i,d=>by simp only[plFs,List.length_cons,j3Z put r]
mutual
theorem jmx{put:Tm→Int→Option Tm}(hs:∀t d x,put t d=some x→sizT x≤sizT t):∀(t:Tm) (d left:Int),(sizT t:Int)≤left→sizT t≤2000→(bldF put t d left).1=plF put t d∧left-sizT t≤(bldF put t d left).2∧sizT (plF put t d)≤sizT t
 | .mk k n s ls ts,d,left,h1,h2=>by
  rw[bldF,plF];have hp1:1+j0t ts≤sizT (.mk k n s ls ts):=by rw[sizT];omega
  cases hp:put (.mk k n s ls ts) d with
  |some x=>
   have:=hs _ _ _ hp;have hx:=j2A x;rw[j5e (by omega) hp,j2B hp]
   refine⟨rfl,?_,this⟩;dsimp only;omega
  |none=>
   by_cases ha:ts.length=0
   ·have hx:=j2A (.mk k n s ls ts);rw[j3K (by omega) hp ha,j1r hp ha]
    refine⟨rfl,?_,Nat.le_refl _⟩;dsimp only;omega
   ·rw[j3L (by omega) hp ha,j3C hp ha]
    have ih:=jiN hs ts k 0 d (left-1) (by omega) (by omega)
    refine⟨by dsimp only;rw[ih.1],by dsimp only;omega,?_⟩
    rw[sizT,j0c];omega
theorem jiN{put:Tm→Int→Option Tm}(hs:∀t d x,put t d=some x→sizT x≤sizT t):∀(ts:List Tm) (k i d left:Int),(j0t ts:Int)≤left→j0t ts≤2000→(j1x put ts k i d left).1=plFs put ts k i d∧left-j0t ts≤(j1x put ts k i d left).2∧j0t (plFs put ts k i d)≤j0t ts
 |[],k,i,d,left,h1,h2=>by simp[j1x,plFs,j0t] at *
 |t::r,k,i,d,left,h1,h2=>by
  rw[j0t] at h1 h2;simp only[j1x,plFs,j0t];have a:=jmx hs t (j0k (j0g k) i d) left (by omega) (by omega)
  have b:=jiN hs r k (i+1) d (bldF put t (j0k (j0g k) i d) left).2 (by omega) (by omega)
  refine⟨?_,by omega,by omega⟩
  rw[a.1,b.1]
end
variable{b d f k kk n p:Int}{ns:List (List UInt8)}{ls:List Lv}{ts us:List Tm}{c s:List UInt8}{i:Nat}{a t:Tm}
theorem jq3{put:Tm→Int→Option Tm}(hs:∀t d x,put t d=some x→sizT x≤sizT t)(h:sizT t≤2000):j3u put t=some (plF put t 0):=by
 have a:=jmx hs t 0 2000 (by omega) h
 unfold j3u;rw[if_neg (by omega),a.1]
theorem jdP(h:anyT t=true):sizT t≤2000:=by
 have:=(j2u h).1;rw[j2A] at this;omega
theorem jrS(s:List UInt8)(p kk:Int):allT (cn s) p kk=j2G s:=by
 simp[cn,allT,j3W,j1f,j1F,j0T]
def opF(ns:List (List UInt8))(t:Tm)(d:Int):Option Tm:=if t.kind=1∧d≤t.num then some (if(ns.length:Int)≤t.num-d then .mk 1 (t.num-ns.length) [] [] [] else cn (ns.getD ((ns.length:Int)-1-(t.num-d)).toNat [])) else none
theorem j5y(h:¬(t.kind=1∧d≤t.num)):opF ns t d=none:=if_neg h
theorem jeE(h:t.kind=1∧d≤t.num)(h2:(ns.length:Int)≤t.num-d):opF ns t d=some (.mk 1 (t.num-ns.length) [] [] []):=by
 unfold opF;rw[if_pos h,if_pos h2]
theorem jeD(h:t.kind=1∧d≤t.num)(h2:¬(ns.length:Int)≤t.num-d):opF ns t d=some (cn (ns.getD ((ns.length:Int)-1-(t.num-d)).toNat [])):=by
 unfold opF;rw[if_pos h,if_neg h2]
theorem jo6(h:t.kind=1∧¬t.num<f+d):movF b f t d=some (.mk 1 (t.num+b) [] [] []):=if_pos h
theorem jbn(h:¬(t.kind=1∧¬t.num<f+d)):movF b f t d=none:=if_neg h
theorem jjO(t:Tm):1≤sizT t:=by
 obtain⟨k,n,s,ls,ts⟩:=t;rw[sizT];omega
def abF(c:List UInt8)(t:Tm)(d:Int):Option Tm:=if t.kind=3∧t.name=c then some (.mk 1 d [] [] []) else movF 1 0 t d
theorem jdH(h:¬(t.kind=3∧t.name=c)):abF c t d=movF 1 0 t d:=if_neg h
mutual
def j0K:Tm→List (List UInt8)
 | .mk k _ s _ ts=>(if k=3 then[s] else[])++j0p ts
def j0p:List Tm→List (List UInt8)
 |[]=>[]
 |t::r=>j0K t++j0p r
end
theorem j4P(h:j3W (.mk k n s ls ts) kk=true)(hk:k=1):s=[]∧ls=[]:=by
 simp only[j3W,if_pos hk,Bool.and_eq_true,decide_eq_true_eq] at h;obtain⟨-,-,h1,h2⟩:=h;exact⟨by simpa using h1,List.eq_nil_of_length_eq_zero h2⟩
theorem j4O(h:j3W (.mk k n s ls ts) kk=true)(hk:4≤k):n=0∧s=[]∧ls=[]:=by
 have e:j0O k=0:=by rw[j0O,if_neg (by omega)]
 simp only[j3W,if_neg (show ¬k=1 by omega),if_neg (show ¬k=3 by omega),Bool.and_eq_true,decide_eq_true_eq,e] at h
 obtain⟨h0,h1,h2⟩:=h;exact⟨h0,by simpa using h1,List.eq_nil_of_length_eq_zero (by omega)⟩
theorem j5c(h:allT (.mk k n s ls ts) p kk=true):(k<4→ts=[])∧(4≤k→ts.length≠0):=by
 obtain⟨hk,hl,-⟩:=j0r h;constructor
 ·intro h4;rw[j1f,if_neg (by omega),if_neg (by omega)] at hl
  exact List.eq_nil_of_length_eq_zero (by omega)
 ·intro h4;rw[j1f] at hl;split at hl
  ·omega
  ·rw[if_pos (by omega)] at hl
   omega
theorem jcW(b i d:Int):j0k b i (d+1)=j0k b i d+1:=by
 unfold j0k;split<;>omega
theorem j6h(b i d e:Int):j0k b i (d+e)=j0k b i d+e:=by
 unfold j0k;split<;>omega
theorem jnj(ns:List (List UInt8))(c:List UInt8):(ns++[c]).getD ns.length []=c:=by simp[List.getD_eq_getElem?_getD]
theorem jkU(ns:List (List UInt8))(c:List UInt8)(h:i<ns.length):(ns++[c]).getD i []=ns.getD i []:=by simp[List.getD_eq_getElem?_getD,List.getElem?_append_left h]
theorem getD_in(ns:List (List UInt8))(h:i<ns.length):ns.getD i []∈ns:=by
 rw[List.getD_eq_getElem?_getD,List.getElem?_eq_getElem h];exact List.getElem_mem h
theorem jt4(h:s≠c):abF c (cn s) d=none:=by
 unfold abF movF cn;simp[Tm.kind,Tm.name,h]
theorem jgv(h:s≠c):plF (abF c) (cn s) d=cn s:=by
 rw[cn,plF];exact j1r (jt4 h) rfl
theorem ji2:plF (abF c) (cn c) d=.mk 1 d [] [] []:=by
 rw[cn,plF];exact j2B (by simp[abF,Tm.kind,Tm.name])
mutual
theorem ju0{ns:List (List UInt8)}{c:List UInt8}(hc:c∉ns):∀(t:Tm) (p kk d:Int),allT t p kk=true→c∉j0K t→plF (abF c) (plF (opF (ns++[c])) t d) d=plF (opF ns) t (d+1)
 | .mk k n s ls ts,p,kk,d,ha,hn=>by
  obtain⟨hk,hl,hnd,-,hts⟩:=j0r ha;obtain⟨ha1,ha2⟩:=j5c ha;rw[j0K,List.mem_append,not_or] at hn
  by_cases h1:k=1
  ·obtain⟨rfl,rfl⟩:=j4P hnd h1;obtain rfl:=ha1 (by omega)
   subst h1;have hlen:((ns++[c]).length:Int)=ns.length+1:=by simp
   by_cases h2:d≤n
   ·by_cases h3:n=d
    ·subst h3;have e1:opF (ns++[c]) (.mk 1 n [] [] []) n=some (cn c):=by
      rw[jeD (t:=.mk 1 n [] [] []) (d:=n) ⟨rfl,Int.le_refl _⟩ (by rw[hlen];simp only[Tm.num];omega),hlen]
      simp only[Tm.num];rw[show((ns.length:Int)+1-1-(n-n)).toNat=ns.length by omega,jnj]
     have e2:opF ns (.mk 1 n [] [] []) (n+1)=none:=j5y (by simp only[Tm.num];omega)
     rw[plF,plF,j2B e1,ji2,j1r e2 rfl]
    ·by_cases h4:(ns.length:Int)+1≤n-d
     ·have e1:opF (ns++[c]) (.mk 1 n [] [] []) d=some (.mk 1 (n-(ns.length+1)) [] [] []):=by
       rw[jeE (t:=.mk 1 n [] [] []) ⟨rfl,h2⟩ (by rw[hlen];simp only[Tm.num];omega),hlen]
       rfl
      have e2:opF ns (.mk 1 n [] [] []) (d+1)=some (.mk 1 (n-ns.length) [] [] []):=jeE ⟨rfl,by simp only[Tm.num];omega⟩ (by simp only[Tm.num];omega)
      have e3:abF c (.mk 1 (n-(ns.length+1)) [] [] []) d=some (.mk 1 (n-(ns.length+1)+1) [] [] []):=by
       rw[jdH (by simp only[Tm.kind];omega),jo6 (t:=.mk 1 _ [] [] []) ⟨rfl,by simp only[Tm.num];omega⟩]
       rfl
      rw[plF,plF,j2B e1,plF,j2B e2,j2B e3];congr 1;omega
     ·have hq:((ns.length:Int)-(n-d)).toNat<ns.length:=by omega
      have e1:opF (ns++[c]) (.mk 1 n [] [] []) d=some (cn (ns.getD ((ns.length:Int)-(n-d)).toNat [])):=by
       rw[jeD (t:=.mk 1 n [] [] []) ⟨rfl,h2⟩ (by rw[hlen];simp only[Tm.num];omega),hlen]
       simp only[Tm.num];rw[show(ns.length:Int)+1-1-(n-d)=(ns.length:Int)-(n-d) by omega,jkU ns c hq]
      have e2:opF ns (.mk 1 n [] [] []) (d+1)=some (cn (ns.getD ((ns.length:Int)-(n-d)).toNat [])):=by
       rw[jeD (t:=.mk 1 n [] [] []) ⟨rfl,by simp only[Tm.num];omega⟩ (by simp only[Tm.num];omega)]
       simp only[Tm.num];rw[show(ns.length:Int)-1-(n-(d+1))=(ns.length:Int)-(n-d) by omega]
      have hne:ns.getD ((ns.length:Int)-(n-d)).toNat []≠c:=fun e=>hc (e▸getD_in ns hq)
      rw[plF,plF,j2B e1,j2B e2,jgv hne]
   ·have e1:∀m:List (List UInt8),∀e,d≤e→opF m (.mk 1 n [] [] []) e=none:=fun m e he=>j5y (by simp only[Tm.num];omega)
    have e3:abF c (.mk 1 n [] [] []) d=none:=by
     rw[jdH (by simp only[Tm.kind];omega)]
     exact jbn (by simp only[Tm.num];omega)
    rw[plF,plF,j1r (e1 _ d (by omega)) rfl,plF,j1r (e1 _ (d+1) (by omega)) rfl,j1r e3 rfl]
  ·have e1:∀m:List (List UInt8),∀e s ls ts n,opF m (.mk k n s ls ts) e=none:=fun m e s ls ts n=>j5y (fun h=>h1 h.1)
   by_cases h4:4≤k
   ·have e3:∀ts n,abF c (.mk k n [] [] ts) d=none:=fun ts n=>by
     rw[jdH (by simp only[Tm.kind];omega)]
     exact jbn (by simp only[Tm.kind];omega)
    have hne:=ha2 h4;have ih:=jrb hc ts k 0 p kk d hts hn.2;rw[plF,plF,j3C (e1 _ _ _ _ _ _) hne,j3C (e1 _ _ _ _ _ _) hne,plF];simp only[Tm.kind];rw[j3C (e3 _ _) (by simp only[Tm.args,j3Z];exact hne)]
    simp only[Tm.kind];rw[ih]
   ·obtain rfl:=ha1 (by omega)
    have e3:abF c (.mk k n s ls []) d=none:=by
     rw[jdH]
     ·exact jbn (by simp only[Tm.kind];omega)
     ·simp only[Tm.kind,Tm.name];rintro⟨rfl,rfl⟩;exact hn.1 (by simp)
    rw[plF,plF,j1r (e1 _ _ _ _ _ _) rfl,j1r (e1 _ _ _ _ _ _) rfl,plF,j1r e3 rfl]
theorem jrb{ns:List (List UInt8)}{c:List UInt8}(hc:c∉ns):∀(ts:List Tm) (k i p kk d:Int),j0T ts k i p kk=true→c∉j0p ts→plFs (abF c) (plFs (opF (ns++[c])) ts k i d) k i d=plFs (opF ns) ts k i (d+1)
 |[],k,i,p,kk,d,ha,hn=>by simp only[plFs]
 |t::r,k,i,p,kk,d,ha,hn=>by
  simp only[j0T,Bool.and_eq_true] at ha;rw[j0p,List.mem_append,not_or] at hn;simp only[plFs];rw[ju0 hc t p _ _ ha.1 hn.1,jrb hc r k (i+1) p kk d ha.2 hn.2,jcW]
end
mutual
theorem jtD:∀(t:Tm) (p kk d:Int),allT t p kk=true→plF (opF []) t d=t
 | .mk k n s ls ts,p,kk,d,ha=>by
  obtain⟨hk,hl,hnd,-,hts⟩:=j0r ha;obtain⟨ha1,ha2⟩:=j5c ha
  by_cases h1:k=1
  ·obtain⟨rfl,rfl⟩:=j4P hnd h1;obtain rfl:=ha1 (by omega)
   by_cases h2:d≤n
   ·have e:opF [] (.mk k n [] [] []) d=some (.mk 1 n [] [] []):=by
     rw[jeE (t:=.mk k n [] [] []) ⟨h1,h2⟩ (by simp only[Tm.num,List.length_nil];omega)]
     simp[Tm.num]
    rw[plF,j2B e,h1]
   ·have e:opF [] (.mk k n [] [] []) d=none:=j5y (by simp only[Tm.num];omega)
    rw[plF,j1r e rfl]
  ·have e:opF [] (.mk k n s ls ts) d=none:=j5y (fun h=>h1 h.1)
   by_cases h4:4≤k
   ·obtain⟨rfl,rfl,rfl⟩:=j4O hnd h4;rw[plF,j3C e (ha2 h4),jof ts k 0 p kk d hts];rfl
   ·obtain rfl:=ha1 (by omega)
    rw[plF,j1r e rfl]
theorem jof:∀(ts:List Tm) (k i p kk d:Int),j0T ts k i p kk=true→plFs (opF []) ts k i d=ts
 |[],k,i,p,kk,d,ha=>by simp only[plFs]
 |t::r,k,i,p,kk,d,ha=>by
  simp only[j0T,Bool.and_eq_true] at ha;simp only[plFs];rw[jtD t p _ _ ha.1,jof r k (i+1) p kk d ha.2]
end
theorem j4N{ts':List Tm}{kk':Int}(h:j3W (.mk k n s ls ts) kk=true)(hk:¬k=1):j3W (.mk k n s ls ts') kk'=true:=by
 simp only[j3W,if_neg hk] at h⊢;exact h
theorem j2J(h1:1≤k∧k≤7)(h2:(ts.length:Int)=j1f k)(h3:j3W (.mk k n s ls ts) kk=true)(h4:j1F ls p=true)(h5:j0T ts k 0 p kk=true):allT (.mk k n s ls ts) p kk=true:=by
 simp[allT,h1,h2,h3,h4,h5]
theorem j6L{m:Int}(h0:0≤m)(h1:m<kk):allT (.mk 1 m [] [] []) p kk=true:=by
 simp[allT,j3W,j1f,j1F,j0T,h0,h1]
mutual
theorem jaD:∀(t:Tm) (p kk kk':Int),allT t p kk=true→kk≤kk'→allT t p kk'=true
 | .mk k n s ls ts,p,kk,kk',ha,h=>by
  obtain⟨hk,hl,hnd,hls,hts⟩:=j0r ha;refine j2J hk hl ?_ hls (jcA ts k 0 p kk kk' hts h)
  by_cases h1:k=1
  ·have:=j1E hnd h1;obtain⟨rfl,rfl⟩:=j4P hnd h1;simp[j3W,h1];omega
  ·exact j4N hnd h1
theorem jcA:∀(ts:List Tm) (k i p kk kk':Int),j0T ts k i p kk=true→kk≤kk'→j0T ts k i p kk'=true
 |[],k,i,p,kk,kk',ha,h=>by simp[j0T]
 |t::r,k,i,p,kk,kk',ha,h=>by
  simp only[j0T,Bool.and_eq_true] at ha⊢;refine⟨jaD t p _ _ ha.1 ?_,jcA r k (i+1) p kk kk' ha.2 h⟩;unfold j0k;split<;>omega
end
mutual
theorem jrT{ns:List (List UInt8)}(hns:∀c∈ns,j2G c=true):∀(t:Tm) (p K d:Int),allT t p (K+d+ns.length)=true→0≤K→0≤d→allT (plF (opF ns) t d) p (K+d)=true
 | .mk k n s ls ts,p,K,d,ha,hK,hd=>by
  obtain⟨hk,hl,hnd,hls,hts⟩:=j0r ha;obtain⟨ha1,ha2⟩:=j5c ha
  by_cases h1:k=1
  ·have hv:=j1E hnd h1;obtain⟨rfl,rfl⟩:=j4P hnd h1;obtain rfl:=ha1 (by omega)
   subst h1
   by_cases h2:d≤n
   ·by_cases h3:(ns.length:Int)≤n-d
    ·have e:opF ns (.mk 1 n [] [] []) d=some (.mk 1 (n-ns.length) [] [] []):=jeE ⟨rfl,h2⟩ h3;rw[plF,j2B e];exact j6L (by omega) (by omega)
    ·have hq:((ns.length:Int)-1-(n-d)).toNat<ns.length:=by omega
     have e:opF ns (.mk 1 n [] [] []) d=some (cn (ns.getD ((ns.length:Int)-1-(n-d)).toNat [])):=jeD ⟨rfl,h2⟩ h3;rw[plF,j2B e,jrS];exact hns _ (getD_in ns hq)
   ·have e:opF ns (.mk 1 n [] [] []) d=none:=j5y (by simp only[Tm.num];omega)
    rw[plF,j1r e rfl];exact j6L hv.1 (by omega)
  ·have e:opF ns (.mk k n s ls ts) d=none:=j5y (fun h=>h1 h.1)
   by_cases h4:4≤k
   ·obtain⟨rfl,rfl,rfl⟩:=j4O hnd h4;rw[plF,j3C e (ha2 h4)];exact j2J hk (by rw[j3Z];exact hl) (j4N hnd h1) hls (jiJ hns ts k 0 p K d hts hK hd)
   ·obtain rfl:=ha1 (by omega)
    rw[plF,j1r e rfl];exact j2J hk hl (j4N hnd h1) hls (by simp[j0T])
theorem jiJ{ns:List (List UInt8)}(hns:∀c∈ns,j2G c=true):∀(ts:List Tm) (k i p K d:Int),j0T ts k i p (K+d+ns.length)=true→0≤K→0≤d→j0T (plFs (opF ns) ts k i d) k i p (K+d)=true
 |[],k,i,p,K,d,ha,hK,hd=>by simp[plFs,j0T]
 |t::r,k,i,p,K,d,ha,hK,hd=>by
  simp only[j0T,Bool.and_eq_true] at ha;simp only[plFs,j0T,Bool.and_eq_true];refine⟨?_,jiJ hns r k (i+1) p K d ha.2 hK hd⟩;have hi:=j2e (j0g k) i d;rw[show K+d=d+K by omega,j6h,show j0k (j0g k) i d+K=K+j0k (j0g k) i d by omega]
  refine jrT hns t p K _ ?_ hK (by omega)
  have:=ha.1;rw[show K+d+(ns.length:Int)=d+(K+ns.length) by omega,j6h] at this
  rw[show K+j0k (j0g k) i d+(ns.length:Int)=j0k (j0g k) i d+(K+ns.length) by omega]
  exact this
end
mutual
theorem jrR{c:List UInt8}:∀(t:Tm) (p kk d:Int),allT t p kk=true→0≤d→d≤kk→allT (plF (abF c) t d) p (kk+1)=true
 | .mk k n s ls ts,p,kk,d,ha,hd,hk0=>by
  obtain⟨hk,hl,hnd,hls,hts⟩:=j0r ha;obtain⟨ha1,ha2⟩:=j5c ha;cases hp:abF c (.mk k n s ls ts) d with
  |some x=>
   rw[plF,j2B hp];unfold abF at hp;split at hp
   ·cases hp;exact j6L hd (by omega)
   ·unfold movF at hp;split at hp
    ·rename_i h;cases hp;have hv:=j1E hnd h.1;simp only[Tm.num] at h⊢;exact j6L (by omega) (by omega)
    ·cases hp
  |none=>
   by_cases h4:4≤k
   ·obtain⟨rfl,rfl,rfl⟩:=j4O hnd h4;rw[plF,j3C hp (ha2 h4)];exact j2J hk (by rw[j3Z];exact hl) (j4N hnd (show ¬k=1 by omega)) hls (jiI ts k 0 p kk d hts hd hk0)
   ·obtain rfl:=ha1 (by omega)
    rw[plF,j1r hp rfl];exact jaD _ p kk _ ha (by omega)
theorem jiI{c:List UInt8}:∀(ts:List Tm) (k i p kk d:Int),j0T ts k i p kk=true→0≤d→d≤kk→j0T (plFs (abF c) ts k i d) k i p (kk+1)=true
 |[],k,i,p,kk,d,ha,hd,hk0=>by simp[plFs,j0T]
 |t::r,k,i,p,kk,d,ha,hd,hk0=>by
  simp only[j0T,Bool.and_eq_true] at ha;simp only[plFs,j0T,Bool.and_eq_true];have hi:=j2e (j0g k) i d;refine⟨?_,jiI r k (i+1) p kk d ha.2 hd hk0⟩;rw[jcW];refine jrR t p _ _ ha.1 (by omega) ?_
  unfold j0k;split<;>omega
end
theorem jbh:∀(ts:List Tm) (k i d acc:Int),acc≤j4r ts k i d acc
 |[],k,i,d,acc=>by simp[j4r]
 |t::r,k,i,d,acc=>by
  rw[j4r];have:=jbh r k (i+1) d (max acc (j7n t (j0k (j0g k) i d)));omega
mutual
theorem jki:∀(t:Tm) (p kk d K:Int),allT t p kk=true→j7n t d≤K→allT t p (K+d)=true
 | .mk k n s ls ts,p,kk,d,K,ha,h=>by
  obtain⟨hk,hl,hnd,hls,hts⟩:=j0r ha;obtain⟨ha1,ha2⟩:=j5c ha
  by_cases h1:k=1
  ·have hv:=j1E hnd h1;obtain⟨rfl,rfl⟩:=j4P hnd h1;obtain rfl:=ha1 (by omega)
   rw[j7n,if_pos h1] at h;subst h1;exact j6L hv.1 (by omega)
  ·rw[j7n,if_neg h1] at h;exact j2J hk hl (j4N hnd h1) hls (jaE ts k 0 p kk d 0 K hts h)
theorem jaE:∀(ts:List Tm) (k i p kk d acc K:Int),j0T ts k i p kk=true→j4r ts k i d acc≤K→j0T ts k i p (K+d)=true
 |[],k,i,p,kk,d,acc,K,ha,h=>by simp[j0T]
 |t::r,k,i,p,kk,d,acc,K,ha,h=>by
  simp only[j0T,Bool.and_eq_true] at ha⊢;rw[j4r] at h;have h2:=jbh r k (i+1) d (max acc (j7n t (j0k (j0g k) i d)));refine⟨?_,jaE r k (i+1) p kk d _ K ha.2 h⟩;rw[show K+d=d+K by omega,j6h,show j0k (j0g k) i d+K=K+j0k (j0g k) i d by omega]
  exact jki t p _ _ K ha.1 (by omega)
end
mutual
theorem jl8:∀(t:Tm) (p d K:Int),allT t p (K+d)=true→0≤K→j7n t d≤K
 | .mk k n s ls ts,p,d,K,ha,h=>by
  obtain⟨hk,hl,hnd,hls,hts⟩:=j0r ha
  by_cases h1:k=1
  ·have hv:=j1E hnd h1;rw[j7n,if_pos h1];omega
  ·rw[j7n,if_neg h1];exact jbi ts k 0 p d 0 K hts h (by omega)
theorem jbi:∀(ts:List Tm) (k i p d acc K:Int),j0T ts k i p (K+d)=true→0≤K→acc≤K→j4r ts k i d acc≤K
 |[],k,i,p,d,acc,K,ha,h,hac=>by simpa[j4r] using hac
 |t::r,k,i,p,d,acc,K,ha,h,hac=>by
  simp only[j0T,Bool.and_eq_true] at ha;rw[j4r];have:=jl8 t p (j0k (j0g k) i d) K (by
   have:=ha.1
   rwa [show K+d=d+K by omega,j6h,show j0k (j0g k) i d+K=K+j0k (j0g k) i d by omega] at this) h
  exact jbi r k (i+1) p d _ K ha.2 h (by omega)
end
mutual
theorem jmK{ns:List (List UInt8)}{c:List UInt8}:∀(t:Tm) (p kk d:Int),allT t p kk=true→c∈j0K (plF (opF ns) t d)→c∈j0K t∨c∈ns
 | .mk k n s ls ts,p,kk,d,hall,h=>by
  obtain⟨hk,hl,hnd,hls,hts⟩:=j0r hall;obtain⟨ha1,ha2⟩:=j5c hall;cases hp:opF ns (.mk k n s ls ts) d with
  |some x=>
   rw[plF,j2B hp] at h;unfold opF at hp;split at hp
   ·rename_i hc;cases hp;split at h
    ·simp[j0K,j0p] at h
    ·rename_i h3;simp only[cn,j0K,j0p,if_true,List.append_nil,List.mem_singleton] at h;simp only[Tm.num] at h h3 hc;have hq:((ns.length:Int)-1-(n-d)).toNat<ns.length:=by omega
     right
     rw[h];exact getD_in ns hq
   ·cases hp
  |none=>
   by_cases ha:ts.length=0
   ·rw[plF,j1r hp ha] at h;exact .inl h
   ·have h4:4≤k:=by
     by_cases h4:4≤k
     ·exact h4
     ·rw[ha1 (by omega)] at ha
      exact absurd rfl ha
    rw[plF,j3C hp ha,j0K,if_neg (by simp only[Tm.kind];omega),List.nil_append] at h
    rw[j0K,if_neg (by omega),List.nil_append]
    exact jcH ts k 0 p kk d hts h
theorem jcH{ns:List (List UInt8)}{c:List UInt8}:∀(ts:List Tm) (k i p kk d:Int),j0T ts k i p kk=true→c∈j0p (plFs (opF ns) ts k i d)→c∈j0p ts∨c∈ns
 |[],k,i,p,kk,d,ha,h=>by simp[plFs,j0p] at h
 |t::r,k,i,p,kk,d,ha,h=>by
  simp only[j0T,Bool.and_eq_true] at ha;simp only[plFs,j0p,List.mem_append] at h⊢;rcases h with h|h
  ·rcases jmK t p _ _ ha.1 h with h|h
   ·exact .inl (.inl h)
   ·exact .inr h
  ·rcases jcH r k (i+1) p kk d ha.2 h with h|h
   ·exact .inl (.inr h)
   ·exact .inr h
end
open Go Go.Am Go.Gw
theorem jq7(b f:Int)(t:Tm)(d:Int)(x:Tm)(h:movF b f t d=some x):sizT x≤sizT t:=by
 have:=jjO t;unfold movF at h;split at h
 ·cases h;simp[sizT,j0t,j0c];omega
 ·cases h
theorem jo3{x:Tm}(h:movF b f t d=some x):t.kind=1∧x=.mk 1 (t.num+b) [] [] []:=by
 unfold movF at h;split at h
 ·rename_i h1;cases h;exact⟨h1.1,rfl⟩
 ·cases h
mutual
theorem jpj{b:Int}(hb:0≤b):∀(t:Tm) (p kk d:Int),allT t p kk=true→0≤d→d≤kk→allT (plF (movF b 0) t d) p (kk+b)=true
 | .mk k n s ls ts,p,kk,d,ha,hd,hk0=>by
  obtain⟨hk,hl,hnd,hls,hts⟩:=j0r ha;obtain⟨ha1,ha2⟩:=j5c ha;cases hp:movF b 0 (.mk k n s ls ts) d with
  |some x=>
   rw[plF,j2B hp];obtain⟨h1,rfl⟩:=jo3 hp;have hv:=j1E hnd h1;simp only[Tm.num];exact j6L (by omega) (by omega)
  |none=>
   by_cases h4:4≤k
   ·obtain⟨rfl,rfl,rfl⟩:=j4O hnd h4;rw[plF,j3C hp (ha2 h4)];exact j2J hk (by rw[j3Z];exact hl) (j4N hnd (show ¬k=1 by omega)) hls (jft hb ts k 0 p kk d hts hd hk0)
   ·obtain rfl:=ha1 (by omega)
    rw[plF,j1r hp rfl];exact jaD _ p kk _ ha (by omega)
theorem jft{b:Int}(hb:0≤b):∀(ts:List Tm) (k i p kk d:Int),j0T ts k i p kk=true→0≤d→d≤kk→j0T (plFs (movF b 0) ts k i d) k i p (kk+b)=true
 |[],k,i,p,kk,d,ha,hd,hk0=>by simp[plFs,j0T]
 |t::r,k,i,p,kk,d,ha,hd,hk0=>by
  simp only[j0T,Bool.and_eq_true] at ha;simp only[plFs,j0T,Bool.and_eq_true];have hi:=j2e (j0g k) i d;refine⟨?_,jft hb r k (i+1) p kk d ha.2 hd hk0⟩;rw[j6h];refine jpj hb t p _ _ ha.1 (by omega) ?_
  unfold j0k;split<;>omega
end
mutual
theorem jfs{p q:Int}(hpq:p≤q):∀l:Lv,allF l p=true→allF l q=true
 | .mk k n ls,h=>by
  simp only[allF,Bool.and_eq_true] at h⊢;refine⟨?_,jcz hpq ls h.2⟩;have h1:=h.1;simp only[ja4] at h1 ⊢
  by_cases hw:(ls.length:Int)=jh5 k<;>by_cases k1:k=1<;>by_cases k2:k=2<;>simp_all<;>omega
theorem jcz{p q:Int}(hpq:p≤q):∀ls:List Lv,j4p ls p=true→j4p ls q=true
 |[],_=>rfl
 |l::r,h=>by
  simp only[j4p,Bool.and_eq_true] at h⊢;exact⟨jfs hpq l h.1,jcz hpq r h.2⟩
end
theorem j9U{p q:Int}(hpq:p≤q)(hq:q≤4):∀ls:List Lv,j1F ls p=true→j1F ls q=true
 |[],_=>rfl
 |l::r,h=>by
  simp only[j1F,j0x,Bool.and_eq_true,decide_eq_true_eq] at h⊢;obtain⟨⟨h1,h2,h3,h4⟩,h5⟩:=h;exact⟨⟨by omega,hq,h3,jfs hpq l h4⟩,j9U hpq hq r h5⟩
mutual
theorem jmj{p q:Int}(hpq:p≤q)(hq:q≤4):∀(t:Tm) (kk:Int),allT t p kk=true→allT t q kk=true
 | .mk k n s ls ts,kk,ha=>by
  obtain⟨hk,hl,hnd,hls,hts⟩:=j0r ha;exact j2J hk hl hnd (j9U hpq hq ls hls) (jcB hpq hq ts k 0 kk hts)
theorem jcB{p q:Int}(hpq:p≤q)(hq:q≤4):∀(ts:List Tm) (k i kk:Int),j0T ts k i p kk=true→j0T ts k i q kk=true
 |[],k,i,kk,ha=>by simp[j0T]
 |t::r,k,i,kk,ha=>by
  simp only[j0T,Bool.and_eq_true] at ha⊢;exact⟨jmj hpq hq t _ ha.1,jcB hpq hq r k (i+1) kk ha.2⟩
end
theorem j3k(h:j0w t p kk=true):(0≤p∧p≤4)∧0≤kk∧j0v t≤2000∧allT t p (min kk 1125899906842624)=true:=by
 simpa[j0w,and_assoc] using h
def j7c(t:Tm)(by_ from_:Int):Option Tm:=if anyT t=true∧(0≤by_∧by_≤1048576)∧(0≤from_∧from_≤1048576) then j3u (movF by_ from_) t else none
theorem jgO(n:Int):Pf C1 207 [iv n] [bv (decide (0≤n)&&decide (n≤1048576))]:=by
 refine j00 Tryz.func207 rfl rfl rfl ?_;repeat'(first|refine gU ?_|apply gE<;>intro h)<;>conv=>whnf
 all_goals simp_all<;>omega
theorem jiD(t:Tm)(v:PV)(h:TmP t v)(by_ from_:Int):Pf C1 150 [v,iv by_,iv from_] (putV (j7c t by_ from_)):=by
 have hr:=j5d t v h;have h1:=jgO by_;have h2:=jgO from_;have hm:=jgo by_ from_
 by_cases hc:anyT t=true∧(0≤by_∧by_≤1048576)∧(0≤from_∧from_≤1048576)
 ·obtain⟨ha,hb,hf⟩:=hc;have hd:=j8n by_ from_ (by omega) (by omega) t v h 4 1125899906842624 (j2u ha).2 (by omega) (by have:=j5b ha;omega)
  have e:j7c t by_ from_=j3u (movF by_ from_) t:=if_pos ⟨ha,hb,hf⟩;rw[e];rw[ha] at hr;rw[decide_eq_true hb.1,decide_eq_true hb.2] at h1;rw[decide_eq_true hf.1,decide_eq_true hf.2] at h2;cases he:j3u (movF by_ from_) t with
  |some x=>
   rw[he] at hd;simp only[putV] at hd⊢;obtain⟨k8,n8,s8,b8,z8,x8,c8,y8,ys8,he8⟩:=j07 x;rw[he8] at hd⊢;obtain⟨k,nn,s,ls,ts,b,z,xs,c,y,ys,rfl,rfl,-⟩:=h.open;refine j00 Tryz.func150 rfl rfl rfl ?_;repeat'(first|refine gU ?_|refine gX hr ?_|refine gX h1 ?_|refine gX h2 ?_|refine j01 hm fun _=>?_|refine j01 hd fun _=>?_|apply gK)<;>conv=>whnf
   all_goals rfl
  |none=>
   rw[he] at hd;simp only[putV] at hd⊢;obtain⟨k,nn,s,ls,ts,b,z,xs,c,y,ys,rfl,rfl,-⟩:=h.open;refine j00 Tryz.func150 rfl rfl rfl ?_;repeat'(first|refine gU ?_|refine gX hr ?_|refine gX h1 ?_|refine gX h2 ?_|refine j01 hm fun _=>?_|refine j01 hd fun _=>?_|apply gK)<;>conv=>whnf
   all_goals rfl
 ·have e:j7c t by_ from_=none:=if_neg hc;rw[e];simp only[putV];obtain⟨k,nn,s,ls,ts,b,z,xs,c,y,ys,rfl,rfl,-⟩:=h.open;refine j00 Tryz.func150 rfl rfl rfl ?_;repeat'(first|refine gU ?_|apply gM<;>intro h|refine gX hr ?_|refine gX h1 ?_|refine gX h2 ?_|apply gK)<;>conv=>whnf
  all_goals first
   |rfl
   |exact absurd (by simp_all) hc
open Go Go.Am Go.Gw
def spF:Tm→Tm×List Tm
 | .mk k n s ls ts=>match ts with
  |[f,a]=>if k=4 then((spF f).1,a::(spF f).2) else(.mk k n s ls [f,a],[])
  |ts=>(.mk k n s ls ts,[])
def Turned(ts us:List Tm)(i:Nat):Prop:=us.length=ts.length∧∀j,j<ts.length→us[j]?=if j<i∨ts.length≤j+i then ts[ts.length-1-j]? else ts[j]?
theorem jqN(ts:List Tm):Turned ts ts 0:=⟨rfl,fun j hj=>by rw[if_neg (by omega)]⟩
theorem jlO(h:Turned ts us i)(hi:ts.length≤2*i+1):us=ts.reverse:=by
 apply List.ext_getElem?
 intro j;rcases Nat.lt_or_ge j ts.length with hj|hj
 ·rw[h.2 j hj,List.getElem?_reverse hj];split
  ·rfl
  ·rw[show ts.length-1-j=j by omega]
 ·rw[List.getElem?_eq_none (by rw[h.1];exact hj),List.getElem?_eq_none (by simpa using hj)]
theorem jim{b:Tm}(h:Turned ts us i)(hi:2*i+1<ts.length)(ha:us[i]?=some a)(hb:us[ts.length-1-i]?=some b):Turned ts ((us.set i b).set (ts.length-1-i) a) (i+1):=by
 obtain⟨hl,h⟩:=h;refine⟨by simp[hl],fun j hj=>?_⟩
 rw[h i (by omega),if_neg (by omega)] at ha
 rw[h _ (by omega),if_neg (by omega)] at hb
 rw[List.getElem?_set,List.getElem?_set]
 by_cases h1:ts.length-1-i=j
 ·rw[if_pos h1,if_pos (by simp[hl];omega),if_pos (by omega),←ha]
  congr 1
  omega
 ·rw[if_neg h1]
  by_cases h2:i=j
  ·subst h2;rw[if_pos rfl,if_pos (by simp[hl];omega),if_pos (by omega),←hb]
  ·rw[if_neg h2,h j hj]
   by_cases h3:j<i∨ts.length≤j+i
   ·rw[if_pos h3,if_pos (by omega)]
   ·rw[if_neg h3,if_neg (by omega)]
theorem jha(ts:List Tm)(hl:ts.length≤1000000):Finds C1 222 [.ms 0 ts.length] [.row false 25 5 (ts.map encT)] fun r st=>r=.ret []∧st=[.row false 25 5 (ts.reverse.map encT)]:=by
 have hbl:Nat.beq ts.length (ts.map encT).length=true:=by simp
 refine j00 Tryz.func222 rfl rfl rfl ?_;repeat'(first|refine gU ?_|refine VOk.mk hbl ?_)<;>conv=>whnf
 refine j03 (G:=Nat×List Tm) (fun g=>[(2,iv g.1),(3,iv ((ts.length:Int)-1-g.1))]) (fun g=>[.row false 25 5 (g.2.map encT)]) (fun g=>2*g.1≤ts.length∧Turned ts g.2 g.1) (fun g=>ts.length-g.1) (0,ts) ⟨by omega,jqN ts⟩ (by rw[show((ts.length:Int)-1-((0:Nat):Int))=ts.length-1 by omega];rfl) rfl ?_
 rintro⟨i,us⟩ ⟨hi,ht⟩;dsimp only at hi ht⊢;have hul:us.length=ts.length:=ht.1;repeat'(first|apply gE<;>intro h)<;>conv=>whnf
 ·have hlt:2*i+1<ts.length:=by omega
  obtain⟨a,ha⟩:∃a,us[i]?=some a:=⟨_,List.getElem?_eq_getElem (by omega)⟩
  obtain⟨c,hc⟩:∃c,us[ts.length-1-i]?=some c:=⟨_,List.getElem?_eq_getElem (by omega)⟩
  have hae:(us.map encT)[i]?=some (encT a):=by rw[List.getElem?_map,ha];rfl
  have hce:(us.map encT)[ts.length-1-i]?=some (encT c):=by rw[List.getElem?_map,hc];rfl
  have hn:=jim ht hlt ha hc;obtain⟨k1,n1,s1,b1,z1,x1,c1,y1,ys1,he1⟩:=j07 a;obtain⟨k2,n2,s2,b2,z2,x2,c2,y2,ys2,he2⟩:=j07 c;rw[he1] at hae;rw[he2] at hce;have o1:(Nat.beq ts.length (us.map encT).length&&Nat.blt (ts.length-1-i) ts.length&&Nat.beq 5 5)=true:=by simp[hul,Nat.blt_eq];omega
  have o2:(Nat.beq ts.length (us.map encT).length&&Nat.blt i ts.length&&Nat.beq 5 5)=true:=by simp[hul,Nat.blt_eq];omega
  have hub:Nat.beq ts.length (us.map encT).length=true:=by simp[hul]
  have o3:∀e:PV,(Nat.beq ts.length ((us.map encT).set i e).length&&Nat.blt (ts.length-1-i) ts.length&&Nat.beq 5 5)=true:=fun e=>by simp[hul,Nat.blt_eq];omega
  have o4:∀e:PV,Nat.beq ts.length ((us.map encT).set i e).length=true:=fun e=>by simp[hul]
  have hce2:∀e:PV,((us.map encT).set i e)[ts.length-1-i]?=some (.ag [iv k2,iv n2,sv s2,.sl b2 z2 x2,.sl c2 y2 ys2]):=fun e=>by rw[List.getElem?_set_ne (by omega)];exact hce
  repeat'(first|refine gU ?_|refine VOk.mk hub ?_|refine VOk.mk (o3 _) ?_|refine VOk.mk (o4 _) ?_|refine VIdx.mk _ (hce2 _) ?_|refine VNat.mk (ts.length-1-i) (show((ts.length:Int)-1-i)=((ts.length-1-i:Nat):Int) by omega) ?_|refine VOk.mk o1 ?_|refine VOk.mk o2 ?_|refine VIdx.mk _ hae ?_|refine VIdx.mk _ hce ?_)<;>conv=>whnf
  refine VAgain.mk _ rfl _ (j0X rfl) ⟨(i+1,(us.set i c).set (ts.length-1-i) a),⟨by dsimp only;omega,hn⟩,by dsimp only;omega,?_⟩
  dsimp only;rw[List.map_set,List.map_set,he1,he2,show((ts.length:Int)-1-((i+1:Nat):Int))=ts.length-1-i-1 by omega]
  rfl
 ·obtain rfl:=jlO ht (by omega)
  exact j0Z rfl rfl (.cons (j0l (j0Q _ 6)) .nil) rfl ⟨rfl,rfl⟩
theorem jcr:Pf C1 222 [.sl true 0 []] []:=joi (st':=[]) 20 (by kernel_rfl)
theorem jeY{f:Tm}:spF (.mk 4 n s ls [f,a])=((spF f).1,a::(spF f).2):=by
 rw[spF,if_pos rfl]
theorem jeZ(h:¬(k=4∧ts.length=2)):spF (.mk k n s ls ts)=(.mk k n s ls ts,[]):=by
 unfold spF;split
 ·rw[if_neg (fun e=>h ⟨e,rfl⟩)]
 ·rfl
def j1c(t:Tm):List Tm:=(spF t).2.reverse
def spS(z:List PV)(g:List Tm×Tm×PV):Sto:=match g.1 with
 |[]=>[.box 25 g.2.2.cells,.box 25 z]
 |a::r=>[.box 25 g.2.2.cells,.box 25 z,.row false 25 5 ((a::r).map encT)]
theorem jaz(t:Tm)(v:PV)(hT:TmP t v)(hbd:(spF t).2.length≤2000):Pf C1 168 [v] [encT (spF t).1,j7Z (j1c t)]:=by
 obtain⟨k0,nn0,s0,ls0,ts0,b0,z0,xs0,c0,y0,ys0,rfl,rfl,-⟩:=hT.open;refine j00 Tryz.func168 rfl rfl rfl ?_;all_goals try conv=>whnf
 refine j03 (G:=List Tm×Tm×PV) (fun g=>[(4,match g.1 with
    |[]=>.sl true 0 []
    |a::r=>.ms 2 (r.length+1))]) (spS zTm) (fun g=>TmP g.2.1 g.2.2∧(spF g.2.1).1=(spF (.mk k0 nn0 s0 ls0 ts0)).1∧g.1++(spF g.2.1).2=(spF (.mk k0 nn0 s0 ls0 ts0)).2) (fun g=>sizT g.2.1) ([],.mk k0 nn0 s0 ls0 ts0,.ag [iv k0,iv nn0,sv s0,.sl b0 z0 xs0,.sl c0 y0 ys0]) ⟨hT,rfl,rfl⟩ rfl rfl ?_
 rintro⟨don,u,w⟩ ⟨hu,hh,ha⟩;dsimp only at hu hh ha;have hfr:=j3g u w hu;obtain⟨k9,n9,s9,b9,z9,x9,c9,y9,ys9,he9⟩:=j07 u;have hlen:don.length+(spF u).2.length≤2000:=by rw[←List.length_append,ha];exact hbd
 rw[he9] at hfr;obtain⟨k,nn,s,ls,ts,b,z,xs,c,y,ys,rfl,rfl,hz,hxs,hlen1,hbd1,hy,hys,hlen2,hbd2,hsl⟩:=hu.open;have hround:k=4→ts.length=2→∃f a,ts=[f,a]∧(spF f).1=(spF (.mk k0 nn0 s0 ls0 ts0)).1∧(don++[a])++(spF f).2=(spF (.mk k0 nn0 s0 ls0 ts0)).2∧don.length+1≤2000:=by
  rintro rfl h2;match ts,h2 with
  |[f,a],_=>
   rw[jeY] at hh ha hlen;refine⟨f,a,rfl,hh,?_,?_⟩
   ·rw[List.append_assoc];exact ha
   ·simp only[List.length_cons] at hlen;omega
 have hend:¬(k=4∧ts.length=2)→(spF (.mk k0 nn0 s0 ls0 ts0)).1=.mk k nn s ls ts∧(spF (.mk k0 nn0 s0 ls0 ts0)).2=don:=fun h=>by
  rw[jeZ h] at hh ha;exact⟨hh.symm,by simpa using ha.symm⟩
 cases don with
 |nil=>
  simp only[PV.cells,spS];repeat'(first|refine gU ?_|apply gE<;>intro h|refine gX hfr ?_|refine gX jcr ?_)<;>conv=>whnf
  ·obtain⟨f1,a1,rfl,hh1,ha1,hl1⟩:=hround (by assumption) (by omega)
   obtain⟨va,hva,hla⟩:=hys.at (by rfl:[f1,a1][1]?=some a1)
   obtain⟨vb,hvb,hlb⟩:=hys.at (by rfl:[f1,a1][0]?=some f1)
   have hAa:=j3g a1 va hla;obtain⟨k3,n3,s3,b3,z3,x3,c3,y3,ys3,he3⟩:=j07 a1;rw[he3] at hAa;obtain⟨k1,n1,s1,l1,t1,b4,z1,x1,c1,y1,ys1,rfl,rfl,-⟩:=hla.open;obtain⟨k2,n2,s2,l2,t2,b5,z2,x2,c2,y2,ys2,rfl,rfl,-⟩:=hlb.open;repeat'(first|refine gU ?_|refine VIdx.mk _ hva ?_|refine VIdx.mk _ hvb ?_|refine gZ hy ?_|refine gX hAa ?_)<;>conv=>whnf
   have e:[Tm.mk k1 n1 s1 l1 t1].map encT=[.ag [iv k3,iv n3,sv s3,.sl b3 z3 x3,.sl c3 y3 ys3]]:=by rw[List.map_cons,he3];rfl
   exact VAgain.mk _ rfl _ (j0L (.cons (j02 rfl rfl) (.cons (j02 rfl rfl) (.cons (j08 rfl) .nil))) (.cons (j02 rfl rfl) (.cons (j02 rfl rfl) (.cons (j08 rfl) .nil))) rfl rfl rfl rfl rfl) ⟨([Tm.mk k1 n1 s1 l1 t1],Tm.mk k2 n2 s2 l2 t2,.ag [iv k2,iv n2,sv s2,.sl b5 z2 x2,.sl c2 y2 ys2]),⟨hlb,hh1,ha1⟩,by simp only[sizT,j0t];omega,by dsimp only[spS];rw[e];rfl⟩
  all_goals
   obtain⟨e1,e2⟩:=hend (by omega)
   have e3:j1c (.mk k0 nn0 s0 ls0 ts0)=[]:=by rw[j1c,e2];rfl
   rw[e1,e3,he9];rfl
 |cons d dr=>
  simp only[PV.cells,spS];have hbl:Nat.beq (dr.length+1) ((d::dr).map encT).length=true:=by simp
  have hrv:=jha (d::dr) (by simp only[List.length_cons] at hlen⊢;omega)
  repeat'(first|refine gU ?_|apply gE<;>intro h)<;>conv=>whnf
  ·obtain⟨f1,a1,rfl,hh1,ha1,hl1⟩:=hround (by assumption) (by omega)
   obtain⟨va,hva,hla⟩:=hys.at (by rfl:[f1,a1][1]?=some a1)
   obtain⟨vb,hvb,hlb⟩:=hys.at (by rfl:[f1,a1][0]?=some f1)
   have hAa:=j3g a1 va hla;obtain⟨k3,n3,s3,b3,z3,x3,c3,y3,ys3,he3⟩:=j07 a1;rw[he3] at hAa;obtain⟨k1,n1,s1,l1,t1,b4,z1,x1,c1,y1,ys1,rfl,rfl,-⟩:=hla.open;obtain⟨k2,n2,s2,l2,t2,b5,z2,x2,c2,y2,ys2,rfl,rfl,-⟩:=hlb.open;have hp8:((d::dr).map encT++[PV.ag [iv k3,iv n3,sv s3,.sl b3 z3 x3,.sl c3 y3 ys3]]).all (pur 8)=true:=by
    rw[←he3,show(d::dr).map encT++[encT (Tm.mk k1 n1 s1 l1 t1)]=(d::dr++[Tm.mk k1 n1 s1 l1 t1]).map encT by simp]
    exact j0Q _ 6
   repeat'(first|refine gU ?_|refine VIdx.mk _ hva ?_|refine VIdx.mk _ hvb ?_|refine gZ hy ?_|refine gX hAa ?_|refine VOk.mk (j1h (w:=80) (r:=140737488355328) (by simp:((d::dr).map encT).length=dr.length+1) rfl rfl rfl rfl (by simp only[List.length_cons,List.length_nil] at hl1⊢;omega) (by simp only[List.length_cons,List.length_nil] at hl1⊢;omega)) ?_)<;>conv=>whnf
   have e:(d::(dr++[Tm.mk k1 n1 s1 l1 t1])).map encT=(d::dr).map encT++[.ag [iv k3,iv n3,sv s3,.sl b3 z3 x3,.sl c3 y3 ys3]]:=by rw[←he3];simp
   have el:(dr++[Tm.mk k1 n1 s1 l1 t1]).length+1=dr.length+1+1:=by simp
   refine VAgain.mk _ rfl _ (j0L (.cons (j02 rfl rfl) (.cons (j02 rfl rfl) (.cons (j08 hp8) .nil))) (.cons (j02 rfl rfl) (.cons (j02 rfl rfl) (.cons (j08 hp8) .nil))) rfl rfl rfl rfl rfl) ⟨(d::(dr++[Tm.mk k1 n1 s1 l1 t1]),Tm.mk k2 n2 s2 l2 t2,.ag [iv k2,iv n2,sv s2,.sl b5 z2 x2,.sl c2 y2 ys2]),⟨hlb,hh1,?_⟩,by simp only[sizT,j0t];omega,?_⟩
   ·exact ha1
   ·dsimp only[spS];rw[e,el];rfl
  all_goals
   obtain⟨e1,e2⟩:=hend (by omega)
   have e3:j1c (.mk k0 nn0 s0 ls0 ts0)=(d::dr).reverse:=by rw[j1c,e2]
   refine j0W rfl rfl (.cons (j05 rfl rfl) (.cons (j05 rfl rfl) (.cons (j0l (j0Q _ 6)) .nil))) rfl rfl rfl rfl (Finds.mono hrv ?_);rintro _ _ ⟨rfl,rfl⟩;refine j4d (.cons (j0l (j0Q _ 6)) .nil) rfl ?_;repeat'(first|refine gU ?_|refine gX hfr ?_)<;>conv=>whnf
   refine j0n rfl (j04 rfl (j04 (j0D rfl (by simp) (j0Q _ 4)) j0m)) rfl ?_
   rw[e1,e3,he9,j2y (by simp)]
   try rfl
open Go Go.Am Go.Gw
def jt7:PV:=.fn 200 [] []
def juk:PV:=.fn 144 [] []
theorem jaW(ls ls':List Lv)(hrec:∀l∈ls,∀v,LvP l v→∀m w,LvP m w→Pf C1 200 [v,w] [bv (eqLv l m)])(b b':Bool)(z z':Nat)(xs xs':List PV)(hz:z=3∨xs=[])(hz':z'=3∨xs'=[])(hxs:LvsP ls xs)(hxs':LvsP ls' xs')(hbd:ls.length≤3518437208780)(hbd':ls'.length≤3518437208780):
  Pf C1 199 [.sl b z xs,.sl b' z' xs',jt7] [bv (decide (ls.length=ls'.length)&&jcl ls ls')]:=by
 have hlen:=hxs.len;have hlen':=hxs'.len;refine j00 Tryz.func199 rfl rfl rfl ?_;repeat'(first|refine gU ?_|apply gE<;>intro h)<;>conv=>whnf
 ·have hl2:ls.length=ls'.length:=by omega
  refine j03 (G:=Nat) (fun i=>[(17,iv i)]) (fun _=>_) (fun i=>i≤ls.length∧jcl (ls.drop i) (ls'.drop i)=jcl ls ls') (fun i=>ls.length-i) 0 ⟨by omega,rfl⟩ rfl rfl ?_
  rintro i ⟨hi,hall⟩;repeat'(first|refine gU ?_|apply gE<;>intro h)<;>conv=>whnf
  ·have hi':i<ls.length:=by omega
   obtain⟨lc,hlc⟩:∃lc,ls[i]?=some lc:=⟨_,List.getElem?_eq_getElem hi'⟩;obtain⟨mc,hmc⟩:∃mc,ls'[i]?=some mc:=⟨_,List.getElem?_eq_getElem (by omega)⟩
   obtain⟨v,hv,hl⟩:=hxs.at hlc;obtain⟨w,hw,hl'⟩:=hxs'.at hmc;have hr:=hrec _ (List.mem_of_getElem? hlc) _ hl _ _ hl';obtain⟨k1,n1,l1,b1,z1,x1,rfl,rfl,hz1,hxs1,hlen1,hbd1⟩:=hl.open;obtain⟨k2,n2,l2,b2,z2,x2,rfl,rfl,hz2,hxs2,hlen2,hbd2⟩:=hl'.open;rw[drop_at hlc,drop_at hmc] at hall;simp only[jcl] at hall;repeat'(first|refine gU ?_|apply gM<;>intro h|refine VIdx.mk _ hv ?_|refine gZ hz ?_|refine VIdx.mk _ hw ?_|refine gZ hz' ?_|refine gX hr ?_)<;>conv=>whnf
   ·refine VAgain.mk _ rfl _ (j0a rfl rfl rfl) ⟨i+1,⟨hi',?_⟩,by omega,rfl⟩
    rw[←hall]
    simp_all
   ·rw[←hall]
    simp_all
  ·have:i=ls.length:=by omega
   subst this;rw[List.drop_length] at hall;rw[←hall,decide_eq_true hl2];rfl
 ·rw[decide_eq_false (by omega)]
  rfl
theorem jmf(l:Lv):∀v,LvP l v→∀m w,LvP m w→Pf C1 200 [v,w] [bv (eqLv l m)]:=by
 induction l using Lv.ind with
 |_ k n ls ih=>
 intro v h m w hm;obtain⟨_,_,_,b,z,xs,⟨rfl,rfl,rfl⟩,rfl,hz,hxs,hlen,hbd⟩:=h.open;obtain⟨k',n',ls',b',z',xs',rfl,rfl,hz',hxs',hlen',hbd'⟩:=hm.open;have he:=jaW ls ls' ih b b' z z' xs xs' hz hz' hxs hxs' (by omega) (by omega)
 refine j00 Tryz.func200 rfl rfl rfl ?_;repeat'(first|refine gU ?_|apply gE<;>intro h|refine gX he ?_)<;>conv=>whnf
 all_goals simp_all[eqLv,retV]
theorem jhA(ts ts':List Tm)(hrec:∀l∈ts,∀v,TmP l v→∀m w,TmP m w→Pf C1 144 [v,w] [bv (eqTm l m)])(b b':Bool)(z z':Nat)(xs xs':List PV)(hz:z=5∨xs=[])(hz':z'=5∨xs'=[])(hxs:TmsP ts xs)(hxs':TmsP ts' xs')(hbd:ts.length≤1759218604441)(hbd':ts'.length≤1759218604441):
  Pf C1 201 [.sl b z xs,.sl b' z' xs',juk] [bv (decide (ts.length=ts'.length)&&je6 ts ts')]:=by
 have hlen:=hxs.len;have hlen':=hxs'.len;refine j00 Tryz.func201 rfl rfl rfl ?_;repeat'(first|refine gU ?_|apply gE<;>intro h)<;>conv=>whnf
 ·have hl2:ts.length=ts'.length:=by omega
  refine j03 (G:=Nat) (fun i=>[(17,iv i)]) (fun _=>_) (fun i=>i≤ts.length∧je6 (ts.drop i) (ts'.drop i)=je6 ts ts') (fun i=>ts.length-i) 0 ⟨by omega,rfl⟩ rfl rfl ?_
  rintro i ⟨hi,hall⟩;repeat'(first|refine gU ?_|apply gE<;>intro h)<;>conv=>whnf
  ·have hi':i<ts.length:=by omega
   obtain⟨lc,hlc⟩:∃lc,ts[i]?=some lc:=⟨_,List.getElem?_eq_getElem hi'⟩;obtain⟨mc,hmc⟩:∃mc,ts'[i]?=some mc:=⟨_,List.getElem?_eq_getElem (by omega)⟩
   obtain⟨v,hv,hl⟩:=hxs.at hlc;obtain⟨w,hw,hl'⟩:=hxs'.at hmc;have hr:=hrec _ (List.mem_of_getElem? hlc) _ hl _ _ hl';obtain⟨k1,n1,s1,l1,t1,b1,z1,x1,c1,y1,ys1,rfl,rfl,-⟩:=hl.open;obtain⟨k2,n2,s2,l2,t2,b2,z2,x2,c2,y2,ys2,rfl,rfl,-⟩:=hl'.open;rw[drop_at hlc,drop_at hmc] at hall;simp only[je6] at hall;repeat'(first|refine gU ?_|apply gM<;>intro h|refine VIdx.mk _ hv ?_|refine gZ hz ?_|refine VIdx.mk _ hw ?_|refine gZ hz' ?_|refine gX hr ?_)<;>conv=>whnf
   ·refine VAgain.mk _ rfl _ (j0a rfl rfl rfl) ⟨i+1,⟨hi',?_⟩,by omega,rfl⟩
    rw[←hall]
    simp_all
   ·rw[←hall]
    simp_all
  ·have:i=ts.length:=by omega
   subst this;rw[List.drop_length] at hall;rw[←hall,decide_eq_true hl2];rfl
 ·rw[decide_eq_false (by omega)]
  rfl
theorem j7J(t:Tm):∀v,TmP t v→∀m w,TmP m w→Pf C1 144 [v,w] [bv (eqTm t m)]:=by
 induction t using Tm.ind with
 |_ k n s ls ts ih=>
 intro v h m w hm;obtain⟨_,_,_,_,_,b,z,xs,c,y,ys,⟨rfl,rfl,rfl,rfl,rfl⟩,rfl,hz,hxs,hlen,hbd,hy,hys,hlen2,hbd2,hsl⟩:=h.open;obtain⟨k',n',s',ls',ts',b',z',xs',c',y',ys',rfl,rfl,hz',hxs',hlen',hbd',hy',hys',hlen2',hbd2',hsl'⟩:=hm.open;have he:=jaW ls ls' (fun l _=>jmf l) b b' z z' xs xs' hz hz' hxs hxs' (by omega) (by omega)
 have hf:=jhA ts ts' ih c c' y y' ys ys' hy hy' hys hys' (by omega) (by omega)
 refine j00 Tryz.func144 rfl rfl rfl ?_;repeat'(first|refine gU ?_|apply gE<;>intro h|apply gM<;>intro h|refine j4n ?_|refine gX he ?_|refine gX hf ?_)<;>conv=>whnf
 all_goals simp_all[eqTm,retV]
end Go.Proofs.YtbnodhcijeaceaaGreatDoor
