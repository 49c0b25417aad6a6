/- Levels and terms as bytes: that they are made; which terms have bytes. -/
import Derived.Test.YtbnodhcijeaceaaGreatDoorZKa
set_option linter.all false
set_option maxHeartbeats 1000000
set_option maxRecDepth 100000
namespace Go.Proofs.YtbnodhcijeaceaaGreatDoor
open Go Go.Am Go.Gw
variable{k n p:Int}{ls:List Lv}{ts:List Tm}{l:Lv}{i:Nat}
theorem j0C{f:FuncId}{a y:PV}{yr:List PV}{n q:Nat}{st:Sto}{K:AEnd→Sto→Prop}(hraw:C1.raw f=true)(ha:pur 8 a=true)(hn:n=yr.length+1)(hst:st[i]?=some (.row false 5 1 (y::yr)))(hp:(y::yr).all (pur 6)=true)
  (h:Finds C1 f [bufP (y::yr),a] (bufS (y::yr)) (Put1 (y::yr) q))
  (k:∀z zr,(z::zr).all (pur 6)=true→(z::zr).length≤(y::yr).length+q→K (.ret [.ms i (zr.length+1)]) (st.set i (.row false 5 1 (z::zr)))):VCall C1 f [.ms i n,a] st K:=by
 subst hn;have hi:=j9s ha;have hR:=j0l (b:=false) (T:=5) (z:=1) (p68 hp);have hRs:∀f,soIn f (.row false 5 1 (y::yr))=true:=fun f=>hR.sh.2 f (fun j hj=>nomatch hj)
 have hids:[PV.ms i (yr.length+1),a].flatMap (ids 8)=[i]:=by
  rw[List.flatMap_cons,List.flatMap_cons,hi.1];rfl
 have hel:[i].elem i=true:=by simp
 refine j0F (args':=[.ms i (yr.length+1),a]) (args0:=[bufP (y::yr),a]) (st0:=bufS (y::yr)) (π:=[i]) (by unfold handed;rw[hraw]) rfl ?_ ?_ ?_ ?_ (Finds.mono h ?_)
 ·rw[hids];simp only[close,List.elem_nil,hst,hR.sh.1,List.append_nil,List.reverse_cons,List.reverse_nil,List.nil_append]
 ·rw[List.all_cons,List.all_cons,hi.2];show([i].elem i&&_)=true
  rw[hel];rfl
 ·simp only[fetch,mapO,hst,hRs,hR.ren];rfl
 ·rw[List.map_cons,List.map_cons,j4T ha];have e:place i 0 [i]=0:=by simp[place]
  show[PV.ms (place i 0 [i]) (yr.length+1),a]=_
  rw[e];rfl
 ·rintro _ _ ⟨ys,rfl,rfl,hyp,hyl,hpos⟩;obtain⟨z,zr,rfl⟩:∃z zr,ys=z::zr:=by
   cases ys with
   |nil=>simp at hpos
   |cons z zr=>exact⟨z,zr,rfl⟩
  have hZ:=j0l (b:=false) (T:=5) (z:=1) (p68 hyp);have hZs:∀f,soIn f (.row false 5 1 (z::zr))=true:=fun f=>hZ.sh.2 f (fun j hj=>nomatch hj)
  refine j1Y ?_ ?_
  ·simp only[bufP,bufS,List.all_cons,List.all_nil,hZs];rfl
  ·have:=k z zr hyp hyl;simp only[bufP,bufS,j2f,hZ.ren,List.length_cons,List.length_nil,List.drop_succ_cons,List.drop_zero,List.map_nil,List.append_nil];exact this
theorem jrQ(h:allF (.mk k n ls) 4=true):(1≤k∧k≤5)∧(0≤n∧n≤100)∧j4p ls 4=true:=by
 simp only[allF,Bool.and_eq_true] at h;obtain⟨h1,h2⟩:=h;simp only[ja4,jh5] at h1;refine⟨?_,?_,h2⟩<;>(repeat' split at h1)<;>simp_all<;>omega
theorem j5a(h:j4p ls p=true)(e:ls[i]?=some l):allF l p=true:=by
 induction ls generalizing i with
 |nil=>simp at e
 |cons a r ih=>
  simp only[j4p,Bool.and_eq_true] at h;cases i with
  |zero=>simp at e;subst e;exact h.1
  |succ i=>exact ih h.2 (by simpa using e)
theorem j2r(l:Lv):∀v,LvP l v→allF l 4=true→∀(x:PV) (xr:List PV),(x::xr).all (pur 6)=true→(x::xr).length+12*j0M l≤100000000→Finds C1 340 [bufP (x::xr),v] (bufS (x::xr)) (Put1 (x::xr) (12*j0M l)):=by
 induction l using Lv.ind with
 |_ k nn ls ih=>
 intro v h hall x xr hp hl;obtain⟨_,_,_,b,z,xs,⟨rfl,rfl,rfl⟩,rfl,hz,hxs,hlen,hbd⟩:=h.open;have hp8:=p68 hp;refine j00 Tryz.func340 rfl rfl rfl ?_;have hb:=jrQ hall;have hk:=j4m k (by omega) (by omega) true
 have hn:=j4m nn (by omega) (by omega) true
 have hlf:=jpZ k;simp only[j0M] at hl⊢;simp only[bufP,bufS];repeat'(first|apply gM<;>intro h|refine gX hlf ?_|refine j0C rfl rfl rfl rfl hp (hk _ hp (by omega)) (fun z0 zr0 hp0 hl0=>?_)|refine j0C rfl rfl rfl rfl hp0 (hn _ hp0 (by omega)) (fun z1 zr1 hp1 hl1=>?_))<;>conv=>whnf
 ·refine j03 (G:=Nat×PV×List PV) (fun g=>[(23,iv g.1),(0,.ms 0 (g.2.2.length+1))]) (fun g=>[.row false 5 1 (g.2.1::g.2.2),_]) (fun g=>g.1≤ls.length∧(g.2.1::g.2.2).all (pur 6)=true∧(g.2.1::g.2.2).length+12*j0c (ls.drop g.1)≤(x::xr).length+12*(1+j0c ls)) (fun g=>ls.length-g.1) (0,z1,zr1) ⟨by omega,hp1,by simp only[List.drop_zero,List.length_cons] at *;omega⟩ rfl rfl ?_
  rintro⟨i,y,yr⟩ ⟨hi,hpy,hly⟩;dsimp only at hi hpy hly⊢;have hp8:=p68 hpy;repeat'(first|refine gU ?_|apply gE<;>intro h)<;>conv=>whnf
  ·have hi':i<ls.length:=by omega
   obtain⟨lc,hlc⟩:∃lc,ls[i]?=some lc:=⟨_,List.getElem?_eq_getElem hi'⟩;obtain⟨v,hv,hlv⟩:=hxs.at hlc;have hac:=j5a hb.2.2 hlc;have hsz:j0c (ls.drop i)=j0M lc+j0c (ls.drop (i+1)):=by rw[drop_at hlc,j0c]
   have hrec:=ih _ (List.mem_of_getElem? hlc) _ hlv hac y yr hpy (by simp only[List.length_cons] at hly hl⊢;omega)
   obtain⟨k1,n1,l1,b1,z1,x1,rfl,rfl,hz1,hxs1,hlen1,hbd1⟩:=hlv.open;repeat'(first|refine gU ?_|refine VIdx.mk _ hv ?_|refine gZ hz ?_|refine j0C rfl rfl rfl rfl hpy hrec (fun w wr hpw hlw=>?_))<;>conv=>whnf
   have hp8:=p68 hpw;refine VAgain.mk _ rfl _ (j0L (.cons (j08 hp8) (.cons (j02 rfl rfl) (.cons (j02 rfl rfl) .nil))) (.cons (j08 hp8) (.cons (j02 rfl rfl) .nil)) rfl rfl rfl rfl rfl) ⟨(i+1,w,wr),⟨hi',hpw,?_⟩,by dsimp only;omega,rfl⟩
   simp only[List.length_cons] at hly hlw⊢;omega
  ·refine j1j (.inl ⟨rfl,rfl,rfl⟩) rfl (j0L (.cons (j08 hp8) (.cons (j02 rfl rfl) .nil)) (.cons (j08 hp8) .nil) rfl rfl rfl rfl rfl) (j1a rfl) (j2L hpy ?_ rfl _ _ rfl rfl);simp only[List.length_cons] at hly⊢;omega
 ·refine j03 (G:=Nat×PV×List PV) (fun g=>[(23,iv g.1),(0,.ms 0 (g.2.2.length+1))]) (fun g=>[.row false 5 1 (g.2.1::g.2.2),_]) (fun g=>g.1≤ls.length∧(g.2.1::g.2.2).all (pur 6)=true∧(g.2.1::g.2.2).length+12*j0c (ls.drop g.1)≤(x::xr).length+12*(1+j0c ls)) (fun g=>ls.length-g.1) (0,z0,zr0) ⟨by omega,hp0,by simp only[List.drop_zero,List.length_cons] at *;omega⟩ rfl rfl ?_
  rintro⟨i,y,yr⟩ ⟨hi,hpy,hly⟩;dsimp only at hi hpy hly⊢;have hp8:=p68 hpy;repeat'(first|refine gU ?_|apply gE<;>intro h)<;>conv=>whnf
  ·have hi':i<ls.length:=by omega
   obtain⟨lc,hlc⟩:∃lc,ls[i]?=some lc:=⟨_,List.getElem?_eq_getElem hi'⟩;obtain⟨v,hv,hlv⟩:=hxs.at hlc;have hac:=j5a hb.2.2 hlc;have hsz:j0c (ls.drop i)=j0M lc+j0c (ls.drop (i+1)):=by rw[drop_at hlc,j0c]
   have hrec:=ih _ (List.mem_of_getElem? hlc) _ hlv hac y yr hpy (by simp only[List.length_cons] at hly hl⊢;omega)
   obtain⟨k1,n1,l1,b1,z1,x1,rfl,rfl,hz1,hxs1,hlen1,hbd1⟩:=hlv.open;repeat'(first|refine gU ?_|refine VIdx.mk _ hv ?_|refine gZ hz ?_|refine j0C rfl rfl rfl rfl hpy hrec (fun w wr hpw hlw=>?_))<;>conv=>whnf
   have hp8:=p68 hpw;refine VAgain.mk _ rfl _ (j0L (.cons (j08 hp8) (.cons (j02 rfl rfl) (.cons (j02 rfl rfl) .nil))) (.cons (j08 hp8) (.cons (j02 rfl rfl) .nil)) rfl rfl rfl rfl rfl) ⟨(i+1,w,wr),⟨hi',hpw,?_⟩,by dsimp only;omega,rfl⟩
   simp only[List.length_cons] at hly hlw⊢;omega
  ·refine j1j (.inl ⟨rfl,rfl,rfl⟩) rfl (j0L (.cons (j08 hp8) (.cons (j02 rfl rfl) .nil)) (.cons (j08 hp8) .nil) rfl rfl rfl rfl rfl) (j1a rfl) (j2L hpy ?_ rfl _ _ rfl rfl);simp only[List.length_cons] at hly⊢;omega
mutual
def j8t:Tm→Bool
 | .mk k n _ _ ts=>(!decide (k=1)||decide (n<1099511627776))&&jbq ts
def jbq:List Tm→Bool
 |[]=>true
 |t::r=>j8t t&&jbq r
end
theorem j4M{t:Tm}(h:jbq ts=true)(e:ts[i]?=some t):j8t t=true:=by
 induction ts generalizing i with
 |nil=>simp at e
 |cons a r ih=>
  simp only[jbq,Bool.and_eq_true] at h;cases i with
  |zero=>simp at e;subst e;exact h.1
  |succ i=>exact ih h.2 (by simpa using e)
theorem j3G(h:j1F ls p=true)(e:ls[i]?=some l):j0x l p=true:=by
 induction ls generalizing i with
 |nil=>simp at e
 |cons a r ih=>
  simp only[j1F,Bool.and_eq_true] at h;cases i with
  |zero=>simp at e;subst e;exact h.1
  |succ i=>exact ih h.2 (by simpa using e)
theorem j2S(h:j0x l p=true):allF l p=true:=by
 simp only[j0x,Bool.and_eq_true] at h;exact h.2.2.2
theorem jtE{s:List UInt8}{kk:Int}(h:allT (.mk k n s ls ts) 4 kk=true)(hn:j8t (.mk k n s ls ts)=true):(1≤k∧k≤7)∧(k=1→0≤n∧n≤1099511627776)∧s.length≤40∧(ls.length:Int)≤4∧j1F ls 4=true∧jbq ts=true:=by
 obtain⟨hk,hl,hnd,hls,hts⟩:=j0r h;simp only[j8t,Bool.and_eq_true] at hn;simp only[j3W] at hnd;refine⟨hk,?_,?_,?_,hls,hn.2⟩
 ·intro h1;rw[if_pos h1] at hnd;have:=hn.1;simp[h1] at this hnd;omega
 ·split at hnd
  ·simp at hnd;simp[hnd.2.2.1]
  ·split at hnd
   ·simp[j2G] at hnd;omega
   ·simp at hnd;simp[hnd.2.1]
 ·split at hnd
  ·simp at hnd;simp[hnd.2.2.2]
  ·split at hnd
   ·simp at hnd;omega
   ·have h3:j0O k≤1:=by unfold j0O;split<;>omega
    simp only[Bool.and_eq_true,decide_eq_true_eq] at hnd;omega
theorem j7D(t:Tm):∀v,TmP t v→∀kk:Int,allT t 4 kk=true→j8t t=true→∀(x:PV) (xr:List PV),(x::xr).all (pur 6)=true→(x::xr).length+64*sizT t≤100000000→Finds C1 311 [bufP (x::xr),v] (bufS (x::xr)) (Put1 (x::xr) (64*sizT t)):=by
 induction t using Tm.ind with
 |_ k nn s ls ts ih=>
 intro v h kk hall hnear x xr hp hl;obtain⟨hk17,hnn,hs40,hls4,hrl,hnts⟩:=jtE hall hnear;have hats:=(j0r hall).2.2.2.2;obtain⟨_,_,_,_,_,b,z,xs,c,y,ys,⟨rfl,rfl,rfl,rfl,rfl⟩,rfl,hz,hxs,hlen,hbd,hy,hys,hlen2,hbd2,hsl⟩:=h.open;have hp8:=p68 hp;have hk:=j4m k (by omega) (by omega) true
 have hn:=fun h=>j4m nn (hnn h).1 (hnn h).2 true
 have hc:=j4m xs.length (by omega) (by omega) true
 obtain⟨tx,htx,htl,htp,hT⟩:=jdw s (by omega) true
 obtain⟨q,qr,rfl⟩:∃q qr,tx=q::qr:=by
  cases tx with
  |nil=>simp at htp
  |cons q qr=>exact⟨q,qr,rfl⟩
 have hcat:∀{z:PV}{zr:List PV},(z::zr).all (pur 6)=true→(z::(zr++q::qr)).all (pur 6)=true:=fun{z zr} h=>by
  rw[show z::(zr++q::qr)=(z::zr)++q::qr from rfl,List.all_append,h,htx]
  rfl
 refine j00 Tryz.func311 rfl rfl rfl ?_;simp only[sizT] at hl⊢;simp only[bufP,bufS];repeat'(first|refine gU ?_|apply gE<;>intro h|refine j0C rfl rfl rfl rfl hp (hk _ hp (by omega)) (fun z0 zr0 hp0 hl0=>?_)|refine j0C rfl rfl rfl rfl hp0 (hn (by omega) _ hp0 (by omega)) (fun z1 zr1 hp1 hl1=>?_)|refine gX hT ?_|refine VOk.mk (j1h (w:=1) (r:=140737488355328) (by simp:(z0::zr0).length=zr0.length+1) rfl rfl rfl rfl (by simp only[List.length_cons] at *;omega) (by simp only[List.length_cons] at *;omega)) ?_|refine j0C (y:=z0) (yr:=zr0++q::qr) rfl rfl (by simp;omega) rfl (hcat hp0) (hc _ (hcat hp0) (by simp only[List.length_cons,List.length_append] at *;omega)) (fun z2 zr2 hp2 hl2=>?_))<;>conv=>whnf
 ·refine j03 (G:=Nat×PV×List PV) (fun g=>[(40,iv g.1),(0,.ms 0 (g.2.2.length+1))]) (fun g=>[.row false 5 1 (g.2.1::g.2.2),_]) (fun g=>g.1≤ls.length∧(g.2.1::g.2.2).all (pur 6)=true∧(g.2.1::g.2.2).length+12*j0c (ls.drop g.1)≤(x::xr).length+58+12*j0c ls) (fun g=>ls.length-g.1) (0,z1,zr1) ⟨by omega,hp1,by simp only[List.drop_zero,List.length_cons,List.length_append] at *;omega⟩ rfl rfl ?_
  rintro⟨i,y,yr⟩ ⟨hi,hpy,hly⟩;dsimp only at hi hpy hly⊢;have hp8:=p68 hpy;repeat'(first|refine gU ?_|apply gE<;>intro h)<;>conv=>whnf
  ·have hi':i<ls.length:=by omega
   obtain⟨lc,hlc⟩:∃lc,ls[i]?=some lc:=⟨_,List.getElem?_eq_getElem hi'⟩;obtain⟨v,hv,hlv⟩:=hxs.at hlc;have hac:=j2S (j3G hrl hlc);have hsz:j0c (ls.drop i)=j0M lc+j0c (ls.drop (i+1)):=by rw[drop_at hlc,j0c]
   have hrec:=j2r lc _ hlv hac y yr hpy (by simp only[List.length_cons] at hly hl⊢;omega)
   obtain⟨k1,n1,l1,b1,z1,x1,rfl,rfl,hz1,hxs1,hlen1,hbd1⟩:=hlv.open;repeat'(first|refine gU ?_|refine VIdx.mk _ hv ?_|refine gZ hz ?_|refine j0C rfl rfl rfl rfl hpy hrec (fun w wr hpw hlw=>?_))<;>conv=>whnf
   have hp8:=p68 hpw;refine VAgain.mk _ rfl _ (j0L (.cons (j08 hp8) (.cons (j02 rfl rfl) (.cons (j02 rfl rfl) .nil))) (.cons (j08 hp8) (.cons (j02 rfl rfl) .nil)) rfl rfl rfl rfl rfl) ⟨(i+1,w,wr),⟨hi',hpw,?_⟩,by dsimp only;omega,rfl⟩
   simp only[List.length_cons] at hly hlw⊢;omega
  ·refine j03 (G:=Nat×PV×List PV) (fun g=>[(51,iv g.1),(0,.ms 0 (g.2.2.length+1))]) (fun g=>[.row false 5 1 (g.2.1::g.2.2),_]) (fun g=>g.1≤ts.length∧(g.2.1::g.2.2).all (pur 6)=true∧(g.2.1::g.2.2).length+64*j0t (ts.drop g.1)≤(x::xr).length+58+12*j0c ls+64*j0t ts) (fun g=>ts.length-g.1) (0,y,yr) ⟨by omega,hpy,by simp only[List.drop_zero,List.length_cons] at *;omega⟩ rfl rfl ?_
   rintro⟨j,y,yr⟩ ⟨hj,hpy,hly⟩;dsimp only at hj hpy hly⊢;have hp8:=p68 hpy;repeat'(first|refine gU ?_|apply gE<;>intro h)<;>conv=>whnf
   ·have hj':j<ts.length:=by omega
    obtain⟨tc,htc⟩:∃tc,ts[j]?=some tc:=⟨_,List.getElem?_eq_getElem hj'⟩;obtain⟨v,hv,hlv⟩:=hys.at htc;have hsz:j0t (ts.drop j)=sizT tc+j0t (ts.drop (j+1)):=by rw[drop_at htc,j0t]
    have hrec:=ih _ (List.mem_of_getElem? htc) _ hlv _ (j2t hats htc) (j4M hnts htc) y yr hpy (by simp only[List.length_cons] at hly hl⊢;omega)
    obtain⟨k1,n1,s1,l1,t1,b1,z1,x1,c1,y1,ys1,rfl,rfl,hz1,hxs1,hlen1,hbd1,hy1,hys1,hlen21,hbd21,hsl1⟩:=hlv.open;repeat'(first|refine gU ?_|refine VIdx.mk _ hv ?_|refine gZ hy ?_|refine j0C rfl rfl rfl rfl hpy hrec (fun w wr hpw hlw=>?_))<;>conv=>whnf
    have hp8:=p68 hpw;refine VAgain.mk _ rfl _ (j0L (.cons (j08 hp8) (.cons (j02 rfl rfl) (.cons (j02 rfl rfl) .nil))) (.cons (j08 hp8) (.cons (j02 rfl rfl) .nil)) rfl rfl rfl rfl rfl) ⟨(j+1,w,wr),⟨hj',hpw,?_⟩,by dsimp only;omega,rfl⟩
    simp only[List.length_cons] at hly hlw⊢;omega
   ·refine j1j (.inl ⟨rfl,rfl,rfl⟩) rfl (j0L (.cons (j08 hp8) (.cons (j02 rfl rfl) .nil)) (.cons (j08 hp8) .nil) rfl rfl rfl rfl rfl) (j1a rfl) (j2L hpy ?_ rfl _ _ rfl rfl);simp only[List.length_cons] at hly⊢;omega
 ·refine j03 (G:=Nat×PV×List PV) (fun g=>[(40,iv g.1),(0,.ms 0 (g.2.2.length+1))]) (fun g=>[.row false 5 1 (g.2.1::g.2.2),_]) (fun g=>g.1≤ls.length∧(g.2.1::g.2.2).all (pur 6)=true∧(g.2.1::g.2.2).length+12*j0c (ls.drop g.1)≤(x::xr).length+58+12*j0c ls) (fun g=>ls.length-g.1) (0,z2,zr2) ⟨by omega,hp2,by simp only[List.drop_zero,List.length_cons,List.length_append] at *;omega⟩ rfl rfl ?_
  rintro⟨i,y,yr⟩ ⟨hi,hpy,hly⟩;dsimp only at hi hpy hly⊢;have hp8:=p68 hpy;repeat'(first|refine gU ?_|apply gE<;>intro h)<;>conv=>whnf
  ·have hi':i<ls.length:=by omega
   obtain⟨lc,hlc⟩:∃lc,ls[i]?=some lc:=⟨_,List.getElem?_eq_getElem hi'⟩;obtain⟨v,hv,hlv⟩:=hxs.at hlc;have hac:=j2S (j3G hrl hlc);have hsz:j0c (ls.drop i)=j0M lc+j0c (ls.drop (i+1)):=by rw[drop_at hlc,j0c]
   have hrec:=j2r lc _ hlv hac y yr hpy (by simp only[List.length_cons] at hly hl⊢;omega)
   obtain⟨k1,n1,l1,b1,z1,x1,rfl,rfl,hz1,hxs1,hlen1,hbd1⟩:=hlv.open;repeat'(first|refine gU ?_|refine VIdx.mk _ hv ?_|refine gZ hz ?_|refine j0C rfl rfl rfl rfl hpy hrec (fun w wr hpw hlw=>?_))<;>conv=>whnf
   have hp8:=p68 hpw;refine VAgain.mk _ rfl _ (j0L (.cons (j08 hp8) (.cons (j02 rfl rfl) (.cons (j02 rfl rfl) .nil))) (.cons (j08 hp8) (.cons (j02 rfl rfl) .nil)) rfl rfl rfl rfl rfl) ⟨(i+1,w,wr),⟨hi',hpw,?_⟩,by dsimp only;omega,rfl⟩
   simp only[List.length_cons] at hly hlw⊢;omega
  ·refine j03 (G:=Nat×PV×List PV) (fun g=>[(51,iv g.1),(0,.ms 0 (g.2.2.length+1))]) (fun g=>[.row false 5 1 (g.2.1::g.2.2),_]) (fun g=>g.1≤ts.length∧(g.2.1::g.2.2).all (pur 6)=true∧(g.2.1::g.2.2).length+64*j0t (ts.drop g.1)≤(x::xr).length+58+12*j0c ls+64*j0t ts) (fun g=>ts.length-g.1) (0,y,yr) ⟨by omega,hpy,by simp only[List.drop_zero,List.length_cons] at *;omega⟩ rfl rfl ?_
   rintro⟨j,y,yr⟩ ⟨hj,hpy,hly⟩;dsimp only at hj hpy hly⊢;have hp8:=p68 hpy;repeat'(first|refine gU ?_|apply gE<;>intro h)<;>conv=>whnf
   ·have hj':j<ts.length:=by omega
    obtain⟨tc,htc⟩:∃tc,ts[j]?=some tc:=⟨_,List.getElem?_eq_getElem hj'⟩;obtain⟨v,hv,hlv⟩:=hys.at htc;have hsz:j0t (ts.drop j)=sizT tc+j0t (ts.drop (j+1)):=by rw[drop_at htc,j0t]
    have hrec:=ih _ (List.mem_of_getElem? htc) _ hlv _ (j2t hats htc) (j4M hnts htc) y yr hpy (by simp only[List.length_cons] at hly hl⊢;omega)
    obtain⟨k1,n1,s1,l1,t1,b1,z1,x1,c1,y1,ys1,rfl,rfl,hz1,hxs1,hlen1,hbd1,hy1,hys1,hlen21,hbd21,hsl1⟩:=hlv.open;repeat'(first|refine gU ?_|refine VIdx.mk _ hv ?_|refine gZ hy ?_|refine j0C rfl rfl rfl rfl hpy hrec (fun w wr hpw hlw=>?_))<;>conv=>whnf
    have hp8:=p68 hpw;refine VAgain.mk _ rfl _ (j0L (.cons (j08 hp8) (.cons (j02 rfl rfl) (.cons (j02 rfl rfl) .nil))) (.cons (j08 hp8) (.cons (j02 rfl rfl) .nil)) rfl rfl rfl rfl rfl) ⟨(j+1,w,wr),⟨hj',hpw,?_⟩,by dsimp only;omega,rfl⟩
    simp only[List.length_cons] at hly hlw⊢;omega
   ·refine j1j (.inl ⟨rfl,rfl,rfl⟩) rfl (j0L (.cons (j08 hp8) (.cons (j02 rfl rfl) .nil)) (.cons (j08 hp8) .nil) rfl rfl rfl rfl rfl) (j1a rfl) (j2L hpy ?_ rfl _ _ rfl rfl);simp only[List.length_cons] at hly⊢;omega
 ·refine j03 (G:=Nat×PV×List PV) (fun g=>[(40,iv g.1),(0,.ms 0 (g.2.2.length+1))]) (fun g=>[.row false 5 1 (g.2.1::g.2.2),_]) (fun g=>g.1≤ls.length∧(g.2.1::g.2.2).all (pur 6)=true∧(g.2.1::g.2.2).length+12*j0c (ls.drop g.1)≤(x::xr).length+58+12*j0c ls) (fun g=>ls.length-g.1) (0,z0,zr0) ⟨by omega,hp0,by simp only[List.drop_zero,List.length_cons,List.length_append] at *;omega⟩ rfl rfl ?_
  rintro⟨i,y,yr⟩ ⟨hi,hpy,hly⟩;dsimp only at hi hpy hly⊢;have hp8:=p68 hpy;repeat'(first|refine gU ?_|apply gE<;>intro h)<;>conv=>whnf
  ·have hi':i<ls.length:=by omega
   obtain⟨lc,hlc⟩:∃lc,ls[i]?=some lc:=⟨_,List.getElem?_eq_getElem hi'⟩;obtain⟨v,hv,hlv⟩:=hxs.at hlc;have hac:=j2S (j3G hrl hlc);have hsz:j0c (ls.drop i)=j0M lc+j0c (ls.drop (i+1)):=by rw[drop_at hlc,j0c]
   have hrec:=j2r lc _ hlv hac y yr hpy (by simp only[List.length_cons] at hly hl⊢;omega)
   obtain⟨k1,n1,l1,b1,z1,x1,rfl,rfl,hz1,hxs1,hlen1,hbd1⟩:=hlv.open;repeat'(first|refine gU ?_|refine VIdx.mk _ hv ?_|refine gZ hz ?_|refine j0C rfl rfl rfl rfl hpy hrec (fun w wr hpw hlw=>?_))<;>conv=>whnf
   have hp8:=p68 hpw;refine VAgain.mk _ rfl _ (j0L (.cons (j08 hp8) (.cons (j02 rfl rfl) (.cons (j02 rfl rfl) .nil))) (.cons (j08 hp8) (.cons (j02 rfl rfl) .nil)) rfl rfl rfl rfl rfl) ⟨(i+1,w,wr),⟨hi',hpw,?_⟩,by dsimp only;omega,rfl⟩
   simp only[List.length_cons] at hly hlw⊢;omega
  ·refine j03 (G:=Nat×PV×List PV) (fun g=>[(51,iv g.1),(0,.ms 0 (g.2.2.length+1))]) (fun g=>[.row false 5 1 (g.2.1::g.2.2),_]) (fun g=>g.1≤ts.length∧(g.2.1::g.2.2).all (pur 6)=true∧(g.2.1::g.2.2).length+64*j0t (ts.drop g.1)≤(x::xr).length+58+12*j0c ls+64*j0t ts) (fun g=>ts.length-g.1) (0,y,yr) ⟨by omega,hpy,by simp only[List.drop_zero,List.length_cons] at *;omega⟩ rfl rfl ?_
   rintro⟨j,y,yr⟩ ⟨hj,hpy,hly⟩;dsimp only at hj hpy hly⊢;have hp8:=p68 hpy;repeat'(first|refine gU ?_|apply gE<;>intro h)<;>conv=>whnf
   ·have hj':j<ts.length:=by omega
    obtain⟨tc,htc⟩:∃tc,ts[j]?=some tc:=⟨_,List.getElem?_eq_getElem hj'⟩;obtain⟨v,hv,hlv⟩:=hys.at htc;have hsz:j0t (ts.drop j)=sizT tc+j0t (ts.drop (j+1)):=by rw[drop_at htc,j0t]
    have hrec:=ih _ (List.mem_of_getElem? htc) _ hlv _ (j2t hats htc) (j4M hnts htc) y yr hpy (by simp only[List.length_cons] at hly hl⊢;omega)
    obtain⟨k1,n1,s1,l1,t1,b1,z1,x1,c1,y1,ys1,rfl,rfl,hz1,hxs1,hlen1,hbd1,hy1,hys1,hlen21,hbd21,hsl1⟩:=hlv.open;repeat'(first|refine gU ?_|refine VIdx.mk _ hv ?_|refine gZ hy ?_|refine j0C rfl rfl rfl rfl hpy hrec (fun w wr hpw hlw=>?_))<;>conv=>whnf
    have hp8:=p68 hpw;refine VAgain.mk _ rfl _ (j0L (.cons (j08 hp8) (.cons (j02 rfl rfl) (.cons (j02 rfl rfl) .nil))) (.cons (j08 hp8) (.cons (j02 rfl rfl) .nil)) rfl rfl rfl rfl rfl) ⟨(j+1,w,wr),⟨hj',hpw,?_⟩,by dsimp only;omega,rfl⟩
    simp only[List.length_cons] at hly hlw⊢;omega
   ·refine j1j (.inl ⟨rfl,rfl,rfl⟩) rfl (j0L (.cons (j08 hp8) (.cons (j02 rfl rfl) .nil)) (.cons (j08 hp8) .nil) rfl rfl rfl rfl rfl) (j1a rfl) (j2L hpy ?_ rfl _ _ rfl rfl);simp only[List.length_cons] at hly⊢;omega
theorem jgD(t:Tm)(v:PV)(h:TmP t v)(kk:Int)(hall:allT t 4 kk=true)(hnear:j8t t=true)(hl:64*sizT t≤100000000):Finds C1 311 [.sl true 0 [],v] [] (Put1 [] (64*sizT t)):=by
 obtain⟨k,nn,s,ls,ts⟩:=t;obtain⟨hk17,hnn,hs40,hls4,hrl,hnts⟩:=jtE hall hnear;have hats:=(j0r hall).2.2.2.2;obtain⟨_,_,_,_,_,b,z,xs,c,y,ys,⟨rfl,rfl,rfl,rfl,rfl⟩,rfl,hz,hxs,hlen,hbd,hy,hys,hlen2,hbd2,hsl⟩:=h.open;have hk:=j4m k (by omega) (by omega) true [] rfl (by simp)
 have hn:=fun h=>j4m nn (hnn h).1 (hnn h).2 true
 have hc:=j4m xs.length (by omega) (by omega) true
 obtain⟨tx,htx,htl,htp,hT⟩:=jdw s (by omega) true
 obtain⟨q,qr,rfl⟩:∃q qr,tx=q::qr:=by
  cases tx with
  |nil=>simp at htp
  |cons q qr=>exact⟨q,qr,rfl⟩
 have hcat:∀{z:PV}{zr:List PV},(z::zr).all (pur 6)=true→(z::(zr++q::qr)).all (pur 6)=true:=fun{z zr} h=>by
  rw[show z::(zr++q::qr)=(z::zr)++q::qr from rfl,List.all_append,h,htx]
  rfl
 refine j00 Tryz.func311 rfl rfl rfl ?_;simp only[sizT] at hl⊢;all_goals try conv=>whnf
 refine j1b rfl (Finds.mono hk ?_);rintro _ _ ⟨ws,rfl,rfl,hp0,hl0,hpos0⟩;obtain⟨z0,zr0,rfl⟩:∃z0 zr0,ws=z0::zr0:=by
  cases ws with
  |nil=>simp at hpos0
  |cons z zr=>exact⟨z,zr,rfl⟩
 have hp8:=p68 hp0;have hl0:(z0::zr0).length≤6:=by simpa using hl0
 refine⟨rfl,?_⟩;refine j4d (.cons (j0l hp8) .nil) rfl ?_;repeat'(first|refine gU ?_|apply gE<;>intro h|refine j0C (i:=1) (n:=zr0.length+1) (y:=z0) (yr:=zr0) rfl rfl rfl rfl hp0 (hn (by omega) _ hp0 (by omega)) (fun z1 zr1 hp1 hl1=>?_)|refine gX hT ?_|refine VOk.mk (j1h (w:=1) (r:=140737488355328) (by simp:(z0::zr0).length=zr0.length+1) rfl rfl rfl rfl (by simp only[List.length_cons] at *;omega) (by simp only[List.length_cons] at *;omega)) ?_|refine j0C (i:=1) (n:=zr0.length+1+(q::qr).length) (y:=z0) (yr:=zr0++q::qr) rfl rfl (by simp;omega) rfl (hcat hp0) (hc _ (hcat hp0) (by simp only[List.length_cons,List.length_append] at *;omega)) (fun z2 zr2 hp2 hl2=>?_))<;>conv=>whnf
 ·refine j03 (G:=Nat×PV×List PV) (fun g=>[(40,iv g.1),(0,.ms 1 (g.2.2.length+1))]) (fun g=>[_,.row false 5 1 (g.2.1::g.2.2)]) (fun g=>g.1≤ls.length∧(g.2.1::g.2.2).all (pur 6)=true∧(g.2.1::g.2.2).length+12*j0c (ls.drop g.1)≤58+12*j0c ls) (fun g=>ls.length-g.1) (0,z1,zr1) ⟨by omega,hp1,by simp only[List.drop_zero,List.length_cons,List.length_append] at *;omega⟩ rfl rfl ?_
  rintro⟨i,y,yr⟩ ⟨hi,hpy,hly⟩;dsimp only at hi hpy hly⊢;have hp8:=p68 hpy;repeat'(first|refine gU ?_|apply gE<;>intro h)<;>conv=>whnf
  ·have hi':i<ls.length:=by omega
   obtain⟨lc,hlc⟩:∃lc,ls[i]?=some lc:=⟨_,List.getElem?_eq_getElem hi'⟩;obtain⟨v,hv,hlv⟩:=hxs.at hlc;have hac:=j2S (j3G hrl hlc);have hsz:j0c (ls.drop i)=j0M lc+j0c (ls.drop (i+1)):=by rw[drop_at hlc,j0c]
   have hrec:=j2r lc _ hlv hac y yr hpy (by simp only[List.length_cons] at hly hl⊢;omega)
   obtain⟨k1,n1,l1,b1,z1,x1,rfl,rfl,hz1,hxs1,hlen1,hbd1⟩:=hlv.open;repeat'(first|refine gU ?_|refine VIdx.mk _ hv ?_|refine gZ hz ?_|refine j0C rfl rfl rfl rfl hpy hrec (fun w wr hpw hlw=>?_))<;>conv=>whnf
   have hp8:=p68 hpw;refine VAgain.mk _ rfl _ (j0L (.cons (j02 rfl rfl) (.cons (j08 hp8) (.cons (j02 rfl rfl) .nil))) (.cons (j02 rfl rfl) (.cons (j08 hp8) .nil)) rfl rfl rfl rfl rfl) ⟨(i+1,w,wr),⟨hi',hpw,?_⟩,by dsimp only;omega,rfl⟩
   simp only[List.length_cons] at hly hlw⊢;omega
  ·refine j03 (G:=Nat×PV×List PV) (fun g=>[(51,iv g.1),(0,.ms 1 (g.2.2.length+1))]) (fun g=>[_,.row false 5 1 (g.2.1::g.2.2)]) (fun g=>g.1≤ts.length∧(g.2.1::g.2.2).all (pur 6)=true∧(g.2.1::g.2.2).length+64*j0t (ts.drop g.1)≤58+12*j0c ls+64*j0t ts) (fun g=>ts.length-g.1) (0,y,yr) ⟨by omega,hpy,by simp only[List.drop_zero,List.length_cons] at *;omega⟩ rfl rfl ?_
   rintro⟨j,y,yr⟩ ⟨hj,hpy,hly⟩;dsimp only at hj hpy hly⊢;have hp8:=p68 hpy;repeat'(first|refine gU ?_|apply gE<;>intro h)<;>conv=>whnf
   ·have hj':j<ts.length:=by omega
    obtain⟨tc,htc⟩:∃tc,ts[j]?=some tc:=⟨_,List.getElem?_eq_getElem hj'⟩;obtain⟨v,hv,hlv⟩:=hys.at htc;have hsz:j0t (ts.drop j)=sizT tc+j0t (ts.drop (j+1)):=by rw[drop_at htc,j0t]
    have hrec:=j7D tc _ hlv _ (j2t hats htc) (j4M hnts htc) y yr hpy (by simp only[List.length_cons] at hly hl⊢;omega)
    obtain⟨k1,n1,s1,l1,t1,b1,z1,x1,c1,y1,ys1,rfl,rfl,hz1,hxs1,hlen1,hbd1,hy1,hys1,hlen21,hbd21,hsl1⟩:=hlv.open;repeat'(first|refine gU ?_|refine VIdx.mk _ hv ?_|refine gZ hy ?_|refine j0C rfl rfl rfl rfl hpy hrec (fun w wr hpw hlw=>?_))<;>conv=>whnf
    have hp8:=p68 hpw;refine VAgain.mk _ rfl _ (j0L (.cons (j02 rfl rfl) (.cons (j08 hp8) (.cons (j02 rfl rfl) .nil))) (.cons (j02 rfl rfl) (.cons (j08 hp8) .nil)) rfl rfl rfl rfl rfl) ⟨(j+1,w,wr),⟨hj',hpw,?_⟩,by dsimp only;omega,rfl⟩
    simp only[List.length_cons] at hly hlw⊢;omega
   ·refine j1j (.inl ⟨rfl,rfl,rfl⟩) rfl (j0L (.cons (j02 rfl rfl) (.cons (j08 hp8) .nil)) (.cons j0i (.cons (j08 hp8) .nil)) rfl rfl rfl rfl rfl) (j2U (.cons j2Y (.cons (j0l hp8) .nil)) rfl rfl rfl rfl) (j2L hpy ?_ rfl _ _ rfl rfl);simp only[List.length_cons] at hly⊢;omega
 ·refine j03 (G:=Nat×PV×List PV) (fun g=>[(40,iv g.1),(0,.ms 1 (g.2.2.length+1))]) (fun g=>[_,.row false 5 1 (g.2.1::g.2.2)]) (fun g=>g.1≤ls.length∧(g.2.1::g.2.2).all (pur 6)=true∧(g.2.1::g.2.2).length+12*j0c (ls.drop g.1)≤58+12*j0c ls) (fun g=>ls.length-g.1) (0,z2,zr2) ⟨by omega,hp2,by simp only[List.drop_zero,List.length_cons,List.length_append] at *;omega⟩ rfl rfl ?_
  rintro⟨i,y,yr⟩ ⟨hi,hpy,hly⟩;dsimp only at hi hpy hly⊢;have hp8:=p68 hpy;repeat'(first|refine gU ?_|apply gE<;>intro h)<;>conv=>whnf
  ·have hi':i<ls.length:=by omega
   obtain⟨lc,hlc⟩:∃lc,ls[i]?=some lc:=⟨_,List.getElem?_eq_getElem hi'⟩;obtain⟨v,hv,hlv⟩:=hxs.at hlc;have hac:=j2S (j3G hrl hlc);have hsz:j0c (ls.drop i)=j0M lc+j0c (ls.drop (i+1)):=by rw[drop_at hlc,j0c]
   have hrec:=j2r lc _ hlv hac y yr hpy (by simp only[List.length_cons] at hly hl⊢;omega)
   obtain⟨k1,n1,l1,b1,z1,x1,rfl,rfl,hz1,hxs1,hlen1,hbd1⟩:=hlv.open;repeat'(first|refine gU ?_|refine VIdx.mk _ hv ?_|refine gZ hz ?_|refine j0C rfl rfl rfl rfl hpy hrec (fun w wr hpw hlw=>?_))<;>conv=>whnf
   have hp8:=p68 hpw;refine VAgain.mk _ rfl _ (j0L (.cons (j02 rfl rfl) (.cons (j08 hp8) (.cons (j02 rfl rfl) .nil))) (.cons (j02 rfl rfl) (.cons (j08 hp8) .nil)) rfl rfl rfl rfl rfl) ⟨(i+1,w,wr),⟨hi',hpw,?_⟩,by dsimp only;omega,rfl⟩
   simp only[List.length_cons] at hly hlw⊢;omega
  ·refine j03 (G:=Nat×PV×List PV) (fun g=>[(51,iv g.1),(0,.ms 1 (g.2.2.length+1))]) (fun g=>[_,.row false 5 1 (g.2.1::g.2.2)]) (fun g=>g.1≤ts.length∧(g.2.1::g.2.2).all (pur 6)=true∧(g.2.1::g.2.2).length+64*j0t (ts.drop g.1)≤58+12*j0c ls+64*j0t ts) (fun g=>ts.length-g.1) (0,y,yr) ⟨by omega,hpy,by simp only[List.drop_zero,List.length_cons] at *;omega⟩ rfl rfl ?_
   rintro⟨j,y,yr⟩ ⟨hj,hpy,hly⟩;dsimp only at hj hpy hly⊢;have hp8:=p68 hpy;repeat'(first|refine gU ?_|apply gE<;>intro h)<;>conv=>whnf
   ·have hj':j<ts.length:=by omega
    obtain⟨tc,htc⟩:∃tc,ts[j]?=some tc:=⟨_,List.getElem?_eq_getElem hj'⟩;obtain⟨v,hv,hlv⟩:=hys.at htc;have hsz:j0t (ts.drop j)=sizT tc+j0t (ts.drop (j+1)):=by rw[drop_at htc,j0t]
    have hrec:=j7D tc _ hlv _ (j2t hats htc) (j4M hnts htc) y yr hpy (by simp only[List.length_cons] at hly hl⊢;omega)
    obtain⟨k1,n1,s1,l1,t1,b1,z1,x1,c1,y1,ys1,rfl,rfl,hz1,hxs1,hlen1,hbd1,hy1,hys1,hlen21,hbd21,hsl1⟩:=hlv.open;repeat'(first|refine gU ?_|refine VIdx.mk _ hv ?_|refine gZ hy ?_|refine j0C rfl rfl rfl rfl hpy hrec (fun w wr hpw hlw=>?_))<;>conv=>whnf
    have hp8:=p68 hpw;refine VAgain.mk _ rfl _ (j0L (.cons (j02 rfl rfl) (.cons (j08 hp8) (.cons (j02 rfl rfl) .nil))) (.cons (j02 rfl rfl) (.cons (j08 hp8) .nil)) rfl rfl rfl rfl rfl) ⟨(j+1,w,wr),⟨hj',hpw,?_⟩,by dsimp only;omega,rfl⟩
    simp only[List.length_cons] at hly hlw⊢;omega
   ·refine j1j (.inl ⟨rfl,rfl,rfl⟩) rfl (j0L (.cons (j02 rfl rfl) (.cons (j08 hp8) .nil)) (.cons j0i (.cons (j08 hp8) .nil)) rfl rfl rfl rfl rfl) (j2U (.cons j2Y (.cons (j0l hp8) .nil)) rfl rfl rfl rfl) (j2L hpy ?_ rfl _ _ rfl rfl);simp only[List.length_cons] at hly⊢;omega
 ·refine j03 (G:=Nat×PV×List PV) (fun g=>[(40,iv g.1),(0,.ms 1 (g.2.2.length+1))]) (fun g=>[_,.row false 5 1 (g.2.1::g.2.2)]) (fun g=>g.1≤ls.length∧(g.2.1::g.2.2).all (pur 6)=true∧(g.2.1::g.2.2).length+12*j0c (ls.drop g.1)≤58+12*j0c ls) (fun g=>ls.length-g.1) (0,z0,zr0) ⟨by omega,hp0,by simp only[List.drop_zero,List.length_cons,List.length_append] at *;omega⟩ rfl rfl ?_
  rintro⟨i,y,yr⟩ ⟨hi,hpy,hly⟩;dsimp only at hi hpy hly⊢;have hp8:=p68 hpy;repeat'(first|refine gU ?_|apply gE<;>intro h)<;>conv=>whnf
  ·have hi':i<ls.length:=by omega
   obtain⟨lc,hlc⟩:∃lc,ls[i]?=some lc:=⟨_,List.getElem?_eq_getElem hi'⟩;obtain⟨v,hv,hlv⟩:=hxs.at hlc;have hac:=j2S (j3G hrl hlc);have hsz:j0c (ls.drop i)=j0M lc+j0c (ls.drop (i+1)):=by rw[drop_at hlc,j0c]
   have hrec:=j2r lc _ hlv hac y yr hpy (by simp only[List.length_cons] at hly hl⊢;omega)
   obtain⟨k1,n1,l1,b1,z1,x1,rfl,rfl,hz1,hxs1,hlen1,hbd1⟩:=hlv.open;repeat'(first|refine gU ?_|refine VIdx.mk _ hv ?_|refine gZ hz ?_|refine j0C rfl rfl rfl rfl hpy hrec (fun w wr hpw hlw=>?_))<;>conv=>whnf
   have hp8:=p68 hpw;refine VAgain.mk _ rfl _ (j0L (.cons (j02 rfl rfl) (.cons (j08 hp8) (.cons (j02 rfl rfl) .nil))) (.cons (j02 rfl rfl) (.cons (j08 hp8) .nil)) rfl rfl rfl rfl rfl) ⟨(i+1,w,wr),⟨hi',hpw,?_⟩,by dsimp only;omega,rfl⟩
   simp only[List.length_cons] at hly hlw⊢;omega
  ·refine j03 (G:=Nat×PV×List PV) (fun g=>[(51,iv g.1),(0,.ms 1 (g.2.2.length+1))]) (fun g=>[_,.row false 5 1 (g.2.1::g.2.2)]) (fun g=>g.1≤ts.length∧(g.2.1::g.2.2).all (pur 6)=true∧(g.2.1::g.2.2).length+64*j0t (ts.drop g.1)≤58+12*j0c ls+64*j0t ts) (fun g=>ts.length-g.1) (0,y,yr) ⟨by omega,hpy,by simp only[List.drop_zero,List.length_cons] at *;omega⟩ rfl rfl ?_
   rintro⟨j,y,yr⟩ ⟨hj,hpy,hly⟩;dsimp only at hj hpy hly⊢;have hp8:=p68 hpy;repeat'(first|refine gU ?_|apply gE<;>intro h)<;>conv=>whnf
   ·have hj':j<ts.length:=by omega
    obtain⟨tc,htc⟩:∃tc,ts[j]?=some tc:=⟨_,List.getElem?_eq_getElem hj'⟩;obtain⟨v,hv,hlv⟩:=hys.at htc;have hsz:j0t (ts.drop j)=sizT tc+j0t (ts.drop (j+1)):=by rw[drop_at htc,j0t]
    have hrec:=j7D tc _ hlv _ (j2t hats htc) (j4M hnts htc) y yr hpy (by simp only[List.length_cons] at hly hl⊢;omega)
    obtain⟨k1,n1,s1,l1,t1,b1,z1,x1,c1,y1,ys1,rfl,rfl,hz1,hxs1,hlen1,hbd1,hy1,hys1,hlen21,hbd21,hsl1⟩:=hlv.open;repeat'(first|refine gU ?_|refine VIdx.mk _ hv ?_|refine gZ hy ?_|refine j0C rfl rfl rfl rfl hpy hrec (fun w wr hpw hlw=>?_))<;>conv=>whnf
    have hp8:=p68 hpw;refine VAgain.mk _ rfl _ (j0L (.cons (j02 rfl rfl) (.cons (j08 hp8) (.cons (j02 rfl rfl) .nil))) (.cons (j02 rfl rfl) (.cons (j08 hp8) .nil)) rfl rfl rfl rfl rfl) ⟨(j+1,w,wr),⟨hj',hpw,?_⟩,by dsimp only;omega,rfl⟩
    simp only[List.length_cons] at hly hlw⊢;omega
   ·refine j1j (.inl ⟨rfl,rfl,rfl⟩) rfl (j0L (.cons (j02 rfl rfl) (.cons (j08 hp8) .nil)) (.cons j0i (.cons (j08 hp8) .nil)) rfl rfl rfl rfl rfl) (j2U (.cons j2Y (.cons (j0l hp8) .nil)) rfl rfl rfl rfl) (j2L hpy ?_ rfl _ _ rfl rfl);simp only[List.length_cons] at hly⊢;omega
open Go Go.Am Go.Gw
theorem jnr(f:FuncId)(cs:List PV)(hcl:callable C1.P f=true)(hcs:cs.all (pur 8)=true)(p:Tm→Bool)(ts:List Tm)(hf:∀t∈ts,∀v,TmP t v→Pf C1 f (v::cs) [bv (p t)])(b:Bool)(z:Nat)(xs:List PV)(hz:z=5∨xs=[])(hxs:TmsP ts xs)(hbd:ts.length≤1759218604441):Pf C1 254 [.sl b z xs,.fn f [] cs] [iv (idxT p ts 0)]:=by
 have hlen:=hxs.len;refine j00 Tryz.func254 rfl rfl rfl ?_;all_goals try conv=>whnf
 refine j03 (G:=Nat) (fun i=>[(8,iv i)]) (fun _=>_) (fun i=>i≤ts.length∧idxT p (ts.drop i) i=idxT p ts 0) (fun i=>ts.length-i) 0 ⟨by omega,rfl⟩ rfl rfl ?_
 rintro i ⟨hi,hall⟩;dsimp only at hi hall⊢;repeat'(first|refine gU ?_|apply gE<;>intro h)<;>conv=>whnf
 ·have hi':i<ts.length:=by omega
  obtain⟨tc,htc⟩:∃tc,ts[i]?=some tc:=⟨_,List.getElem?_eq_getElem hi'⟩;obtain⟨v,hv,hl⟩:=hxs.at htc;have hw:=hf _ (List.mem_of_getElem? htc) v hl;obtain⟨k1,n1,s1,l1,t1,b1,z1,x1,c1,y1,ys1,rfl,rfl,hz1,hxs1,hlen1,hbd1,hy1,hys1,hlen21,hbd21,hsl1⟩:=hl.open;rw[drop_at htc,idxT] at hall;repeat'(first|refine VIdx.mk _ hv ?_|refine gZ hz ?_)<;>conv=>whnf
  simp only[hcl];refine jfa hw ?_ rfl ?_
  ·show(true&&cs.all (pur 8))=true
   rw[hcs];rfl
  repeat'(first|refine gU ?_|apply gM<;>intro h)<;>conv=>whnf
  ·have hp:p (.mk k1 n1 s1 l1 t1)=true:=by assumption
   rw[if_pos hp] at hall;rw[←hall]
  ·have hp:p (.mk k1 n1 s1 l1 t1)=false:=by assumption
   rw[if_neg (by simp[hp])] at hall
   exact VAgain.mk _ rfl _ (j0X rfl) ⟨i+1,⟨hi',hall⟩,by omega,rfl⟩
 ·rw[List.drop_of_length_le (by omega),idxT] at hall
  rw[←hall]
theorem jfu(f:FuncId)(cs:List PV)(hcl:callable C1.P f=true)(hcs:cs.all (pur 7)=true)(hcs8:cs.all (pur 8)=true)(p:Tm→Bool)(ts:List Tm)(hf:∀t∈ts,∀v,TmP t v→Pf C1 f (v::cs) [bv (p t)])(b:Bool)(z:Nat)(xs:List PV)(hz:z=5∨xs=[])(hxs:TmsP ts xs)(hbd:ts.length≤1759218604441):Pf C1 197 [.sl b z xs,.fn f [] cs] [bv (ts.any p)]:=by
 have hi:=jnr f cs hcl hcs8 p ts hf b z xs hz hxs hbd;refine j00 Tryz.func197 rfl rfl rfl ?_;all_goals try conv=>whnf
 refine jfa hi ?_ rfl ?_
 ·show(true&&((true&&cs.all (pur 7))&&true))=true
  rw[hcs];rfl
 repeat'(refine gU ?_)<;>conv=>whnf
 rw[←jef p ts 0]
theorem jda:∀(ts:List Tm),jbq ts = !ts.any fun t=>!j8t t
 |[]=>rfl
 |t::r=>by
  rw[jbq,List.any_cons,jda r];cases j8t t<;>simp
theorem jqc(t:Tm):∀v,TmP t v→Pf C1 337 [v] [bv (j8t t)]:=by
 induction t using Tm.ind with
 |_ k nn s ls ts ih=>
 intro v h;obtain⟨_,_,_,_,_,b,z,xs,c,y,ys,⟨rfl,rfl,rfl,rfl,rfl⟩,rfl,hz,hxs,hlen,hbd,hy,hys,hlen2,hbd2,hsl⟩:=h.open;have h1:∀t∈ts,∀v,TmP t v→Pf C1 362 [v] [bv (!j8t t)]:=fun t ht v hv=>by
  have hr:=ih t ht v hv;obtain⟨k1,n1,s1,l1,t1,b1,z1,x1,c1,y1,ys1,rfl,rfl,-⟩:=hv.open;refine j00 Tryz.func362 rfl rfl rfl ?_;repeat'(first|refine gU ?_|refine gX hr ?_)<;>conv=>whnf
 have ha:=jfu 362 [] rfl rfl rfl (fun t=>!j8t t) ts h1 c y ys hy hys hbd2
 have e:=jda ts;refine j00 Tryz.func337 rfl rfl rfl ?_;repeat'(first|refine gU ?_|apply gE<;>intro h|refine gX ha ?_)<;>conv=>whnf
 all_goals
  refine j2g ?_;simp only[j8t];first
   |(simp_all;done)
   |(simp_all;intro;omega)
   |(simp_all;omega)
def jbs(t:Tm):Bool:=j0w t 4 1099511627776&&j8t t
theorem jeG(t:Tm)(v:PV)(h:TmP t v):Pf C1 310 [v] [bv (jbs t)]:=by
 have hr:=j0I t v h 4 1099511627776;have hn:=jqc t v h;have e:jbs t=(j0w t 4 1099511627776&&j8t t):=rfl;obtain⟨k1,n1,s1,l1,t1,b1,z1,x1,c1,y1,ys1,rfl,rfl,-⟩:=h.open;refine j00 Tryz.func310 rfl rfl rfl ?_;repeat'(first|refine gU ?_|apply gM<;>intro h|refine gX hr ?_|refine gX hn ?_)<;>conv=>whnf
 all_goals
  refine j2g ?_
  simp_all
theorem j6t(t:Tm)(v:PV)(h:TmP t v):∃b z ys,Pf C1 275 [v] [.sl b z ys,bv (jbs t)]:=by
 have hr:=jeG t v h;cases he:jbs t with
 |false=>
  refine⟨true,0,[],?_⟩;rw[he] at hr;obtain⟨k1,n1,s1,l1,t1,b1,z1,x1,c1,y1,ys1,rfl,rfl,-⟩:=h.open;refine j00 Tryz.func275 rfl rfl rfl ?_;repeat'(first|refine gU ?_|refine gX hr ?_)<;>conv=>whnf
  all_goals rfl
 |true=>
  have he':=he;unfold jbs at he';rw[Bool.and_eq_true] at he';simp only[j0w,Bool.and_eq_true,decide_eq_true_eq] at he';obtain⟨⟨-,-,-,hnd,hall⟩,hnear⟩:=he';have hsz:sizT t≤2000:=by rw[j2A] at hnd;omega
  obtain⟨r,st,⟨ys,rfl,rfl,hp,hl,hpos⟩,N,hN⟩:=jgD t v h _ hall hnear (by omega)
  have hf:Finds C1 311 [.sl true 0 [],v] [] fun r st=>r=.ret [bufP ys]∧st=bufS ys:=⟨_,_,⟨rfl,rfl⟩,N,hN⟩
  clear hN;refine⟨false,1,ys,?_⟩;obtain⟨y,yr,rfl⟩:∃y yr,ys=y::yr:=by
   cases ys with
   |nil=>simp at hpos
   |cons y yr=>exact⟨y,yr,rfl⟩
  have hp8:=p68 hp;rw[he] at hr;obtain⟨k1,n1,s1,l1,t1,b1,z1,x1,c1,y1,ys1,rfl,rfl,-⟩:=h.open;refine j00 Tryz.func275 rfl rfl rfl ?_;repeat'(first|refine gU ?_|refine gX hr ?_)<;>conv=>whnf
  refine j1b rfl (Finds.mono hf ?_);rintro _ _ ⟨rfl,rfl⟩;refine⟨rfl,?_⟩;refine j4d (.cons (j0l hp8) .nil) rfl ?_;all_goals try conv=>whnf
  exact j0n rfl (j04 (j0D (i:=1) (len:=yr.length+1) rfl (by simp) hp) (j04 rfl j0m)) rfl rfl
end Go.Proofs.YtbnodhcijeaceaaGreatDoor
