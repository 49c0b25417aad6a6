/- Terms stay right in their contexts: lifted, put in, at levels. -/
import Derived.Test.YtbnodhcijeaceaaGreatDoorZQd
set_option linter.all false
set_option maxHeartbeats 1000000
set_option maxRecDepth 100000
namespace Go.Proofs.YtbnodhcijeaceaaGreatDoor
open Go Go.Am Go.Gw
section
variable{put:Tm→Int→Option Tm}{J K:Int}
mutual
theorem jnd(hput:∀t d x,allT t 4 (J+d)=true→0≤d→put t d=some x→allT x 4 (K+d)=true)(hnone:∀n d,0≤d→allT (.mk 1 n [] [] []) 4 (J+d)=true→put (.mk 1 n [] [] []) d=none→allT (.mk 1 n [] [] []) 4 (K+d)=true):∀(t:Tm) (d left:Int),allT t 4 (J+d)=true→0≤d→-2001≤left→0≤(bldF put t d left).2→allT (bldF put t d left).1 4 (K+d)=true
 | .mk k n s ls ts,d,left,ha,hd,hl,h=>by
  obtain⟨hk,hlen,hnd,hls,hts⟩:=j0g ha;obtain⟨ha1,ha2⟩:=j5r ha;rw[bldF] at h ⊢
  by_cases h0:left<0
  ·rw[j3H h0] at h;dsimp only at h;omega
  cases hp:put (.mk k n s ls ts) d with
  |some x=>
   rw[j4q h0 hp];exact hput _ _ _ ha hd hp
  |none=>
   by_cases h4:4≤k
   ·rw[j3q h0 hp (ha2 h4)] at h⊢;obtain⟨rfl,rfl,rfl⟩:=j3R hnd h4;have hr:=jjz hput hnone ts k 0 d (left-1) hts hd (by omega) h
    exact j1L hk (by rw[hr.2];exact hlen) (j3y hnd (show ¬k=1 by omega)) hls hr.1
   ·obtain rfl:=ha1 (by omega)
    rw[j3p h0 hp rfl]
    by_cases h1:k=1
    ·subst h1;obtain⟨rfl,rfl⟩:=j3S hnd rfl;exact hnone _ _ hd ha hp
    ·exact j1L hk hlen (j3y hnd h1) hls (by simp[j0z])
theorem jjz(hput:∀t d x,allT t 4 (J+d)=true→0≤d→put t d=some x→allT x 4 (K+d)=true)(hnone:∀n d,0≤d→allT (.mk 1 n [] [] []) 4 (J+d)=true→put (.mk 1 n [] [] []) d=none→allT (.mk 1 n [] [] []) 4 (K+d)=true):∀(ts:List Tm) (k i d left:Int),j0z ts k i 4 (J+d)=true→0≤d→-2001≤left→0≤(j1m put ts k i d left).2→j0z (j1m put ts k i d left).1 k i 4 (K+d)=true∧(j1m put ts k i d left).1.length=ts.length
 |[],k,i,d,left,ha,hd,hl,h=>by simp[j1m,j0z]
 |t::r,k,i,d,left,ha,hd,hl,h=>by
  simp only[j0z,Bool.and_eq_true] at ha;simp only[j1m] at h⊢;have hi:=j1Y (j08 k) i d;have h1:=j3o put t (j0a (j08 k) i d) left hl;have h2:=j9r put r k (i+1) d (bldF put t (j0a (j08 k) i d) left).2 h1.1;have ht:=ha.1;rw[show J+d=d+J by omega,j4e,show j0a (j08 k) i d+J=J+j0a (j08 k) i d by omega] at ht
  have g1:=jnd hput hnone t (j0a (j08 k) i d) left ht (by omega) hl (by omega)
  obtain⟨g2,g3⟩:=jjz hput hnone r k (i+1) d _ ha.2 hd h1.1 h;refine⟨?_,by rw[List.length_cons,List.length_cons,g3]⟩
  simp only[j0z,Bool.and_eq_true];refine⟨?_,g2⟩;rw[show K+d=d+K by omega,j4e,show j0a (j08 k) i d+K=K+j0a (j08 k) i d by omega]
  exact g1
end
theorem jkn(hput:∀t d x,allT t 4 (J+d)=true→0≤d→put t d=some x→allT x 4 (K+d)=true)(hnone:∀n d,0≤d→allT (.mk 1 n [] [] []) 4 (J+d)=true→put (.mk 1 n [] [] []) d=none→allT (.mk 1 n [] [] []) 4 (K+d)=true){t x:Tm}(ht:allT t 4 J=true)(h:j2O put t=some x):allT x 4 K=true:=by
 unfold j2O at h;split at h
 ·cases h
 ·rename_i hn;cases h;have:=jnd hput hnone t 0 2000 (by simpa using ht) (by omega) (by omega) (by omega)
  simpa using this
end
variable{b k kk n p:Int}{bys ls:List Lv}{ts:List Tm}{s:List UInt8}{l:Lv}{t u x:Tm}
theorem jsG(hk:0≤k)(hb:0≤b)(ht:allT t 4 k=true)(h:j2O (movF b 0) t=some x):allT x 4 (k+b)=true:=by
 refine jkn (J:=k) (K:=k+b) (fun t d x ha hd hp=>?_) (fun n d hd ha hp=>?_) ht h
 ·obtain⟨k1,n,s,ls,ts⟩:=t;unfold movF at hp;split at hp
  ·rename_i hc;cases hp;have e:k1=1:=hc.1;subst e;obtain⟨-,-,hnd,-,-⟩:=j0g ha;have hv:=j0U hnd rfl;have hn:¬n<0+d:=hc.2;exact j2H (show 0≤n+b by omega) (show n+b<_ by omega)
  ·cases hp
 ·unfold movF at hp;split at hp
  ·cases hp
  ·rename_i hc;obtain⟨-,-,hnd,-,-⟩:=j0g ha;have hv:=j0U hnd rfl;have hn:n<0+d:=by
    by_cases hq:n<0+d
    ·exact hq
    ·exact absurd ⟨rfl,hq⟩ hc
   exact j2H hv.1 (by omega)
theorem jmO(hk:0≤k)(ht:allT t 4 k=true)(h:j6a t b 0=some x):allT x 4 (k+b)=true:=by
 obtain⟨-,h1,-,h2⟩:=j7E h;exact jsG hk h1.1 ht h2
theorem jpc{d:Int}(hk:0≤k)(hd:0≤d)(hu:allT u 4 k=true)(hs:sizT u≤2000):allT (j3e u d) 4 (k+d)=true:=by
 have e:j2O (movF d 0) u=some (plF (movF d 0) u 0):=jko (fun t e x h=>by
  unfold movF at h;split at h
  ·cases h;have:=j7k t;simp only[sizT,j09,j0B];omega
  ·cases h) hs
 unfold j3e;rw[e];exact jsG hk hd hu e
theorem jaX(hk:0≤k)(ht:allT t 4 (k+1)=true)(hu:allT u 4 k=true)(hs:sizT u≤2000)(h:InstF t [u]=some x):allT x 4 k=true:=by
 obtain⟨-,-,-,h2⟩:=j7D h;refine jkn (J:=k+1) (K:=k) (fun t d x ha hd hp=>?_) (fun n d hd ha hp=>?_) ht h2
 ·obtain⟨k1,n,s,ls,ts⟩:=t;unfold insF at hp;split at hp
  ·rename_i hc;cases hp;have e:k1=1:=hc.1;subst e;obtain⟨-,-,hnd,-,-⟩:=j0g ha;have hv:=j0U hnd rfl;have hn:¬n-d<0:=hc.2;split
   ·rename_i h1;have h1:(1:Int)≤n-d:=by simpa[Tm.num] using h1
    exact j2H (show 0≤n-_ by simp;omega) (show n-_<_ by simp;omega)
   ·rename_i h1;have h1:¬(1:Int)≤n-d:=by simpa[Tm.num] using h1
    have e0:(([u]:List Tm).length:Int)-1-(n-d)=0:=by simp;omega
    rw[show(Tm.mk 1 n s ls ts).num=n from rfl,e0]
    exact jpc hk hd hu hs
  ·cases hp
 ·unfold insF at hp;split at hp
  ·cases hp
  ·rename_i hc;obtain⟨-,-,hnd,-,-⟩:=j0g ha;have hv:=j0U hnd rfl;have hn:n-d<0:=by
    by_cases hq:n-d<0
    ·exact hq
    ·exact absurd ⟨rfl,hq⟩ hc
   exact j2H hv.1 (by omega)
theorem jb9:∀{bys:List Lv},j5t bys=true→∀b∈bys,j0m b 4=true
 |a::r,h,b,hb=>by
  rw[j5t,Bool.and_eq_true] at h;rcases List.mem_cons.1 hb with rfl|hb
  ·exact h.1
  ·exact jb9 h.2 b hb
theorem j6E(h:j0m l p=true):(0≤p∧p≤4)∧j0J l≤64∧allF l p=true:=by
 simp only[j0m,Bool.and_eq_true,decide_eq_true_eq] at h;obtain⟨h1,h2,h3,h4⟩:=h;rw[j4g] at h3;exact⟨⟨h1,h2⟩,by omega,h4⟩
theorem jpr(h1:j0J l≤64)(h2:allF l 4=true):j0m l 4=true:=by
 simp only[j0m,Bool.and_eq_true,decide_eq_true_eq];exact⟨by omega,by omega,by rw[j4g];omega,h2⟩
mutual
theorem jk7{bys:List Lv}(hb:∀b∈bys,j0m b 4=true):∀(l:Lv),allF l bys.length=true→(j0J (j2F l bys):Int)≤j3F l bys∧allF (j2F l bys) 4=true
 | .mk k n ls,h=>by
  rw[allF,Bool.and_eq_true] at h
  by_cases hk:k=2
  ·subst hk;have hn:0≤n∧n<bys.length:=by
    have:=h.1;rw[j8N] at this;split at this
    ·simpa using this
    ·cases this
   have hm:bys.getD n.toNat (.mk 0 0 [])∈bys:=List.mem_of_getElem? (show bys[n.toNat]?=some (bys.getD n.toNat (.mk 0 0 [])) by rw[List.getD_eq_getElem?_getD,List.getElem?_eq_getElem (by omega)];rfl)
   obtain⟨-,h1,h2⟩:=j6E (hb _ hm);rw[jbG,jdn,j4g];exact⟨by omega,h2⟩
  ·obtain⟨h1,h2⟩:=jgX hb ls h.2;rw[jeL hk,jgS hk,←j4R];have hl:=j8E ls bys;refine⟨by simp only[j0J];omega,?_⟩
   rw[allF,Bool.and_eq_true];refine⟨?_,h2⟩;have:=h.1;rw[j8N] at this⊢;rw[hl];split at this
   ·rename_i hw;rw[if_pos hw];simp only[if_neg hk] at this⊢;exact this
   ·cases this
theorem jgX{bys:List Lv}(hb:∀b∈bys,j0m b 4=true):∀(ls:List Lv),j2T ls bys.length=true→(j09 (j5W ls bys):Int)≤j1N ls bys∧j2T (j5W ls bys) 4=true
 |[],h=>by simp[j5W,j09,j1N,j2T]
 |l::r,h=>by
  rw[j2T,Bool.and_eq_true] at h;obtain⟨h1,h2⟩:=jk7 hb l h.1;obtain⟨h3,h4⟩:=jgX hb r h.2;simp only[j5W,j09,j1N,j2T,Bool.and_eq_true];exact⟨by omega,h2,h4⟩
end
theorem jq9{x:Lv}(h:Go.Gw.InstF l bys=some x):j0m x 4=true:=by
 unfold Go.Gw.InstF at h;split at h
 ·rename_i h1;split at h
  ·rename_i h2;split at h
   ·rename_i h3;cases h;obtain⟨a1,a2⟩:=jk7 (jb9 h2) l (j6E h1).2.2;exact jpr (by omega) a2
   ·cases h
  ·cases h
 ·cases h
theorem jgY{bys:List Lv}:∀{ls ls':List Lv},j1w ls bys=some ls'→j1c ls' 4=true∧ls'.length=ls.length
 |[],ls',h=>by
  simp only[j1w,Option.some.injEq] at h;subst h;simp[j1c]
 |l::r,ls',h=>by
  rw[j1w] at h;cases h1:Go.Gw.InstF l bys with
  |none=>rw[h1] at h;cases h
  |some x=>
   rw[h1] at h;dsimp only at h;obtain⟨ys,hy,rfl⟩:=Option.map_eq_some_iff.1 h;obtain⟨a1,a2⟩:=jgY hy;simp only[j1c,Bool.and_eq_true,List.length_cons];exact⟨⟨jq9 h1,a1⟩,by omega⟩
theorem jrd{ls':List Lv}{ts':List Tm}(h:j2g (.mk k n s ls ts) kk=true)(hl:ls'.length=ls.length):j2g (.mk k n s ls' ts') kk=true:=by
 simp only[j2g,hl] at h⊢;exact h
mutual
theorem jsz{bys:List Lv}{p:Int}:∀(t x:Tm) (kk:Int),allT t p kk=true→lvT t bys=some x→allT x 4 kk=true
 | .mk k n s ls ts,x,kk,ha,h=>by
  obtain⟨hk,hlen,hnd,hls,hts⟩:=j0g ha;rw[lvT] at h;cases h1:j1w ls bys with
  |none=>rw[h1] at h;cases h
  |some ls'=>
   rw[h1] at h;dsimp only at h;obtain⟨ts',ht,rfl⟩:=Option.map_eq_some_iff.1 h;obtain⟨a1,a2⟩:=jgY h1;obtain⟨b1,b2⟩:=joH ts ts' k 0 kk hts ht;exact j1L hk (by rw[b2];exact hlen) (jrd hnd a2) a1 b1
theorem joH{bys:List Lv}{p:Int}:∀(ts xs:List Tm) (k i kk:Int),j0z ts k i p kk=true→lvTs ts bys=some xs→j0z xs k i 4 kk=true∧xs.length=ts.length
 |[],xs,k,i,kk,ha,h=>by
  simp only[lvTs,Option.some.injEq] at h;subst h;simp[j0z]
 |t::r,xs,k,i,kk,ha,h=>by
  simp only[j0z,Bool.and_eq_true] at ha;rw[lvTs] at h;cases h1:lvT t bys with
  |none=>rw[h1] at h;cases h
  |some x=>
   rw[h1] at h;dsimp only at h;obtain⟨ys,hy,rfl⟩:=Option.map_eq_some_iff.1 h;obtain⟨b1,b2⟩:=joH r ys k (i+1) kk ha.2 hy;simp only[j0z,Bool.and_eq_true,List.length_cons];exact⟨⟨jsz t x _ ha.1 h1,b1⟩,by omega⟩
end
theorem jfR(ha:allT t p kk=true)(h:j1E t bys=some x):allT x 4 kk=true∧sizT x≤2000:=by
 unfold j1E at h;split at h
 ·split at h
  ·cases h
  ·rename_i y hy;split at h
   ·rename_i hn;cases h;exact⟨jsz t _ kk ha hy,j1C hn⟩
   ·cases h
 ·cases h
def ScT(k:Int)(t:Tm):Prop:=allT t 4 k=true∧sizT t≤2000
theorem ScT.mono{k':Int}(h:ScT k t)(hk:k≤k'):ScT k' t:=⟨j3m t 4 k k' h.1 hk,h.2⟩
open Go Go.Am Go.Gw
theorem j6l(xs:List (List UInt8))(b:Bool)(z:Nat)(hl:(j1v xs).length≤1000000000):Pf C1 166 [.sl b z (svs xs)] [sv (j1v xs)]:=by
 have hl':=hl;rw[j4v] at hl';have hc:=jll (xs:=xs) (c:=32);have hj:=jqQ (b:=b) (z:=z) (xs:=xs) (sep:=[32]) (by omega) (by omega)
 have h1:j0h C1.P .add 9 (.const (str [40])) (.tmp 4) (sv [40]) (sv (Lib.join xs [32]))=some (sv ([40]++Lib.join xs [32])):=sadd (by simp;omega)
 have h2:j0h C1.P .add 9 (.tmp 5) (.const (str [41])) (sv ([40]++Lib.join xs [32])) (sv [41])=some (sv (j1v xs)):=sadd (by simp;omega)
 refine j00 Tryz.func166 rfl rfl rfl ?_;repeat'(first|refine gU ?_|refine gX hj ?_|refine VRes.mk _ h1 ?_|refine VRes.mk _ h2 ?_)<;>conv=>whnf
 all_goals rfl
def jsR:List (List UInt8):=[[],[],[],[43],[124],[63]]
def jjy:List (List UInt8):=[[],[],[],[],[],[92],[62],[61]]
theorem jpA:∃b,Pf C1 177 [] [.sl b 1 (svs jsR)]:=by
 first
  |exact⟨true,j7u (st':=[]) 3 (by kernel_rfl)⟩
  |exact⟨false,j7u (st':=[]) 3 (by kernel_rfl)⟩
theorem jib:∃b,Pf C1 170 [] [.sl b 1 (svs jjy)]:=by
 first
  |exact⟨true,j7u (st':=[]) 3 (by kernel_rfl)⟩
  |exact⟨false,j7u (st':=[]) 3 (by kernel_rfl)⟩
theorem jeP(n:Int)(h:n.natAbs≤9223372036854775807):Pf C1 165 [iv n] [sv (Lib.itoa n)]:=by
 refine jkA rfl ?_;have:Nat.ble n.natAbs 9223372036854775807=true:=Nat.ble_eq_true_of_le h;simp only[jqO,this,jka h];rfl
theorem jh2(ls:List Lv)(ih:∀l∈ls,∀v,LvP l v→Pf C1 107 [v] [sv (j0s l)])(b:Bool)(z:Nat)(xs:List PV)(hz:z=3∨xs=[])(hxs:LvsP ls xs)(hbd:ls.length≤3518437208780):
  ∃b' z',(z'=1∨ls=[])∧Pf C1 167 [.sl b z xs] [.sl b' z' (svs (ls.map j0s))]:=by
 have hlen:=hxs.len;cases ls with
 |nil=>
  obtain rfl:xs=[]:=by simpa using hlen
  first
   |exact⟨true,0,.inr rfl,j7u (st':=[]) 5 (by kernel_rfl)⟩
   |exact⟨false,0,.inr rfl,j7u (st':=[]) 5 (by kernel_rfl)⟩
   |exact⟨true,1,.inr rfl,j7u (st':=[]) 5 (by kernel_rfl)⟩
   |exact⟨false,1,.inr rfl,j7u (st':=[]) 5 (by kernel_rfl)⟩
 |cons l0 lr=>
 generalize hls:l0::lr=ls at ih hxs hbd hlen⊢;have hpos:0<ls.length:=by rw[←hls];simp
 refine⟨false,1,.inl rfl,?_⟩;refine j00 Tryz.func167 rfl rfl rfl ?_;all_goals try conv=>whnf
 refine j04 (G:=Nat) (fun i=>[(8,iv i),(3,match i with
   |0=>.sl true 0 []
   |n+1=>.ms 1 (n+1))]) (fun i=>match i with
   |0=>[]
   |n+1=>[.dead,.row false 9 1 (svs ((ls.take (n+1)).map j0s))]) (fun i=>i≤ls.length) (fun i=>ls.length-i) 0 (by omega) rfl rfl ?_
 intro i hi;have hround:∀(hi':i<ls.length),∃lc,ls[i]?=some lc∧∃v,xs[i]?=some v∧LvP lc v∧Pf C1 107 [v] [sv (j0s lc)]:=fun hi'=>by
  obtain⟨lc,hlc⟩:∃lc,ls[i]?=some lc:=⟨_,List.getElem?_eq_getElem hi'⟩;obtain⟨v,hv,hl⟩:=hxs.at hlc;exact⟨lc,hlc,v,hv,hl,ih _ (List.mem_of_getElem? hlc) _ hl⟩
 cases i with
 |zero=>
  repeat'(first|refine gU ?_|apply gE<;>intro h)<;>conv=>whnf
  ·obtain⟨lc,hlc,v,hv,hl,hpl⟩:=hround hpos;obtain⟨k1,n1,l1,b1,z1,x1,rfl,rfl,hz1,hxs1,hlen1,hbd1⟩:=hl.open;refine VIdx.mk _ hv (VOk.mk (j0D rfl hz) ?_);repeat'(first|refine gU ?_|refine gX hpl ?_)<;>conv=>whnf
   have e:svs ((ls.take (0+1)).map j0s)=[sv (j0s (.mk k1 n1 l1))]:=by rw[take_snoc' hlc];rfl
   exact VAgain.mk _ rfl _ (jaD (And.intro (j6A rfl) (And.intro (j8Q rfl) True.intro)) rfl rfl rfl rfl) ⟨1,hpos,by omega,congrArg (fun t=>(⟨_,[.dead,.row false _ 1 t]⟩:AS)) e.symm⟩
  ·omega
 |succ i=>
  have hln:(svs ((ls.take (i+1)).map j0s)).length=i+1:=by simp;omega
  repeat'(first|refine gU ?_|apply gE<;>intro h)<;>conv=>whnf
  ·obtain⟨lc,hlc,v,hv,hl,hpl⟩:=hround (by omega)
   obtain⟨k1,n1,l1,b1,z1,x1,rfl,rfl,hz1,hxs1,hlen1,hbd1⟩:=hl.open;refine VIdx.mk _ hv (VOk.mk (j0D rfl hz) ?_);repeat'(first|refine gU ?_|refine gX hpl ?_)<;>conv=>whnf
   refine VOk.mk (j1o (w:=16) (r:=140737488355328) hln rfl rfl rfl rfl (by simp only[List.length_cons,List.length_nil];omega) (by simp only[List.length_cons,List.length_nil];omega)) ?_
   repeat'(refine gU ?_)<;>conv=>whnf
   have e:svs ((ls.take (i+1+1)).map j0s)=svs ((ls.take (i+1)).map j0s)++[sv (j0s (.mk k1 n1 l1))]:=by rw[take_snoc' hlc];simp
   exact VAgain.mk _ rfl _ (jaD (And.intro jdI (And.intro (j8Q (e▸j4z _)) (And.intro (j6A rfl) True.intro))) rfl rfl rfl rfl) ⟨i+1+1,by omega,by omega,congrArg (fun t=>(⟨_,[.dead,.row false _ 1 t]⟩:AS)) e.symm⟩
  ·have hi':i+1=ls.length:=by omega
   have e:(ls.take (i+1)).map j0s=ls.map j0s:=by rw[hi',List.take_length]
   refine jkZ rfl rfl hln.symm (j5l _) ?_;rw[e]
theorem jc2(l:Lv):∀v,LvP l v→allF l 4=true→(j0s l).length≤1000000000→Pf C1 107 [v] [sv (j0s l)]:=by
 induction l using Lv.ind with
 |_ k nn ls ih=>
 intro v h ha hb;obtain⟨_,_,_,b,z,xs,⟨rfl,rfl,rfl⟩,rfl,hz,hxs,hlen,hbd⟩:=h.open;obtain⟨bs,hsg⟩:=jpA;have hnn:k=1∨k=2→nn.natAbs≤9223372036854775807:=fun e=>by
  have:=j5b (j8f ha);rcases e with rfl|rfl<;>simp at this<;>omega
 have hu:k=2→j0h C1.P .add 9 (.const (str [117])) (.tmp 14) (sv [117]) (sv (Lib.itoa nn))=some (sv ([117]++Lib.itoa nn)):=fun e=>by
  have:=Lib.itoa_length_le nn (by have:=hnn (.inr e);omega) (by have:=hnn (.inr e);omega)
  exact sadd (by simp;omega)
 refine j00 Tryz.func107 rfl rfl rfl ?_;repeat'(first|refine gU ?_|apply gE<;>intro h|refine gX (jeP nn (hnn (.inl (by assumption)))) ?_|refine gX (jeP nn (hnn (.inr (by assumption)))) ?_|refine VRes.mk _ (hu (by assumption)) ?_|refine j01 hsg fun _=>?_|apply gK)<;>conv=>whnf
 ·show AEnd.ret [sv (Lib.itoa nn)]=_
  rw[j0s,if_pos (by assumption)]
 ·rw[j0s,if_neg (by assumption),if_pos (by assumption)]
 ·obtain⟨hk3,hne,hle⟩:=jjv ha (by assumption) (by assumption)
  have hparts:=jqZ ha (by assumption) (by assumption) hb
  obtain⟨b',z',hz',hlv⟩:=jh2 ls (fun l h v hl=>ih l h v hl (hparts l h).1 (hparts l h).2) b z xs hz hxs hbd
  obtain rfl:z'=1:=hz'.resolve_right (fun e=>by rw[e] at hne;simp at hne)
  have hidx:(svs jsR)[k.toNat]?=some (sv (jce k)):=by
   obtain e|e|e:k=3∨k=4∨k=5:=by omega
   all_goals
    subst e;rfl
  have htx:j0s (.mk k nn ls)=j1v (jce k::ls.map j0s):=by rw[j0s,if_neg (by assumption),if_neg (by assumption),j4U]
  rw[htx] at hb⊢;obtain⟨l0,lr,rfl⟩:∃l0 lr,ls=l0::lr:=by
   cases ls with
   |nil=>simp at hne
   |cons l0 lr=>exact⟨l0,lr,rfl⟩
  have hln:(svs (jce k::(l0::lr).map j0s)).length=lr.length+2:=by simp
  refine VNat.nonneg (by omega) (VIdx.mk _ hidx ?_)
  repeat'(first|refine gU ?_|refine j01 hlv fun _=>?_|apply gK)<;>conv=>whnf
  have hm:[sv (jce k)].length+(svs ((l0::lr).map j0s)).length≤3:=by simp at hle⊢;omega
  refine VOk.mk (j6Z (w:=16) (r:=140737488355328) rfl rfl rfl (by omega) (by omega)) ?_
  repeat'(first|apply gK)<;>conv=>whnf
  refine j9j rfl rfl (by simp;omega) (j5l (jce k::(l0::lr).map j0s)) (j6l _ _ _ hb) rfl ?_
  repeat'(refine gU ?_)<;>conv=>whnf
  rfl
theorem jhH(ls:List Lv)(b:Bool)(z:Nat)(xs:List PV)(hz:z=3∨xs=[])(hxs:LvsP ls xs)(hbd:ls.length≤3518437208780)(ha:∀l∈ls,allF l 4=true∧(j0s l).length≤1000000000):
  ∃b' z',(z'=1∨ls=[])∧Pf C1 167 [.sl b z xs] [.sl b' z' (svs (ls.map j0s))]:=
 jh2 ls (fun l h v hl=>jc2 l v hl (ha l h).1 (ha l h).2) b z xs hz hxs hbd
theorem jaG(h:j0m l 4=true):(j0s l).length≤2000:=by
 have h1:=jh6 l (j5h h);have h2:=jca h;omega
theorem jfQ(l:Lv)(v:PV)(h:LvP l v):Pf C1 59 [v] [sv (j8G l)]:=by
 have hr:=j2u l v h 4;have hp:=fun(e:j0m l 4=true)=>jc2 l v h (j5h e) (Nat.le_trans (jaG e) (by omega))
 obtain⟨k,nn,ls,b,z,xs,rfl,rfl,hz,hxs,hlen,hbd⟩:=h.open;refine j00 Tryz.func59 rfl rfl rfl ?_;repeat'(first|refine gU ?_|apply gM<;>intro h|refine gX hr ?_|refine gX (hp (by assumption)) ?_)<;>conv=>whnf
 all_goals simp_all[j8G]
 all_goals first|done|rfl
open Go Go.Am Go.Gw
theorem jiI{tx:Tm→List UInt8}:∀{ls:List Tm},(∀l∈ls,(tx l).length≤10000*sizT l)→Lib.lens (ls.map tx)≤10000*(ls.map sizT).sum
 |[],_=>by simp[Lib.lens]
 |a::r,h=>by
  have h1:=h a List.mem_cons_self;have h2:=jiI (tx:=tx) (ls:=r) fun l hl=>h l (List.mem_cons_of_mem _ hl)
  simp only[Lib.lens,List.map_cons,List.sum_cons] at h2⊢;omega
theorem jsD:∀{ls:List Lv},(∀l∈ls,(j0s l).length≤2000)→Lib.lens (ls.map j0s)≤2000*ls.length
 |[],_=>by simp[Lib.lens]
 |a::r,h=>by
  have h1:=h a List.mem_cons_self;have h2:=jsD (ls:=r) fun l hl=>h l (List.mem_cons_of_mem _ hl)
  simp only[Lib.lens,List.map_cons,List.sum_cons,List.length_cons] at h2⊢;omega
theorem lens_cons(x:List UInt8)(xs:List (List UInt8)):Lib.lens (x::xs)=x.length+Lib.lens xs:=by simp[Lib.lens]
theorem jaE(xs:List (List UInt8)):(j1v xs).length≤Lib.lens xs+xs.length+2:=by
 rw[j4v];cases xs with
 |nil=>simp[Lib.join]
 |cons y r=>
  rw[Lib.join_length];simp;omega
theorem j6K:∀ts:List Tm,j0B ts=(ts.map sizT).sum
 |[]=>rfl
 |a::r=>by rw[j0B,j6K r];rfl
theorem jaS:∀{ts:List Tm}{t:Tm},t∈ts→sizT t≤(ts.map sizT).sum
 |a::r,t,h=>by
  rw[List.map_cons,List.sum_cons];rcases List.mem_cons.1 h with rfl|h
  ·omega
  ·have:=jaS h;omega
theorem ju6(l:List Nat):l.reverse.sum=l.sum:=by
 induction l with
 |nil=>rfl
 |cons a r ih=>rw[List.reverse_cons,List.sum_append,ih];simp;omega
theorem and2{a b c:Bool}(h:a=true)(h2:b=true:=by exact rfl):(a&&(b||c))=true:=by rw[h,h2];rfl
theorem jpH:∀(t:Tm),sizT (spF t).1+((spF t).2.map sizT).sum+(spF t).2.length≤sizT t
 | .mk k n s ls ts=>by
  by_cases hk:k=4∧ts.length=2
  ·obtain⟨rfl,hl⟩:=hk;match ts,hl with
   |[f,a],_=>
    have a1:=jpH f;rw[j7V];have e:sizT (.mk 4 n s ls [f,a])=1+j09 ls+(sizT f+(sizT a+0)):=by simp[sizT,j0B]
    simp only[List.map_cons,List.sum_cons,List.length_cons];omega
  ·rw[ja1 hk];simp
theorem ja0:∀(t:Tm) (p kk:Int),allT t p kk=true→(∀a∈(spF t).2,allT a p kk=true)∧allT (spF t).1 p kk=true
 | .mk k n s ls ts,p,kk,h=>by
  by_cases hk:k=4∧ts.length=2
  ·obtain⟨rfl,hl⟩:=hk;match ts,hl with
   |[f,a],_=>
    have hp:=(j0g h).2.2.2.2;simp only[j0z,Bool.and_eq_true] at hp;obtain⟨h1,h2,-⟩:=hp;have h1:allT f p kk=true:=by simpa[j0a,j08] using h1
    have h2:allT a p kk=true:=by simpa[j0a,j08] using h2
    obtain⟨b1,b2⟩:=ja0 f p kk h1;rw[j7V];refine⟨fun x hx=>?_,b2⟩
    rcases List.mem_cons.1 hx with rfl|hx
    ·exact h2
    ·exact b1 x hx
  ·rw[ja1 hk];exact⟨by simp,h⟩
theorem jpG(h:ts.length=2):0<(spF (.mk 4 n s ls ts)).2.length:=by
 match ts,h with
 |[f,a],_=>
  rw[j7V];simp
def txF:Nat→Tm→List UInt8
 |0,_=>[]
 |n+1,t=>if t.kind=4 then j1v (txF n (spF t).1::(j0M t).map (txF n)) else if t.kind=1 then[35]++Lib.itoa t.num else if t.kind=2 then j1v [[42],j0s t.lv] else if t.kind=3 then(if t.levels.length=0 then t.name else j1v ([64]::t.name::t.levels.map j0s)) else j1v (j3W t.kind::t.args.map (txF n))
theorem jfD:∀(n:Nat) (t:Tm) (kk:Int),sizT t≤n→allT t 4 kk=true→TmW t→(txF n t).length≤10000*sizT t
 |0,t,_,h,_,_=>absurd (j7k t) (by omega)
 |n+1,.mk k nn s ls ts,kk,hsz,ha,hw=>by
  obtain⟨hk17,hla,hk2,hrl,hat,hl4⟩:=jg6 ha;have hp:=j7k (.mk k nn s ls ts);rw[txF]
  by_cases c4:k=4
  ·subst c4;rw[if_pos (show(Tm.mk 4 nn s ls ts).kind=4 from rfl)]
   have hl2:ts.length=2:=by
    have e:j0I 4=2:=rfl;omega
   obtain⟨hA,hH⟩:=ja0 _ _ _ ha;obtain⟨wH,wA⟩:=jms _ hw;have hs:=jpH (.mk 4 nn s ls ts);have hc:=jpG (n:=nn) (s:=s) (ls:=ls) hl2;have h1:=jfD n _ kk (by omega) hH wH
   have h2:=jiI (tx:=txF n) (ls:=j0M (.mk 4 nn s ls ts)) fun l hl=>jfD n l kk (by have:=(j4H (.mk 4 nn s ls ts)).2 l (j0O.1 hl);omega) (hA l (j0O.1 hl)) (wA l (j0O.1 hl))
   have h3:((j0M (.mk 4 nn s ls ts)).map sizT).sum=((spF (.mk 4 nn s ls ts)).2.map sizT).sum:=by unfold j0M;rw[List.map_reverse,ju6]
   have h4:(j0M (.mk 4 nn s ls ts)).length=(spF (.mk 4 nn s ls ts)).2.length:=by simp[j0M]
   have h5:=jaE (txF n (spF (.mk 4 nn s ls ts)).1::(j0M (.mk 4 nn s ls ts)).map (txF n));rw[lens_cons,List.length_cons,List.length_map] at h5;omega
  ·have hz:sizT (.mk k nn s ls ts)=1+j09 ls+j0B ts:=rfl;rw[if_neg (show ¬(Tm.mk k nn s ls ts).kind=4 from c4)]
   have hwo:TmP (.mk k nn s ls ts) (encT (.mk k nn s ls ts)):=hw;have hn64:=hwo.num;split
   ·rename_i c1;obtain rfl:k=1:=c1;have hn0:0≤nn:=by
     rw[allT] at ha;simp[j2g] at ha;omega
    unfold i64 at hn64;have:=Lib.itoa_length_le nn (by omega) (by omega)
    have e:(Tm.mk 1 nn s ls ts).num=nn:=rfl;rw[e];simp only[List.length_append,List.length_cons,List.length_nil];omega
   ·split
    ·rename_i c1 c2;have hl1:=hk2 c2;have e:(Tm.mk k nn s ls ts).lv=ls.getD 0 (.mk 0 0 []):=rfl;have hm:ls.getD 0 (.mk 0 0 [])∈ls:=List.mem_of_getElem? (show ls[0]?=some (ls.getD 0 (.mk 0 0 [])) by rw[List.getD_eq_getElem?_getD,List.getElem?_eq_getElem (by omega)];rfl)
     have h1:=jaG (hrl _ hm);have h2:=jaE [[42],j0s (ls.getD 0 (.mk 0 0 []))];rw[e];rw[lens_cons,lens_cons] at h2;simp only[Lib.lens,List.map_nil,List.sum_nil,List.length_cons,List.length_nil] at h2;omega
    ·split
     ·rename_i c1 c2 c3;obtain rfl:k=3:=c3;have hnm:s.length≤40:=by
       have h:=(j0g ha).2.2.1;unfold j2g at h;dsimp only at h;rw[if_neg (by omega),if_pos rfl] at h
       simp only[Bool.and_eq_true,j3x,decide_eq_true_eq] at h;exact h.2.1.1
      split
      ·show s.length≤_
       omega
      ·have h1:=jsD (ls:=ls) fun l hl=>jaG (hrl l hl)
       have h2:=jaE ([64]::s::ls.map j0s);rw[lens_cons,lens_cons] at h2;simp only[List.length_cons,List.length_nil,List.length_map] at h2;show(j1v ([64]::s::ls.map j0s)).length≤_
       omega
     ·obtain⟨_,_,_,_,_,b,z,xs,c,y,ys,⟨rfl,rfl,rfl,rfl,rfl⟩,-,-,-,-,-,hy,hys,-⟩:=hwo.open;have hlt:ts.length≤3:=by
       unfold j0I at hla;split at hla<;>(try split at hla)<;>omega
      have h1:=jiI (tx:=txF n) (ls:=ts) fun l hl=>(hat l hl).elim fun kk' h3=>jfD n l kk' (by have:=jaS hl;rw[j6K] at hz;omega) h3 (hys.ws l hl)
      have hb:(j3W k).length≤1:=by
       unfold j3W;(repeat' split)<;>simp
      have h2:=jaE (j3W k::ts.map (txF n));rw[lens_cons,List.length_cons,List.length_map] at h2;rw[j6K] at hz;show(j1v (j3W k::ts.map (txF n))).length≤_
      omega
theorem jcl(tx:Tm→List UInt8)(ls:List Tm)(hpos:0<ls.length)(ih:∀l∈ls,∀v,TmP l v→Pf C1 100 [v] [sv (tx l)])(b:Bool)(z:Nat)(xs:List PV)(hz:z=5∨xs=[])(hxs:TmsP ls xs)(hbd:ls.length≤3518437208780):
  Finds C1 169 [.sl b z xs] [] fun r st=>r=.ret [.ms 0 ls.length]∧st=[.row false 9 1 (svs (ls.map tx))]:=by
 have hlen:=hxs.len;refine j00 Tryz.func169 rfl rfl rfl ?_;all_goals try conv=>whnf
 refine j04 (G:=Nat) (fun i=>[(8,iv i),(3,match i with
   |0=>.sl true 0 []
   |n+1=>.ms 1 (n+1))]) (fun i=>match i with
   |0=>[]
   |n+1=>[.dead,.row false 9 1 (svs ((ls.take (n+1)).map tx))]) (fun i=>i≤ls.length) (fun i=>ls.length-i) 0 (by omega) rfl rfl ?_
 intro i hi;have hround:∀(hi':i<ls.length),∃lc,ls[i]?=some lc∧∃v,xs[i]?=some v∧TmP lc v∧Pf C1 100 [v] [sv (tx lc)]:=fun hi'=>by
  obtain⟨lc,hlc⟩:∃lc,ls[i]?=some lc:=⟨_,List.getElem?_eq_getElem hi'⟩;obtain⟨v,hv,hl⟩:=hxs.at hlc;exact⟨lc,hlc,v,hv,hl,ih _ (List.mem_of_getElem? hlc) _ hl⟩
 cases i with
 |zero=>
  repeat'(first|refine gU ?_|apply gE<;>intro h)<;>conv=>whnf
  ·obtain⟨lc,hlc,v,hv,hl,hpl⟩:=hround hpos;obtain⟨k1,n1,s1,l1,t1,b1,z1,x1,c1,y1,ys1,rfl,rfl,hz1,hxs1,hlen1,hbd1,hy1,hys1,hlen21,hbd21,hsl1⟩:=hl.open;refine VIdx.mk _ hv (VOk.mk (j0D rfl hz) ?_);repeat'(first|refine gU ?_|refine gX hpl ?_)<;>conv=>whnf
   have e:svs ((ls.take (0+1)).map tx)=[sv (tx (.mk k1 n1 s1 l1 t1))]:=by rw[take_snoc' hlc];rfl
   exact VAgain.mk _ rfl _ (jaD (And.intro (j6A rfl) (And.intro (j8Q rfl) True.intro)) rfl rfl rfl rfl) ⟨1,hpos,by omega,congrArg (fun t=>(⟨_,[.dead,.row false _ 1 t]⟩:AS)) e.symm⟩
  ·omega
 |succ i=>
  have hln:(svs ((ls.take (i+1)).map tx)).length=i+1:=by simp;omega
  repeat'(first|refine gU ?_|apply gE<;>intro h)<;>conv=>whnf
  ·obtain⟨lc,hlc,v,hv,hl,hpl⟩:=hround (by omega)
   obtain⟨k1,n1,s1,l1,t1,b1,z1,x1,c1,y1,ys1,rfl,rfl,hz1,hxs1,hlen1,hbd1,hy1,hys1,hlen21,hbd21,hsl1⟩:=hl.open;refine VIdx.mk _ hv (VOk.mk (j0D rfl hz) ?_);repeat'(first|refine gU ?_|refine gX hpl ?_)<;>conv=>whnf
   refine VOk.mk (j1o (w:=16) (r:=140737488355328) hln rfl rfl rfl rfl (by simp only[List.length_cons,List.length_nil];omega) (by simp only[List.length_cons,List.length_nil];omega)) ?_
   repeat'(refine gU ?_)<;>conv=>whnf
   have e:svs ((ls.take (i+1+1)).map tx)=svs ((ls.take (i+1)).map tx)++[sv (tx (.mk k1 n1 s1 l1 t1))]:=by rw[take_snoc' hlc];simp
   exact VAgain.mk _ rfl _ (jaD (And.intro jdI (And.intro (j8Q (e▸j4z _)) (And.intro (j6A rfl) True.intro))) rfl rfl rfl rfl) ⟨i+1+1,by omega,by omega,congrArg (fun t=>(⟨_,[.dead,.row false _ 1 t]⟩:AS)) e.symm⟩
  ·have hi':i+1=ls.length:=by omega
   have e:(ls.take (i+1)).map tx=ls.map tx:=by rw[hi',List.take_length]
   refine j1G (.inl ⟨rfl,rfl,rfl⟩) rfl (j1u (.cons j0o (.cons (j0c (j4z _)) .nil)) (.cons j0o (.cons (j0c (j4z _)) .nil)) rfl rfl rfl rfl rfl) (j5S (.cons jaR (.cons (j1P (j4z _)) .nil)) rfl rfl rfl rfl) ?_;rw[←hi',e];exact⟨rfl,rfl⟩
theorem j8U:∀(n:Nat) (t:Tm) (kk:Int),sizT t≤n→n≤2000→allT t 4 kk=true→∀v,TmP t v→Pf C1 100 [v] [sv (txF n t)]
 |0,t,_,h,_,_,_,_=>absurd (j7k t) (by omega)
 |n+1,.mk k nn s ls ts,kk,hsz,hn,ha,v,h=>by
  have hw:=h.w;have hb:(txF (n+1) (.mk k nn s ls ts)).length≤1000000000:=by
   have:=jfD (n+1) _ kk hsz ha hw;omega
  have hv:=h;obtain⟨_,_,_,_,_,b,z,xs,c,y,ys,⟨rfl,rfl,rfl,rfl,rfl⟩,rfl,hz,hxs,hlen,hbd,hy,hys,hlen2,hbd2,hsl⟩:=h.open;obtain⟨hk17,hla,hk2,hrl,hat,hl4⟩:=jg6 ha;have hsz':1+j09 ls+j0B ts≤n+1:=hsz
  by_cases c4:k=4
  ·subst c4;have hl2:ts.length=2:=by
    have e:j0I 4=2:=rfl;omega
   obtain⟨hA,hH⟩:=ja0 _ _ _ ha;obtain⟨wH,wA⟩:=jms _ hw;have hs:=j4H (.mk 4 nn s ls ts);have hc:=jpG (n:=nn) (s:=s) (ls:=ls) hl2;have hac:(j0M (.mk 4 nn s ls ts)).length=(spF (.mk 4 nn s ls ts)).2.length:=by simp[j0M]
   have hS:=j8a (.mk 4 nn s ls ts) _ hv (by omega)
   have hT1:=jcl (txF n) [(spF (.mk 4 nn s ls ts)).1] (by simp) (fun l hl v hv=>by
    rw[List.mem_singleton.1 hl] at hv⊢;exact j8U n _ kk (by omega) (by omega) hH v hv) true 5 _ (.inl rfl) ⟨_,[],rfl,wH,rfl⟩ (by simp)
   have hT2:=jcl (txF n) (j0M (.mk 4 nn s ls ts)) (by omega) (fun l hl v hv=>j8U n l kk (by have:=hs.2 l (j0O.1 hl);omega) (by omega) (hA l (j0O.1 hl)) v hv) false 5 _ (.inl rfl) (j8X fun l hl=>wA l (j0O.1 hl)) (by omega)
   have htx:txF (n+1) (.mk 4 nn s ls ts)=j1v (txF n (spF (.mk 4 nn s ls ts)).1::(j0M (.mk 4 nn s ls ts)).map (txF n)):=by
    rw[txF,if_pos (show(Tm.mk 4 nn s ls ts).kind=4 from rfl)]
   rw[j2r (by omega)] at hS
   rw[htx] at hb⊢;have hG:=j6l _ false 1 hb;have hal:(j0M (.mk 4 nn s ls ts)).length≤2000:=by omega
   generalize j0M (.mk 4 nn s ls ts)=aa at *;obtain⟨a0,ar,rfl⟩:∃a0 ar,aa=a0::ar:=by
    cases aa with
    |nil=>simp at hac;omega
    |cons a0 ar=>exact⟨a0,ar,rfl⟩
   obtain⟨k2,n2,s2,b2,z2,x2,c2,y2,ys2,he2⟩:=j07 (spF (.mk 4 nn s ls ts)).1;rw[he2] at hS hT1;refine j00 Tryz.func100 rfl rfl rfl ?_;repeat'(first|refine gU ?_|refine gX hS ?_)<;>conv=>whnf
   refine j1g rfl (Finds.mono hT1 ?_);rintro _ _ ⟨rfl,rfl⟩;refine⟨rfl,j4l (.cons (j1P (j4z _)) .nil) rfl ?_⟩;all_goals try conv=>whnf
   refine j1g rfl (Finds.mono hT2 ?_);rintro _ _ ⟨rfl,rfl⟩;refine⟨rfl,j4l (.cons (j1P (j4z _)) .nil) rfl ?_⟩;have hsl:(svs ((a0::ar).map (txF n))).length=(a0::ar).length:=by simp[svs]
   have o1:((a0::ar).length.beq (svs ((a0::ar).map (txF n))).length)=true:=by rw[hsl];simp
   repeat'(first|refine VOk.mk (and2 o1) ?_|fail)<;>conv=>whnf
   refine VOk.mk (j1o (w:=16) (r:=140737488355328) rfl rfl rfl rfl rfl (by rw[hsl];simp only[List.length_cons,List.length_nil] at hal⊢;omega) (by rw[hsl];simp only[List.length_cons,List.length_nil] at hal⊢;omega)) ?_
   all_goals try conv=>whnf
   refine j9j rfl rfl (by simp;omega) (j5l (txF n (spF (.mk 4 nn s ls ts)).1::(a0::ar).map (txF n))) hG rfl ?_
   repeat'(refine gU ?_)<;>conv=>whnf
   rfl
  ·have t1:k=1→txF (n+1) (.mk k nn s ls ts)=[35]++Lib.itoa nn:=fun e=>by
    rw[txF,if_neg (show ¬(Tm.mk k nn s ls ts).kind=4 from c4),if_pos (show(Tm.mk k nn s ls ts).kind=1 from e)]
    rfl
   have t2:¬k=1→k=2→txF (n+1) (.mk k nn s ls ts)=j1v [[42],j0s (ls.getD 0 (.mk 0 0 []))]:=fun e1 e2=>by
    rw[txF,if_neg (show ¬(Tm.mk k nn s ls ts).kind=4 from c4),if_neg (show ¬(Tm.mk k nn s ls ts).kind=1 from e1),if_pos (show(Tm.mk k nn s ls ts).kind=2 from e2)]
    rfl
   have t3:¬k=1→¬k=2→k=3→txF (n+1) (.mk k nn s ls ts)=if ls.length=0 then s else j1v ([64]::s::ls.map j0s):=fun e1 e2 e3=>by
    rw[txF,if_neg (show ¬(Tm.mk k nn s ls ts).kind=4 from c4),if_neg (show ¬(Tm.mk k nn s ls ts).kind=1 from e1),if_neg (show ¬(Tm.mk k nn s ls ts).kind=2 from e2),if_pos (show(Tm.mk k nn s ls ts).kind=3 from e3)]
    rfl
   have t5:¬k=1→¬k=2→¬k=3→txF (n+1) (.mk k nn s ls ts)=j1v (j3W k::ts.map (txF n)):=fun e1 e2 e3=>by
    rw[txF,if_neg (show ¬(Tm.mk k nn s ls ts).kind=4 from c4),if_neg (show ¬(Tm.mk k nn s ls ts).kind=1 from e1),if_neg (show ¬(Tm.mk k nn s ls ts).kind=2 from e2),if_neg (show ¬(Tm.mk k nn s ls ts).kind=3 from e3)]
    rfl
   have hlp:∀l∈ls,allF l 4=true∧(j0s l).length≤1000000000:=fun l h=>⟨j5h (hrl l h),Nat.le_trans (jaG (hrl l h)) (by omega)⟩
   obtain⟨bb,hbi⟩:=jib;have hn64:=hv.num;have h1:k=1→nn.natAbs≤9223372036854775807:=fun e=>by
    subst e;rw[allT] at ha;simp[j2g] at ha;unfold i64 at hn64;omega
   have hu:k=1→j0h C1.P .add 9 (.const (str [35])) (.tmp 11) (sv [35]) (sv (Lib.itoa nn))=some (sv ([35]++Lib.itoa nn)):=fun e=>by
    have:=Lib.itoa_length_le nn (by have:=h1 e;omega) (by have:=h1 e;omega)
    exact sadd (by simp;omega)
   refine j00 Tryz.func100 rfl rfl rfl ?_;repeat'(first|refine gU ?_|apply gE<;>intro h|refine j01 hbi fun _=>?_|refine gX (jeP nn (h1 (by assumption))) ?_|refine VRes.mk _ (hu (by assumption)) ?_|apply gK)<;>conv=>whnf
   ·rw[t1 (by assumption)]
   ·have hk:k=2:=by assumption
    obtain⟨lc,hlc⟩:∃lc,ls[0]?=some lc:=⟨_,List.getElem?_eq_getElem (by have:=hk2 hk;omega)⟩
    obtain⟨v,hv,hl⟩:=hxs.at hlc;have hlpc:=hlp lc (List.mem_of_getElem? hlc);have hpl:=jc2 lc v hl hlpc.1 hlpc.2;have hget:ls.getD 0 (.mk 0 0 [])=lc:=by rw[List.getD_eq_getElem?_getD,hlc];rfl
    have htx:txF (n+1) (.mk k nn s ls ts)=j1v [[42],j0s lc]:=by rw[t2 (by assumption) hk,hget]
    rw[htx] at hb⊢;obtain⟨k1,n1,l1,b1,z1,x1,rfl,rfl,hz1,hxs1,hlen1,hbd1⟩:=hl.open;refine VIdx.mk _ hv (VOk.mk (j0D rfl hz) ?_);repeat'(first|refine gU ?_|refine gX hpl ?_|refine gX (j6l _ _ _ hb) ?_)<;>conv=>whnf
    all_goals rfl
   ·rw[t3 (by assumption) (by assumption) (by assumption),if_pos (by omega)]
   ·have hne:0<ls.length:=by omega
    obtain⟨b',z',hz',hlv⟩:=jhH ls b z xs hz hxs hbd hlp;obtain rfl:z'=1:=hz'.resolve_right (fun e=>by rw[e] at hne;simp at hne)
    have htx:txF (n+1) (.mk k nn s ls ts)=j1v ([64]::s::ls.map j0s):=by rw[t3 (by assumption) (by assumption) (by assumption),if_neg (by omega)]
    rw[htx] at hb⊢;obtain⟨l0,lr,rfl⟩:∃l0 lr,ls=l0::lr:=by
     cases ls with
     |nil=>simp at hne
     |cons l0 lr=>exact⟨l0,lr,rfl⟩
    repeat'(first|refine gU ?_|refine j01 hlv fun _=>?_)<;>conv=>whnf
    have hm:[sv [64],sv s].length+(svs ((l0::lr).map j0s)).length≤6:=by simp at hl4⊢;omega
    refine VOk.mk (j6Z (w:=16) (r:=140737488355328) rfl rfl rfl (Nat.le_trans (Nat.mul_le_mul_right _ hm) (by omega)) (Nat.le_trans hm (by omega))) ?_
    repeat'(first|apply gK|fail)<;>conv=>whnf
    refine j9j rfl rfl (by simp;omega) (j5l ([64]::s::(l0::lr).map j0s)) (j6l _ _ _ hb) rfl ?_
    repeat'(refine gU ?_)<;>conv=>whnf
    rfl
   ·have hk5:5≤k∧k≤7:=by omega
    have hlt:2≤ts.length∧ts.length≤3:=by
     unfold j0I at hla;split at hla<;>(try split at hla)<;>omega
    have hlv:=jcl (txF n) ts (by omega) (fun l hl v hv=>(hat l hl).elim fun kk' h3=>j8U n l kk' (by have:=jaS hl;rw[j6K] at hsz';omega) (by omega) h3 v hv) c y ys hy hys (by omega)
    have hidx:(svs jjy)[k.toNat]?=some (sv (j3W k)):=by
     obtain e|e|e:k=5∨k=6∨k=7:=by omega
     all_goals
      subst e;rfl
    have htx:txF (n+1) (.mk k nn s ls ts)=j1v (j3W k::ts.map (txF n)):=t5 (by assumption) (by assumption) (by assumption)
    rw[htx] at hb⊢;obtain⟨t0,tr,rfl⟩:∃t0 tr,ts=t0::tr:=by
     cases ts with
     |nil=>simp at hlt
     |cons l0 lr=>exact⟨l0,lr,rfl⟩
    refine VNat.nonneg (by omega) (VIdx.mk _ hidx ?_)
    repeat'(first|refine gU ?_|apply gK)<;>conv=>whnf
    refine Finds.mono hlv ?_;rintro _ _ ⟨rfl,rfl⟩;refine VPur.made rfl (j4l (.cons (j1P (j4z _)) .nil) rfl ?_);have hsl2:(svs ((t0::tr).map (txF n))).length=(t0::tr).length:=by simp[svs]
    have o1:((t0::tr).length.beq (svs ((t0::tr).map (txF n))).length)=true:=by rw[hsl2];simp
    repeat'(first|refine VOk.mk (and2 o1) ?_|fail)<;>conv=>whnf
    refine VOk.mk (j6Z (w:=16) (r:=140737488355328) rfl rfl rfl (by rw[hsl2];simp only[List.length_cons,List.length_nil] at hlt⊢;omega) (by rw[hsl2];simp only[List.length_cons,List.length_nil] at hlt⊢;omega)) ?_
    repeat'(first|apply gK|fail)<;>conv=>whnf
    refine j9j rfl rfl (by simp;omega) (j5l (j3W k::(t0::tr).map (txF n))) (j6l _ _ _ hb) rfl ?_
    repeat'(refine gU ?_)<;>conv=>whnf
    rfl
theorem jm3(h:j0A t≤2000):sizT t≤2000:=by rw[j2b] at h;omega
def textF(t:Tm):List UInt8:=if j0N t 4 1125899906842624=true then txF (sizT t) t else[]
theorem js0:textF tz=[]:=by
 unfold textF;rw[if_neg (by decide +kernel)]
theorem jfV(t:Tm)(v:PV)(h:TmP t v):Pf C1 49 [v] [sv (textF t)]:=by
 have hr:=j1a t v h 4 1125899906842624;cases hb:j0N t 4 1125899906842624 with
 |false=>
  rw[hb] at hr;have e:textF t=[]:=by
   unfold textF;rw[if_neg (by rw[hb];simp)]
  rw[e];cases h.c;refine j00 Tryz.func49 rfl rfl rfl ?_;repeat'(first|refine gU ?_|refine gX hr ?_)<;>conv=>whnf
  all_goals rfl
 |true=>
  rw[hb] at hr;have hp:=j1d hb;have hs:=jm3 hp.2.2.1;have e:textF t=txF (sizT t) t:=by
   unfold textF;rw[if_pos hb]
  have hsh:=j8U (sizT t) t _ (Nat.le_refl _) hs hp.2.2.2 v h;rw[←e] at hsh;cases h.c;refine j00 Tryz.func49 rfl rfl rfl ?_;repeat'(first|refine gU ?_|refine gX hr ?_|refine gX hsh ?_)<;>conv=>whnf
  all_goals rfl
end Go.Proofs.YtbnodhcijeaceaaGreatDoor
