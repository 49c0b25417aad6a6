/-
  Levels: made, compared, with others in the parameters' places. No statement of the seat.
-/
import Derived.Test.YtljnahbgfmflaaaGreatDoorZLj
import Derived.Test.YtljnahbgfmflaaaGreatDoorZKb
import Derived.Test.YtljnahbgfmflaaaGreatDoorZUa
set_option linter.unusedVariables false
set_option maxHeartbeats 1000000
set_option maxRecDepth 100000
set_option linter.unusedSimpArgs false
set_option linter.unnecessarySimpa false
namespace Go.Proofs.YtljnahbgfmflaaaGreatDoor
open Go Go.Am Go.Gw
def jfv (l:Lv):Lv:=.mk 3 0 [l]
def jl0 (l m:Lv):Lv:=.mk 5 0 [l,m]
def jdy (l:Lv):Bool:=leqF l (.mk 1 0 [])
def j8a (l m:Lv):Bool:=leqF l m && leqF m l
def j7I (l m:Lv):Lv:=if jdy m=true then .mk 1 0 [] else if leqF l m=true then m else jl0 l m
theorem jpp (n:Int):LvP (.mk 1 n []) (.ag [iv 1,iv n,.sl true 0 []]):=⟨true,0,[],rfl,.inr rfl,by simp [LvsP],by simp⟩
theorem jmA (l:Lv) (v:PV) (h:LvP l v):Pf C1 109 [v] [encL (jfv l)]:=by
 have hm:=jgD 3 [l] true 3 [v] (.inl rfl) ⟨v,[],rfl,h,rfl⟩ (by simp)
 have e:encL (jfv l)=encL (.mk 3 0 [l]):=rfl
 rw [e]
 obtain ⟨k2,n2,b2,z2,x2,he⟩:=j0y (.mk 3 0 [l])
 rw [he] at hm ⊢
 obtain ⟨k1,n1,l1,b1,z1,x1,rfl,rfl,hz1,hxs1,hlen1,hbd1⟩:=h.open
 refine j00 Tryz.func109 rfl rfl rfl ?_
 repeat' ((conv=>whnf);first|apply gO|refine j04 rfl ?_|refine j01 hm rfl rfl ?_)
 all_goals (try (conv=>whnf))
 rfl
theorem jnl (l:Lv) (v:PV) (h:LvP l v) (m:Lv) (w:PV) (h':LvP m w):Pf C1 17 [v,w] [encL (jl0 l m)]:=by
 have hm:=jgD 5 [l,m] true 3 [v,w] (.inl rfl) ⟨v,[w],rfl,h,w,[],rfl,h',rfl⟩ (by simp)
 have e:encL (jl0 l m)=encL (.mk 5 0 [l,m]):=rfl
 rw [e]
 obtain ⟨k2,n2,b2,z2,x2,he⟩:=j0y (.mk 5 0 [l,m])
 rw [he] at hm ⊢
 obtain ⟨k1,n1,l1,b1,z1,x1,rfl,rfl,hz1,hxs1,hlen1,hbd1⟩:=h.open
 obtain ⟨k3,n3,l3,b3,z3,x3,rfl,rfl,hz3,hxs3,hlen3,hbd3⟩:=h'.open
 refine j00 Tryz.func17 rfl rfl rfl ?_
 repeat' ((conv=>whnf);first|apply gO|refine j04 rfl ?_|refine j01 hm rfl rfl ?_)
 all_goals (try (conv=>whnf))
 rfl
theorem jgG (l:Lv) (v:PV) (h:LvP l v):Pf C1 36 [v] [bv (jdy l)]:=by
 have hn:=jkW 0
 have hq:=jcX l (.mk 1 0 []) v _ h (jpp 0)
 have e:jdy l=leqF l (.mk 1 0 []):=rfl
 rw [e]
 obtain ⟨k1,n1,l1,b1,z1,x1,rfl,rfl,hz1,hxs1,hlen1,hbd1⟩:=h.open
 refine j00 Tryz.func36 rfl rfl rfl ?_
 repeat' ((conv=>whnf);first|apply gO|apply gP|refine j04 rfl ?_|refine j05 hn (fun _=>?_)|refine j05 hq (fun _=>?_)|apply gK)
 all_goals (try (conv=>whnf))
 all_goals rfl
theorem jdR (l:Lv) (v:PV) (h:LvP l v) (m:Lv) (w:PV) (h':LvP m w):Pf C1 18 [v,w] [bv (j8a l m)]:=by
 have h1:=jcX l m v w h h'
 have h2:=jcX m l w v h' h
 have e:j8a l m=(leqF l m && leqF m l):=rfl
 obtain ⟨k1,n1,l1,b1,z1,x1,rfl,rfl,hz1,hxs1,hlen1,hbd1⟩:=h.open
 obtain ⟨k3,n3,l3,b3,z3,x3,rfl,rfl,hz3,hxs3,hlen3,hbd3⟩:=h'.open
 refine j00 Tryz.func18 rfl rfl rfl ?_
 repeat' ((conv=>whnf);first|refine gC ?_|refine gD ?_|apply gM<;>intro h|refine j04 rfl ?_|refine j01 h1 rfl rfl ?_|refine j01 h2 rfl rfl ?_)
 all_goals (try (conv=>whnf))
 all_goals
  refine j1R ?_
  simp_all
theorem jdV (l:Lv) (v:PV) (h:LvP l v) (m:Lv) (w:PV) (h':LvP m w):Pf C1 16 [v,w] [encL (j7I l m)]:=by
 have hz:=jgG m w h'
 have hq:=jcX l m v w h h'
 have hn:=jkW 0
 have hx:=j6E m w h' true 3 rfl
 have hi:=jnl l v h m w h'
 have e:j7I l m=if jdy m=true then .mk 1 0 [] else if leqF l m=true then m else jl0 l m:=rfl
 obtain ⟨k2,n2,b2,z2,x2,he2⟩:=j0y m
 obtain ⟨k4,n4,b4,z4,x4,he4⟩:=j0y (jl0 l m)
 obtain ⟨k1,n1,l1,b1,z1,x1,rfl,rfl,hz1,hxs1,hlen1,hbd1⟩:=h.open
 obtain ⟨k3,n3,l3,b3,z3,x3,rfl,rfl,hz3,hxs3,hlen3,hbd3⟩:=h'.open
 by_cases c1:jdy (.mk k3 n3 l3)=true
 ·rw [e,if_pos c1]
  rw [c1] at hz
  refine j00 Tryz.func16 rfl rfl rfl ?_
  repeat' ((conv=>whnf);first|apply gT|apply gO|refine j04 rfl ?_|refine j01 hz rfl rfl ?_|refine j01 hn rfl rfl ?_)
  all_goals (try (conv=>whnf))
  all_goals rfl
 ·rw [e,if_neg c1]
  rw [Bool.not_eq_true] at c1
  rw [c1] at hz
  by_cases c2:leqF (.mk k1 n1 l1) (.mk k3 n3 l3)=true
  ·rw [if_pos c2]
   rw [c2] at hq
   rw [he2] at hx ⊢
   refine j00 Tryz.func16 rfl rfl rfl ?_
   repeat' ((conv=>whnf);first|apply gT|apply gF|apply gO|refine j04 rfl ?_|refine j01 hz rfl rfl ?_|refine j01 hq rfl rfl ?_|refine j01 hx rfl rfl ?_)
   all_goals (try (conv=>whnf))
   all_goals rfl
  ·rw [if_neg c2]
   rw [Bool.not_eq_true] at c2
   rw [c2] at hq
   rw [he4] at hi ⊢
   refine j00 Tryz.func16 rfl rfl rfl ?_
   repeat' ((conv=>whnf);first|apply gF|apply gO|refine j04 rfl ?_|refine j01 hz rfl rfl ?_|refine j01 hq rfl rfl ?_|refine j01 hi rfl rfl ?_)
   all_goals (try (conv=>whnf))
   all_goals rfl
theorem j5q:∀ (ls bys:List Lv),jaC ls bys=ls.map fun l=>j2h l bys
 |[],_=>rfl
 |l :: r,bys=>by rw [jaC,j5q r bys]; rfl
theorem jdJ {n:Int} {ls bys:List Lv}:j2h (.mk 2 n ls) bys=bys.getD n.toNat (.mk 0 0 []):=by simp [j2h,jc8]
theorem jg8 {k n:Int} {ls bys:List Lv} (h:¬ k=2):j2h (.mk k n ls) bys = .mk k n (ls.map fun l=>j2h l bys):=by simp [j2h,jc8,h,j5q]
theorem jgq {n p:Int} {ls:List Lv} (h:allF (.mk 2 n ls) p=true):0 ≤ n∧n < p:=by
 simp only [allF,Bool.and_eq_true] at h
 have h1:=h.1
 simp only [j8k] at h1
 split at h1
 ·simpa using h1
 ·simp at h1
theorem jez {k n p:Int} {ls:List Lv} (h:allF (.mk k n ls) p=true):j3A ls p=true:=by
 simp only [allF,Bool.and_eq_true] at h
 exact h.2
theorem jkz {ls:List Lv} {i:Nat} {l:Lv} {p:Int} (h:j3A ls p=true) (e:ls[i]? = some l):allF l p=true:=j4w h e
theorem jlz (bys:List Lv) (bb:Bool) (bz:Nat) (bxs:List PV) (hbz:bz=3∨bxs=[]) (hbxs:LvsP bys bxs) (hbb:bys.length ≤ 1000000) (l:Lv):∀ v,LvP l v→allF l bys.length=true→Pf C1 303 [v,.sl bb bz bxs] [encL (j2h l bys)]:=by
 induction l using Lv.ind with
 |_ k nn ls ih =>
 intro v h hall
 obtain ⟨_,_,_,b,z,xs,⟨rfl,rfl,rfl⟩,rfl,hz,hxs,hlen,hbd⟩:=h.open
 have hlenb:=hbxs.len
 by_cases hk:k=2
 ·subst hk
  obtain ⟨hn0,hn1⟩:=jgq hall
  obtain ⟨n,rfl⟩:∃ n:Nat,nn=n:=⟨nn.toNat,by omega⟩
  obtain ⟨lc,hlc⟩:∃ lc,bys[n]? = some lc:=⟨_,List.getElem?_eq_getElem (by omega)⟩
  obtain ⟨v,hv,hl⟩:=hbxs.at hlc
  have hc:=j7R lc v hl
  have e:j2h (.mk 2 n ls) bys=lc:=by
   rw [jdJ,List.getD_eq_getElem?_getD,show (n:Int).toNat=n by simp,hlc]
   rfl
  rw [e]
  obtain ⟨k2,n2,b2,z2,x2,he⟩:=j0y lc
  rw [he] at hc ⊢
  obtain ⟨k1,n1,l1,b1,z1,x1,rfl,rfl,hz1,hxs1,hlen1,hbd1⟩:=hl.open
  refine j00 Tryz.func303 rfl rfl rfl ?_
  repeat' ((conv=>whnf);first|apply gT|apply gO|apply gQ|refine j04 rfl ?_|refine VIdx.mk _ hv ?_|refine VOk.mk (j07 rfl hbz) ?_|refine j01 hc rfl rfl ?_)
  all_goals (try (conv=>whnf))
  rfl
 ·rw [jg8 hk]
  refine j00 Tryz.func303 rfl rfl rfl ?_
  repeat' ((conv=>whnf);first|refine gB ?_|refine VOk.mk rfl ?_)
  all_goals (try (conv=>whnf))
  refine j09 (G:=Nat) (fun i=>[(25,iv i)]) (fun i=>match i with
    |0=>[.box 38 [iv k,iv nn,.sl b z xs],.box 38 zLv,.box 38 [iv k,iv nn,.sl true 0 []]]
    |n + 1=>[.box 38 [iv k,iv nn,.sl b z xs],.box 38 zLv,.box 38 [iv k,iv nn,.ms 4 (n + 1)],.dead,.row false 38 3 ((ls.take (n + 1)).map fun l=>encL (j2h l bys))]) (fun i=>i ≤ ls.length) (fun i=>ls.length - i) 0 (by omega) rfl rfl ?_
  intro i hi
  have hround:∀ (hi':i < ls.length),∃ lc,ls[i]? = some lc∧∃ v,xs[i]? = some v∧LvP lc v∧Pf C1 303 [v,.sl bb bz bxs] [encL (j2h lc bys)]:=fun hi'=>by
   obtain ⟨lc,hlc⟩:∃ lc,ls[i]? = some lc:=⟨_,List.getElem?_eq_getElem hi'⟩
   obtain ⟨v,hv,hl⟩:=hxs.at hlc
   exact ⟨lc,hlc,v,hv,hl,ih _ (List.mem_of_getElem? hlc) _ hl (jkz (jez hall) hlc)⟩
  have hpure:∀ (q:Nat) (n:Nat),((ls.take n).map fun l=>encL (j2h l bys)).all (pur (q + 2))=true:=fun q n=>by
   rw [List.all_eq_true]
   intro x hx
   obtain ⟨l,_,rfl⟩:=List.mem_map.1 hx
   exact jd7 _ q
  cases i with
  |zero =>
   repeat' ((conv=>whnf);first|apply gE<;>intro h|apply gO|apply gQ|refine j04 rfl ?_)
   all_goals (try (conv=>whnf))
   ·obtain ⟨lc,hlc,v,hv,hl,hpl⟩:=hround (by omega)
    have e:((ls.take (0 + 1)).map fun l=>encL (j2h l bys))=[encL (j2h lc bys)]:=by rw [take_snoc' hlc]; rfl
    obtain ⟨k2,n2,b2,z2,x2,he⟩:=j0y (j2h lc bys)
    rw [he] at hpl e
    obtain ⟨k1,n1,l1,b1,z1,x1,rfl,rfl,hz1,hxs1,hlen1,hbd1⟩:=hl.open
    refine VIdx.mk _ hv (VOk.mk (j07 rfl hz) ?_)
    repeat' ((conv=>whnf);first|apply gO|apply gP|refine gV ?_|refine j05 hpl (fun _=>?_)|apply gK)
    all_goals (try (conv=>whnf))
    exact VAgain.mk _ rfl _ (j1b (.cons (j06 rfl rfl) (.cons (j06 rfl rfl) (.cons (j06 rfl rfl) (.cons (j06 rfl rfl) (.cons (j0e rfl) .nil))))) (.cons (j06 rfl rfl) (.cons (j06 rfl rfl) (.cons (j06 rfl rfl) (.cons j0o (.cons (j0e rfl) .nil))))) rfl rfl rfl rfl rfl) ⟨1,by omega,by omega,congrArg (fun t=>(⟨_,[.box _ [iv k,iv nn,.sl b z xs],.box _ zLv,.box _ [iv k,iv nn,.ms 4 1],.dead,.row false _ 3 t]⟩:AS)) e.symm⟩
   ·obtain rfl:ls=[]:=List.eq_nil_of_length_eq_zero (by omega)
    rfl
  |succ i =>
   have hln:((ls.take (i + 1)).map fun l=>encL (j2h l bys)).length=i + 1:=by simp; omega
   repeat' ((conv=>whnf);first|apply gE<;>intro h|apply gO|apply gQ)
   all_goals (try (conv=>whnf))
   ·obtain ⟨lc,hlc,v,hv,hl,hpl⟩:=hround (by omega)
    have e:((ls.take (i + 1 + 1)).map fun l=>encL (j2h l bys))=((ls.take (i + 1)).map fun l=>encL (j2h l bys)) ++ [encL (j2h lc bys)]:=by rw [take_snoc' hlc]; simp
    have hp8:(((ls.take (i + 1)).map fun l=>encL (j2h l bys)) ++ [encL (j2h lc bys)]).all (pur 8)=true:=e ▸ hpure 6 _
    obtain ⟨k2,n2,b2,z2,x2,he⟩:=j0y (j2h lc bys)
    rw [he] at hpl e hp8
    obtain ⟨k1,n1,l1,b1,z1,x1,rfl,rfl,hz1,hxs1,hlen1,hbd1⟩:=hl.open
    refine VIdx.mk _ hv (VOk.mk (j07 rfl hz) ?_)
    repeat' ((conv=>whnf);first|apply gO|apply gP|refine gV ?_|refine j05 hpl (fun _=>?_)|refine VOk.mk (j1i (w:=40) (r:=140737488355328) hln rfl rfl rfl rfl (by simp only [List.length_cons,List.length_nil]; omega) (by simp only [List.length_cons,List.length_nil]; omega)) ?_|apply gK)
    all_goals (try (conv=>whnf))
    exact VAgain.mk _ rfl _ (j1b (.cons (j06 rfl rfl) (.cons (j06 rfl rfl) (.cons (j06 rfl rfl) (.cons j0o (.cons (j0e hp8) (.cons (j06 rfl rfl) .nil)))))) (.cons (j06 rfl rfl) (.cons (j06 rfl rfl) (.cons (j06 rfl rfl) (.cons j0o (.cons (j0e hp8) .nil))))) rfl rfl rfl rfl rfl) ⟨i + 1 + 1,by omega,by omega,congrArg (fun t=>(⟨_,[.box _ [iv k,iv nn,.sl b z xs],.box _ zLv,.box _ [iv k,iv nn,.ms 4 (i + 1 + 1)],.dead,.row false _ 3 t]⟩:AS)) e.symm⟩
   ·have hi':i + 1=ls.length:=by omega
    have e:((ls.take (i + 1)).map fun l=>encL (j2h l bys))=(ls.map fun l=>j2h l bys).map encL:=by rw [hi',List.take_length,List.map_map]; rfl
    refine j0s rfl (j08 (j4v (j08 rfl (j08 rfl (j08 (j0E rfl hln.symm (hpure 4 _)) j0n)))) j0n) rfl ?_
    rw [j9b,j6T (by rw [List.length_map]; omega),← e]
theorem ji6 {n:Int} {ls bys:List Lv}:j3m (.mk 2 n ls) bys=j5g (bys.getD n.toNat (.mk 0 0 [])):=by simp [j3m,j5m]
theorem jjR {k n:Int} {ls bys:List Lv} (h:¬ k=2):j3m (.mk k n ls) bys=1 + j1M ls bys:=by simp [j3m,j5m,h]
theorem jec {ls bys:List Lv} {i:Nat} {l:Lv} (h:ls[i]? = some l):j1M (ls.take (i + 1)) bys=j1M (ls.take i) bys + j3m l bys:=by
 induction ls generalizing i with
 |nil=>simp at h
 |cons a r ih =>
  cases i with
  |zero=>simp at h; subst h; simp [j1M]
  |succ i =>
   have:=ih (i:=i) (by simpa using h)
   simp only [List.take_succ_cons,j1M,this]
   omega
theorem j5U (ls:List Lv) (i:Nat):j0c (ls.take i) ≤ j0c ls:=by
 induction ls generalizing i with
 |nil=>simp
 |cons a r ih =>
  cases i with
  |zero=>simp [j0c]
  |succ i=>simp only [List.take_succ_cons,j0c]; have:=ih i; omega
theorem jle (bys:List Lv) (bb:Bool) (bz:Nat) (bxs:List PV) (hbz:bz=3∨bxs=[]) (hbxs:LvsP bys bxs) (hbb:bys.length ≤ 1000000) (l:Lv):∀ v,LvP l v→allF l bys.length=true→j0C l ≤ 100000→Pf C1 302 [v,.sl bb bz bxs] [iv (j3m l bys)]:=by
 induction l using Lv.ind with
 |_ k nn ls ih =>
 intro v h hall hsz
 obtain ⟨_,_,_,b,z,xs,⟨rfl,rfl,rfl⟩,rfl,hz,hxs,hlen,hbd⟩:=h.open
 have hlenb:=hbxs.len
 simp only [j0C] at hsz
 by_cases hk:k=2
 ·subst hk
  obtain ⟨hn0,hn1⟩:=jgq hall
  obtain ⟨n,rfl⟩:∃ n:Nat,nn=n:=⟨nn.toNat,by omega⟩
  obtain ⟨lc,hlc⟩:∃ lc,bys[n]? = some lc:=⟨_,List.getElem?_eq_getElem (by omega)⟩
  obtain ⟨v,hv,hl⟩:=hbxs.at hlc
  have hc:=je4 lc v hl
  have e:j3m (.mk 2 n ls) bys=j5g lc:=by
   rw [ji6,List.getD_eq_getElem?_getD,show (n:Int).toNat=n by simp,hlc]
   rfl
  rw [e]
  obtain ⟨k1,n1,l1,b1,z1,x1,rfl,rfl,hz1,hxs1,hlen1,hbd1⟩:=hl.open
  refine j00 Tryz.func302 rfl rfl rfl ?_
  repeat' ((conv=>whnf);first|apply gT|apply gQ|refine j04 rfl ?_|refine VIdx.mk _ hv ?_|refine VOk.mk (j07 rfl hbz) ?_|refine j01 hc rfl rfl ?_)
  all_goals (try (conv=>whnf))
  all_goals rfl
 ·rw [jjR hk]
  refine j00 Tryz.func302 rfl rfl rfl ?_
  repeat' ((conv=>whnf);first|refine VIf.dff (by assumption) ?_)
  all_goals (try (conv=>whnf))
  refine j09 (G:=Nat) (fun i=>[(20,iv i),(5,iv (1 + j1M (ls.take i) bys))]) (fun _=>_) (fun i=>i ≤ ls.length) (fun i=>ls.length - i) 0 (by omega) rfl rfl ?_
  intro i hi
  repeat' ((conv=>whnf);first|apply gE<;>intro h|apply gQ|refine j04 rfl ?_)
  all_goals (try (conv=>whnf))
  ·have hi':i < ls.length:=by omega
   obtain ⟨lc,hlc⟩:∃ lc,ls[i]? = some lc:=⟨_,List.getElem?_eq_getElem hi'⟩
   obtain ⟨v,hv,hl⟩:=hxs.at hlc
   have hsz1:=j5U ls (i + 1)
   have hsz2:=j5U ls i
   have hszc:j0C lc ≤ 100000:=by
    have h1:=List.mem_of_getElem? hlc
    have:∀ (r:List Lv),lc ∈ r→j0C lc ≤ j0c r:=by
     intro r
     induction r with
     |nil=>intro h; simp at h
     |cons a r ih =>
      intro h
      simp only [j0c]
      rcases List.mem_cons.1 h with rfl|h
      ·omega
      ·have:=ih h; omega
    have:=this ls h1
    omega
   have hr:=ih _ (List.mem_of_getElem? hlc) _ hl (j4w (jez hall) hlc) hszc
   have hb1:=j2L (ls.take (i + 1)) bys
   have hb2:=j2L (ls.take i) bys
   have hsn:=jec (bys:=bys) hlc
   obtain ⟨k1,n1,l1,b1,z1,x1,rfl,rfl,hz1,hxs1,hlen1,hbd1⟩:=hl.open
   repeat' ((conv=>whnf);first|apply gO|refine gV ?_|refine VIdx.mk _ hv ?_|refine VOk.mk (j07 rfl hz) ?_|refine j01 hr rfl rfl ?_)
   all_goals (try (conv=>whnf))
   refine VAgain.mk _ rfl _ (j0h rfl rfl rfl) ⟨i + 1,hi',by omega,?_⟩
   rw [hsn,← Int.add_assoc]
   rfl
  ·rw [List.take_of_length_le (by omega)]
   all_goals rfl
def putL (o:Option Lv):List PV:=match o with
 |some x=>[encL x,bv true]
 |none=>[.ag zLv,bv false]
theorem jlO (bys:List Lv) (bb:Bool) (bz:Nat) (bxs:List PV) (hbz:bz=3∨bxs=[]) (hbxs:LvsP bys bxs) (hbb:bys.length ≤ 1000000) (l:Lv) (v:PV) (h:LvP l v):Pf C1 285 [v,.sl bb bz bxs] (putL (Go.Gw.InstF l bys)):=by
 have hr:=j2c l v h bys.length
 have hlenb:=hbxs.len
 rw [← hlenb] at hr
 have hR:∀ {i lc},bys[i]? = some lc→∃ w,bxs[i]? = some w∧LvP lc w∧Pf C1 51 [w,iv 4] [bv (j0w lc 4)]:=fun hlc=>by
  obtain ⟨w,hw,hl⟩:=hbxs.at hlc
  exact ⟨w,hw,hl,j2c _ w hl 4⟩
 have eI:Go.Gw.InstF l bys=if j0w l bys.length=true then (if j6i bys=true then (if j3m l bys ≤ 64 then some (j2h l bys) else none) else none) else none:=rfl
 rw [← hlenb] at eI
 obtain ⟨k2,n2,b2,z2,x2,he⟩:=j0y (j2h l bys)
 by_cases c1:j0w l bxs.length=true
 ·rw [if_pos c1] at eI
  rw [c1] at hr
  have hall:allF l bys.length=true:=by rw [← hlenb]; exact j2n c1
  have hsz:j0C l ≤ 100000:=by
   simp only [j0w,Bool.and_eq_true,decide_eq_true_eq] at c1
   have:=c1.2.2.1
   rw [j6s] at this
   omega
  have hg:=jle bys bb bz bxs hbz hbxs hbb l v h hall hsz
  have hi:=jlz bys bb bz bxs hbz hbxs hbb l v h hall
  rw [he] at hi
  obtain ⟨k1,n1,l1,b1,z1,x1,rfl,rfl,hz1,hxs1,hlen1,hbd1⟩:=h.open
  refine j00 Tryz.func285 rfl rfl rfl ?_
  repeat' ((conv=>whnf);first|apply gF|refine j01 hr rfl rfl ?_)
  all_goals (try (conv=>whnf))
  refine j09 (G:=Nat) (fun i=>[(16,iv i)]) (fun _=>_) (fun i=>i ≤ bys.length∧j6i (bys.drop i)=j6i bys) (fun i=>bys.length - i) 0 ⟨by omega,rfl⟩ rfl rfl ?_
  rintro i ⟨hi0,hby⟩
  dsimp only at hi0 hby ⊢
  repeat' ((conv=>whnf);first|apply gE<;>intro h|apply gQ)
  all_goals (try (conv=>whnf))
  ·have hi':i < bys.length:=by omega
   obtain ⟨lc,hlc⟩:∃ lc,bys[i]? = some lc:=⟨_,List.getElem?_eq_getElem hi'⟩
   obtain ⟨w,hw,hl,hrc⟩:=hR hlc
   rw [drop_at hlc,j6i] at hby
   obtain ⟨k3,n3,l3,b3,z3,x3,rfl,rfl,hz3,hxs3,hlen3,hbd3⟩:=hl.open
   repeat' ((conv=>whnf);first|apply gN|apply gM<;>intro h|apply gO|refine gV ?_|refine j04 rfl ?_|refine VIdx.mk _ hw ?_|refine VOk.mk (j07 rfl hbz) ?_|refine j01 hrc rfl rfl ?_)
   all_goals (try (conv=>whnf))
   ·rw [(by assumption:j0w (.mk k3 n3 l3) 4=true),Bool.true_and] at hby
    exact VAgain.mk _ rfl _ (j0h rfl rfl rfl) ⟨i + 1,⟨hi',hby⟩,by omega,rfl⟩
   ·rw [(by assumption:j0w (.mk k3 n3 l3) 4=false),Bool.false_and] at hby
    rw [← hby,if_neg (by simp)] at eI
    rw [eI]
    rfl
  ·rw [List.drop_of_length_le (by omega),j6i] at hby
   repeat' ((conv=>whnf);first|apply gE<;>intro h|apply gO|refine j04 rfl ?_|refine j01 hg rfl rfl ?_|refine j01 hi rfl rfl ?_)
   all_goals (try (conv=>whnf))
   ·rw [← hby,if_pos rfl,if_neg (by omega)] at eI
    rw [eI]
    rfl
   ·rw [← hby,if_pos rfl,if_pos (by omega)] at eI
    rw [eI]
    simp only [putL,he]
    rfl
 ·rw [if_neg c1] at eI
  rw [Bool.not_eq_true] at c1
  rw [c1] at hr
  rw [eI]
  obtain ⟨k1,n1,l1,b1,z1,x1,rfl,rfl,hz1,hxs1,hlen1,hbd1⟩:=h.open
  refine j00 Tryz.func285 rfl rfl rfl ?_
  repeat' ((conv=>whnf);first|apply gT|apply gO|refine j04 rfl ?_|refine j01 hr rfl rfl ?_)
  all_goals (try (conv=>whnf))
  all_goals rfl
open Go Go.Am Go.Gw
theorem jky (f:FuncId) (cs:List PV) (hcl:callable C1.P f=true) (hcs:cs.all (pur 8)=true) (p:Tm→Bool) (ts:List Tm) (hf:∀ t ∈ ts,∀ v,TmP t v→Pf C1 f (v :: cs) [bv (p t)]) (b:Bool) (z:Nat) (xs:List PV) (hz:z=5∨xs=[]) (hxs:TmsP ts xs) (hbd:ts.length ≤ 1759218604441):Pf C1 193 [.sl b z xs,.fn f [] cs] [iv (idxT p ts 0)]:=by
 have hlen:=hxs.len
 refine j00 Tryz.func193 rfl rfl rfl ?_
 skip
 all_goals (try (conv=>whnf))
 refine j09 (G:=Nat) (fun i=>[(8,iv i)]) (fun _=>_) (fun i=>i ≤ ts.length∧idxT p (ts.drop i) i=idxT p ts 0) (fun i=>ts.length - i) 0 ⟨by omega,rfl⟩ rfl rfl ?_
 rintro i ⟨hi,hall⟩
 dsimp only at hi hall ⊢
 repeat' ((conv=>whnf);first|apply gE<;>intro h|apply gQ|refine j04 rfl ?_)
 all_goals (try (conv=>whnf))
 ·have hi':i < ts.length:=by omega
  obtain ⟨tc,htc⟩:∃ tc,ts[i]? = some tc:=⟨_,List.getElem?_eq_getElem hi'⟩
  obtain ⟨v,hv,hl⟩:=hxs.at htc
  have hw:=hf _ (List.mem_of_getElem? htc) v hl
  obtain ⟨k1,n1,s1,l1,t1,b1,z1,x1,c1,y1,ys1,rfl,rfl,hz1,hxs1,hlen1,hbd1,hy1,hys1,hlen21,hbd21,hsl1⟩:=hl.open
  rw [drop_at htc,idxT] at hall
  repeat' ((conv=>whnf);first|refine VIdx.mk _ hv ?_|refine VOk.mk (j07 rfl hz) ?_)
  all_goals (try (conv=>whnf))
  simp only [hcl]
  refine j01 hw ?_ rfl ?_
  ·show (true && cs.all (pur 8))=true
   rw [hcs]
   rfl
  repeat' ((conv=>whnf);first|apply gM<;>intro h|refine gV ?_|refine j04 rfl ?_)
  all_goals (try (conv=>whnf))
  ·have hp:p (.mk k1 n1 s1 l1 t1)=true:=by assumption
   rw [if_pos hp] at hall
   rw [← hall]
  ·have hp:p (.mk k1 n1 s1 l1 t1)=false:=by assumption
   rw [if_neg (by simp [hp])] at hall
   exact VAgain.mk _ rfl _ (j0V rfl) ⟨i + 1,⟨hi',hall⟩,by omega,rfl⟩
 ·rw [List.drop_of_length_le (by omega),idxT] at hall
  rw [← hall]
theorem jdr (f:FuncId) (cs:List PV) (hcl:callable C1.P f=true) (hcs:cs.all (pur 7)=true) (hcs8:cs.all (pur 8)=true) (p:Tm→Bool) (ts:List Tm) (hf:∀ t ∈ ts,∀ v,TmP t v→Pf C1 f (v :: cs) [bv (p t)]) (b:Bool) (z:Nat) (xs:List PV) (hz:z=5∨xs=[]) (hxs:TmsP ts xs) (hbd:ts.length ≤ 1759218604441):Pf C1 149 [.sl b z xs,.fn f [] cs] [bv (ts.any p)]:=by
 have hi:=jky f cs hcl hcs8 p ts hf b z xs hz hxs hbd
 refine j00 Tryz.func149 rfl rfl rfl ?_
 skip
 all_goals (try (conv=>whnf))
 refine j01 hi ?_ rfl ?_
 ·show (true && ((true && cs.all (pur 7)) && true))=true
  rw [hcs]
  rfl
 repeat' ((conv=>whnf);first|refine j04 rfl ?_)
 all_goals (try (conv=>whnf))
 rw [← jbQ p ts 0]
theorem jbk:∀ (ts:List Tm),j8T ts = !ts.any fun t=>!j6z t
 |[]=>rfl
 |t :: r=>by
  rw [j8T,List.any_cons,jbk r]
  cases j6z t <;> simp
theorem jm2 (t:Tm):∀ v,TmP t v→Pf C1 274 [v] [bv (j6z t)]:=by
 induction t using Tm.ind with
 |_ k nn s ls ts ih =>
 intro v h
 obtain ⟨_,_,_,_,_,b,z,xs,c,y,ys,⟨rfl,rfl,rfl,rfl,rfl⟩,rfl,hz,hxs,hlen,hbd,hy,hys,hlen2,hbd2,hsl⟩:=h.open
 have h1:∀ t ∈ ts,∀ v,TmP t v→Pf C1 290 [v] [bv (!j6z t)]:=fun t ht v hv=>by
  have hr:=ih t ht v hv
  obtain ⟨k1,n1,s1,l1,t1,b1,z1,x1,c1,y1,ys1,rfl,rfl,-⟩:=hv.open
  refine j00 Tryz.func290 rfl rfl rfl ?_
  repeat' ((conv=>whnf);first|refine j04 rfl ?_|refine j01 hr rfl rfl ?_)
  all_goals (try (conv=>whnf))
 have ha:=jdr 290 [] rfl rfl rfl (fun t=>!j6z t) ts h1 c y ys hy hys hbd2
 have e:=jbk ts
 refine j00 Tryz.func274 rfl rfl rfl ?_
 repeat' ((conv=>whnf);first|apply gT|apply gN|refine gA ?_|refine gB ?_|apply gE<;>intro h|refine j04 rfl ?_|refine j01 ha rfl rfl ?_)
 all_goals (try (conv=>whnf))
 all_goals
  refine j1R ?_
  simp only [j6z]
  first
   |(simp_all; done)
   |(simp_all; intro; omega)
   |(simp_all; omega)
def jaz (t:Tm):Bool:=j0L t 4 1099511627776 && j6z t
theorem jcV (t:Tm) (v:PV) (h:TmP t v):Pf C1 248 [v] [bv (jaz t)]:=by
 have hr:=j0P t v h 4 1099511627776
 have hn:=jm2 t v h
 have e:jaz t=(j0L t 4 1099511627776 && j6z t):=rfl
 obtain ⟨k1,n1,s1,l1,t1,b1,z1,x1,c1,y1,ys1,rfl,rfl,-⟩:=h.open
 refine j00 Tryz.func248 rfl rfl rfl ?_
 repeat' ((conv=>whnf);first|refine gC ?_|refine gD ?_|apply gM<;>intro h|refine j04 rfl ?_|refine j01 hr rfl rfl ?_|refine j01 hn rfl rfl ?_)
 all_goals (try (conv=>whnf))
 all_goals
  refine j1R ?_
  simp_all
theorem j4J (t:Tm) (v:PV) (h:TmP t v):∃ b z ys,Pf C1 216 [v] [.sl b z ys,bv (jaz t)]:=by
 have hr:=jcV t v h
 cases he:jaz t with
 |false =>
  refine ⟨true,0,[],?_⟩
  rw [he] at hr
  obtain ⟨k1,n1,s1,l1,t1,b1,z1,x1,c1,y1,ys1,rfl,rfl,-⟩:=h.open
  refine j00 Tryz.func216 rfl rfl rfl ?_
  repeat' ((conv=>whnf);first|apply gT|refine j04 rfl ?_|refine j01 hr rfl rfl ?_)
  all_goals (try (conv=>whnf))
  all_goals rfl
 |true =>
  have he':=he
  unfold jaz at he'
  rw [Bool.and_eq_true] at he'
  simp only [j0L,Bool.and_eq_true,decide_eq_true_eq] at he'
  obtain ⟨⟨-,-,-,hnd,hall⟩,hnear⟩:=he'
  have hsz:sizT t ≤ 2000:=by rw [j1X] at hnd; omega
  obtain ⟨r,st,⟨ys,rfl,rfl,hp,hl,hpos⟩,N,hN⟩:=jdG t v h _ hall hnear (by omega)
  have hf:Finds C1 249 [.sl true 0 [],v] [] fun r st=>r = .ret [bufP ys]∧st=bufS ys:=⟨_,_,⟨rfl,rfl⟩,N,hN⟩
  clear hN
  refine ⟨false,1,ys,?_⟩
  obtain ⟨y,yr,rfl⟩:∃ y yr,ys=y :: yr:=by
   cases ys with
   |nil=>simp at hpos
   |cons y yr=>exact ⟨y,yr,rfl⟩
  have hp8:=p68 hp
  rw [he] at hr
  obtain ⟨k1,n1,s1,l1,t1,b1,z1,x1,c1,y1,ys1,rfl,rfl,-⟩:=h.open
  refine j00 Tryz.func216 rfl rfl rfl ?_
  repeat' ((conv=>whnf);first|apply gF|refine j01 hr rfl rfl ?_)
  all_goals (try (conv=>whnf))
  refine j1l rfl (Finds.mono hf ?_)
  rintro _ _ ⟨rfl,rfl⟩
  refine ⟨rfl,?_⟩
  refine j5k (.cons (j1T hp8) .nil) rfl ?_
  skip
  all_goals (try (conv=>whnf))
  exact j0s rfl (j08 (j0E (i:=1) (len:=yr.length + 1) rfl (by simp) hp) (j08 rfl j0n)) rfl rfl
end Go.Proofs.YtljnahbgfmflaaaGreatDoor
