/-
  What package term finds. No statement of the seat.
-/
import Derived.Test.YtljnahbgfmflaaaGreatDoorZPl
set_option linter.unusedVariables false
set_option maxRecDepth 100000
set_option linter.unusedSimpArgs false
set_option linter.unnecessarySimpa false
namespace Go.Proofs.YtljnahbgfmflaaaGreatDoor
open Go Go.Am Go.Gw
mutual
def NmT (NM:List UInt8→Prop):Tm→Prop
 | .mk _ _ s _ ts=>NM s∧NmTs NM ts
def NmTs (NM:List UInt8→Prop):List Tm→Prop
 |[]=>True
 |t :: r=>NmT NM t∧NmTs NM r
end
theorem NmTs.mem {NM:List UInt8→Prop}:∀ {ts:List Tm},NmTs NM ts→∀ t ∈ ts,NmT NM t
 |[],_,t,h=>by cases h
 |a :: r,h,t,ht=>by
  simp only [NmTs] at h
  rcases List.mem_cons.1 ht with rfl|ht
  ·exact h.1
  ·exact NmTs.mem h.2 t ht
def NmOk (NM:List UInt8→Prop):Prop:=∀ s,NM s→Pf C1 175 [sv s] [bv (j2G s)]
theorem jjW (l:Lv):∀ v,LvP l v→∀ (left:Int),0 ≤ left→left ≤ 1000000→Finds C1 200 [v,.bp 0 0] [.box 3 [iv left]] fun r st=>r = .ret []∧st=[.box 3 [iv (j1r l left)]]:=by
 induction l using Lv.ind with
 |_ k nn ls ih =>
 intro v h left h0 h1
 obtain ⟨_,_,_,b,z,xs,⟨rfl,rfl,rfl⟩,rfl,hz,hxs,hlen,hbd⟩:=h.open
 refine j00 Tryz.func200 rfl rfl rfl ?_
 repeat' ((conv=>whnf);first|apply gO|refine VArith.fits (by unfold i64; omega) ?_)
 all_goals (try (conv=>whnf))
 refine j09 (G:=Nat × Int) (fun g=>[(14,iv g.1)]) (fun g=>[.box 3 [iv g.2],_]) (fun g=>g.1 ≤ ls.length∧-1 ≤ g.2∧g.2 ≤ 1000000∧j0u (ls.drop g.1) g.2=j0u ls (left - 1)) (fun g=>ls.length - g.1) (0,left - 1) ⟨by omega,by dsimp only; omega,by dsimp only; omega,rfl⟩ rfl rfl ?_
 rintro ⟨i,lf⟩ ⟨hi,hlf0,hlf1,hall⟩
 dsimp only at hi hlf0 hlf1 hall ⊢
 repeat' ((conv=>whnf);first|apply gE<;>intro h|apply gQ|refine j03 rfl rfl ?_)
 all_goals (try (conv=>whnf))
 ·have hi':i < ls.length:=by omega
  obtain ⟨lc,hlc⟩:∃ lc,ls[i]? = some lc:=⟨_,List.getElem?_eq_getElem hi'⟩
  obtain ⟨v,hv,hl⟩:=hxs.at hlc
  obtain ⟨k1,n1,l1,b1,z1,x1,rfl,rfl,hz1,hxs1,hlen1,hbd1⟩:=hl.open
  refine VIdx.mk _ hv (VOk.mk (j07 rfl hz) ?_)
  repeat' ((conv=>whnf);first|apply gE<;>intro h|apply gO|refine j03 rfl rfl ?_)
  all_goals (try (conv=>whnf))
  ·have:j1r (.mk k nn ls) left=lf:=by rw [j1r,← hall,j2V _ _ (by omega)]
   exact ⟨rfl,by rw [this]; rfl⟩
  ·refine j0A rfl rfl rfl rfl rfl rfl (Finds.mono (ih _ (List.mem_of_getElem? hlc) _ hl lf (by omega) (by omega)) ?_)
   rintro _ _ ⟨rfl,rfl⟩
   refine j1K rfl ?_
   repeat' ((conv=>whnf);first|refine VArith.fits (by unfold i64; omega) ?_)
   all_goals (try (conv=>whnf))
   have hcg:=j4H (.mk k1 n1 l1) lf (by omega)
   refine VAgain.mk _ rfl _ (j0h rfl rfl rfl) ⟨(i + 1,j1r (.mk k1 n1 l1) lf),⟨hi',by dsimp only; omega,by dsimp only; omega,?_⟩,by dsimp only; omega,rfl⟩
   rw [← hall,drop_at hlc,j0u,if_neg (by omega)]
 ·have:j1r (.mk k nn ls) left=lf:=by
   obtain rfl:i=ls.length:=by omega
   rw [List.drop_length,j0u] at hall
   rw [j1r,← hall]
  exact ⟨rfl,by rw [this]; rfl⟩
theorem jhN (t:Tm):∀ v,TmP t v→∀ (left:Int),0 ≤ left→left ≤ 1000000→Finds C1 167 [v,.bp 0 0] [.box 3 [iv left]] fun r st=>r = .ret []∧st=[.box 3 [iv (cntT t left)]]:=by
 induction t using Tm.ind with
 |_ k nn s ls ts ih =>
 intro v h left h0 h1
 obtain ⟨_,_,_,_,_,b,z,xs,c,y,ys,⟨rfl,rfl,rfl,rfl,rfl⟩,rfl,hz,hxs,hlen,hbd,hy,hys,hlen2,hbd2,hsl⟩:=h.open
 refine j00 Tryz.func167 rfl rfl rfl ?_
 repeat' ((conv=>whnf);first|apply gO|refine VArith.fits (by unfold i64; omega) ?_)
 all_goals (try (conv=>whnf))
 refine j09 (G:=Nat × Int) (fun g=>[(16,iv g.1)]) (fun g=>[.box 3 [iv g.2],_]) (fun g=>g.1 ≤ ls.length∧-1 ≤ g.2∧g.2 ≤ 1000000∧j0u (ls.drop g.1) g.2=j0u ls (left - 1)) (fun g=>ls.length - g.1) (0,left - 1) ⟨by omega,by dsimp only; omega,by dsimp only; omega,rfl⟩ rfl rfl ?_
 rintro ⟨i,lf⟩ ⟨hi,hlf0,hlf1,hall⟩
 dsimp only at hi hlf0 hlf1 hall ⊢
 repeat' ((conv=>whnf);first|apply gE<;>intro h|apply gQ)
 all_goals (try (conv=>whnf))
 ·have hi':i < ls.length:=by omega
  obtain ⟨lc,hlc⟩:∃ lc,ls[i]? = some lc:=⟨_,List.getElem?_eq_getElem hi'⟩
  obtain ⟨v,hv,hl⟩:=hxs.at hlc
  have hu:=jjW lc _ hl
  obtain ⟨k1,n1,l1,b1,z1,x1,rfl,rfl,hz1,hxs1,hlen1,hbd1⟩:=hl.open
  refine VIdx.mk _ hv (VOk.mk (j07 rfl hz) ?_)
  repeat' ((conv=>whnf);first|apply gE<;>intro h|apply gO|refine j03 rfl rfl ?_)
  all_goals (try (conv=>whnf))
  ·have:cntT (.mk k nn s ls ts) left=lf:=by rw [cntT,← hall,j2V _ _ (by omega),j3P _ _ (by omega)]
   exact ⟨rfl,by rw [this]; rfl⟩
  ·refine j0A rfl rfl rfl rfl rfl rfl (Finds.mono (hu lf (by omega) (by omega)) ?_)
   rintro _ _ ⟨rfl,rfl⟩
   refine j1K rfl ?_
   repeat' ((conv=>whnf);first|refine VArith.fits (by unfold i64; omega) ?_)
   all_goals (try (conv=>whnf))
   have hcg:=j4H (.mk k1 n1 l1) lf (by omega)
   refine VAgain.mk _ rfl _ (j0h rfl rfl rfl) ⟨(i + 1,j1r (.mk k1 n1 l1) lf),⟨hi',by dsimp only; omega,by dsimp only; omega,?_⟩,by dsimp only; omega,rfl⟩
   rw [← hall,drop_at hlc,j0u,if_neg (by omega)]
 ·have hlf:j0u ls (left - 1)=lf:=by
   obtain rfl:i=ls.length:=by omega
   rw [List.drop_length,j0u] at hall
   exact hall.symm
  refine j09 (G:=Nat × Int) (fun g=>[(31,iv g.1)]) (fun g=>[.box 3 [iv g.2],_]) (fun g=>g.1 ≤ ts.length∧-1 ≤ g.2∧g.2 ≤ 1000000∧j4j (ts.drop g.1) g.2=j4j ts lf) (fun g=>ts.length - g.1) (0,lf) ⟨by omega,by dsimp only; omega,by dsimp only; omega,rfl⟩ rfl rfl ?_
  rintro ⟨j,lg⟩ ⟨hj,hlg0,hlg1,hallg⟩
  dsimp only at hj hlg0 hlg1 hallg ⊢
  repeat' ((conv=>whnf);first|apply gE<;>intro h|apply gQ|refine j03 rfl rfl ?_)
  all_goals (try (conv=>whnf))
  ·have hj':j < ts.length:=by omega
   obtain ⟨tc,htc⟩:∃ tc,ts[j]? = some tc:=⟨_,List.getElem?_eq_getElem hj'⟩
   obtain ⟨v,hv,hl⟩:=hys.at htc
   obtain ⟨k1,n1,s1,l1,t1,b1,z1,x1,c1,y1,ys1,rfl,rfl,hz1,hxs1,hlen1,hbd1,hy1,hys1,hlen21,hbd21,hsl1⟩:=hl.open
   refine VIdx.mk _ hv (VOk.mk (j07 rfl hy) ?_)
   repeat' ((conv=>whnf);first|apply gE<;>intro h|apply gO|refine j03 rfl rfl ?_)
   all_goals (try (conv=>whnf))
   ·have:cntT (.mk k nn s ls ts) left=lg:=by rw [cntT,hlf,← hallg,j3P _ _ (by omega)]
    exact ⟨rfl,by rw [this]; rfl⟩
   ·refine j0A rfl rfl rfl rfl rfl rfl (Finds.mono (ih _ (List.mem_of_getElem? htc) _ hl lg (by omega) (by omega)) ?_)
    rintro _ _ ⟨rfl,rfl⟩
    refine j1K rfl ?_
    repeat' ((conv=>whnf);first|refine VArith.fits (by unfold i64; omega) ?_)
    all_goals (try (conv=>whnf))
    have hcg:=jcH (.mk k1 n1 s1 l1 t1) lg (by omega)
    refine VAgain.mk _ rfl _ (j0h rfl rfl rfl) ⟨(j + 1,cntT (.mk k1 n1 s1 l1 t1) lg),⟨hj',by dsimp only; omega,by dsimp only; omega,?_⟩,by dsimp only; omega,rfl⟩
    rw [← hallg,drop_at htc,j4j,if_neg (by omega)]
  ·have:cntT (.mk k nn s ls ts) left=lg:=by
    obtain rfl:j=ts.length:=by omega
    rw [List.drop_length,j4j] at hallg
    rw [cntT,hlf,← hallg]
   exact ⟨rfl,by rw [this]; rfl⟩
theorem j1A (t:Tm) (v:PV) (h:TmP t v):Pf C1 117 [v] [iv (j0x t)]:=by
 have h0:=h
 obtain ⟨k,nn,s,ls,ts,b,z,xs,c,y,ys,rfl,rfl,hz,hxs,hlen,hbd,hy,hys,hlen2,hbd2,hsl⟩:=h.open
 have hcg:=jcH (.mk k nn s ls ts) 2000 (by omega)
 refine j00 Tryz.func117 rfl rfl rfl ?_
 repeat' ((conv=>whnf);first|refine VOk.mk rfl ?_)
 all_goals (try (conv=>whnf))
 refine j0A rfl rfl rfl rfl rfl rfl (Finds.mono (jhN _ _ h0 2000 (by omega) (by omega)) ?_)
 rintro _ _ ⟨rfl,rfl⟩
 refine j1K rfl ?_
 repeat' ((conv=>whnf);first|refine gV ?_|refine j04 rfl ?_)
 all_goals (try (conv=>whnf))
 all_goals simp only [j0x,jgs]
 all_goals simp_all
 all_goals omega
def j4U (a l b:Int):PV:=.ag [iv a,iv l,iv b]
def joO:List PV:=[j4U 0 0 0,j4U 0 0 (-1),j4U 0 1 (-1),j4U 0 0 (-1),j4U 2 0 (-1),j4U 2 0 1,j4U 2 0 1,j4U 3 0 2]
theorem ji1:∃ b,Pf C1 201 [] [.sl b 3 joO]:=by
 first
  |exact ⟨true,jfn (st':=[]) 3 (by kernel_rfl)⟩
  |exact ⟨false,jfn (st':=[]) 3 (by kernel_rfl)⟩
theorem jhD (k:Int):Pf C1 168 [iv k] [j4U (j0T k) (j0H k) (if 1 ≤ k∧k ≤ 7 then j0j k else 0),bv (decide (1 ≤ k) && decide (k ≤ 7))]:=by
 obtain ⟨b,hs⟩:=ji1
 refine j00 Tryz.func168 rfl rfl rfl ?_
 repeat' ((conv=>whnf);first|apply gT|refine gA ?_|refine gB ?_|apply gE<;>intro h|apply gO|refine j04 rfl ?_|refine j01 hs rfl rfl ?_)
 all_goals (try (conv=>whnf))
 ·have:¬ (1 ≤ k∧k ≤ 7):=by omega
  rw [j0T,if_neg (by omega),if_neg (by omega),j0H,if_neg (by omega),if_neg this]
  simp
  exact ⟨rfl,by omega⟩
 ·have:¬ (1 ≤ k∧k ≤ 7):=by omega
  rw [j0T,if_neg (by omega),if_neg (by omega),j0H,if_neg (by omega),if_neg this]
  simp
  exact ⟨rfl,by omega⟩
 ·obtain rfl|rfl|rfl|rfl|rfl|rfl|rfl:k=1∨k=2∨k=3∨k=4∨k=5∨k=6∨k=7:=by omega
  all_goals
   repeat' ((conv=>whnf);first|apply gO|apply gQ|refine j04 rfl ?_|refine VIdx.mk _ rfl ?_)
   all_goals (try (conv=>whnf))
   rfl
theorem jl3 (a l b i d:Int) (hd:d ≤ 4611686018427387904) (hd0:0 ≤ d):Pf C1 170 [j4U a l b,iv i,iv d] [iv (j0m b i d)]:=by
 refine j00 Tryz.func170 rfl rfl rfl ?_
 repeat' ((conv=>whnf);first|apply gE<;>intro h|refine gV ?_|refine j04 rfl ?_)
 all_goals (try (conv=>whnf))
 all_goals simp_all [j0m]
theorem jlJ (t:Tm) (v:PV) (h:TmP t v) (a b kk:Int) (hnm:Pf C1 175 [sv t.name] [bv (j2G t.name)]):Pf C1 169 [v,j4U a (j0H t.kind) b,iv kk] [bv (j2Z t kk)]:=by
 obtain ⟨k,n,s,ls,ts,b,z,xs,c,y,ys,rfl,rfl,hz,hxs,hlen,hbd,hy,hys,hlen2,hbd2,hsl⟩:=h.open
 simp only [Tm.name,Tm.kind] at hnm ⊢
 refine j00 Tryz.func169 rfl rfl rfl ?_
 repeat' ((conv=>whnf);first|apply gF|refine gA ?_|refine gB ?_|apply gE<;>intro h|refine gC ?_|refine gD ?_|apply gM<;>intro h|refine j04 rfl ?_|refine j01 hnm rfl rfl ?_|refine VRes.mk _ seql ?_)
 all_goals (try (conv=>whnf))
 all_goals simp_all [j2Z]
 all_goals first|done|omega|(intros; omega)
theorem jms {NM:List UInt8→Prop} (hNM:NmOk NM) (t:Tm):∀ v,TmP t v→NmT NM t→∀ n kk:Int,0 ≤ kk→kk + depT t ≤ 2251799813685248→Pf C1 118 [v,iv n,iv kk] [bv (allT t n kk)]:=by
 induction t using Tm.ind with
 |_ k nn s ls ts ih =>
 intro v h hnt n kk hk0 hk1
 simp only [NmT] at hnt
 have hnode:=fun a b=>jlJ _ v h a b kk (hNM s hnt.1)
 have hsh:=jhD k
 obtain ⟨_,_,_,_,_,b,z,xs,c,y,ys,⟨rfl,rfl,rfl,rfl,rfl⟩,rfl,hz,hxs,hlen,hbd,hy,hys,hlen2,hbd2,hsl⟩:=h.open
 simp only [Tm.kind] at hnode
 rw [depT] at hk1
 refine j00 Tryz.func118 rfl rfl rfl ?_
 repeat' ((conv=>whnf);first|apply gT|apply gN|refine gA ?_|refine gB ?_|apply gE<;>intro h|refine gC ?_|refine gD ?_|apply gM<;>intro h|apply gO|refine j04 rfl ?_|refine j01 hsh rfl rfl ?_|refine j01 (hnode _ _) rfl rfl ?_)
 all_goals (try (conv=>whnf))
 ·have hk17:1 ≤ k∧k ≤ 7:=by simp_all
  have hall0:allT (.mk k nn s ls ts) n kk=(j1m ls n && j0J ts k 0 n kk):=by simp_all [allT]
  rw [if_pos hk17]
  refine j09 (G:=Nat) (fun i=>[(39,iv i)]) (fun _=>_) (fun i=>i ≤ ls.length∧j1m (ls.drop i) n=j1m ls n) (fun i=>ls.length - i) 0 ⟨by omega,rfl⟩ rfl rfl ?_
  rintro i ⟨hi,hall⟩
  repeat' ((conv=>whnf);first|apply gE<;>intro h|apply gQ)
  all_goals (try (conv=>whnf))
  ·have hi':i < ls.length:=by omega
   obtain ⟨lc,hlc⟩:∃ lc,ls[i]? = some lc:=⟨_,List.getElem?_eq_getElem hi'⟩
   obtain ⟨v,hv,hl⟩:=hxs.at hlc
   have hr:=j2c lc _ hl n
   obtain ⟨k1,n1,l1,b1,z1,x1,rfl,rfl,hz1,hxs1,hlen1,hbd1⟩:=hl.open
   refine VIdx.mk _ hv (VOk.mk (j07 rfl hz) ?_)
   rw [drop_at hlc] at hall
   simp only [j1m] at hall
   repeat' ((conv=>whnf);first|apply gN|apply gM<;>intro h|apply gO|refine gV ?_|refine j04 rfl ?_|refine j01 hr rfl rfl ?_)
   all_goals (try (conv=>whnf))
   ·refine VAgain.mk _ rfl _ (j0h rfl rfl rfl) ⟨i + 1,⟨hi',?_⟩,by omega,rfl⟩
    rw [← hall,h]
    rfl
   ·have:j1m ls n=false:=by
     rw [← hall,h]
     rfl
    rw [hall0,this]
    rfl
  ·have hls:j1m ls n=true:=by
    rw [← hall,List.drop_of_length_le (by omega)]
    rfl
   refine j09 (G:=Nat) (fun i=>[(51,iv i)]) (fun _=>_) (fun j=>j ≤ ts.length∧j0J (ts.drop j) k j n kk=j0J ts k 0 n kk) (fun i=>ts.length - i) 0 ⟨by omega,rfl⟩ rfl rfl ?_
   rintro j ⟨hj,hallj⟩
   repeat' ((conv=>whnf);first|apply gE<;>intro h|apply gQ|refine j04 rfl ?_)
   all_goals (try (conv=>whnf))
   ·have hj':j < ts.length:=by omega
    obtain ⟨tc,htc⟩:∃ tc,ts[j]? = some tc:=⟨_,List.getElem?_eq_getElem hj'⟩
    obtain ⟨v,hv,hl⟩:=hys.at htc
    have hmem:=List.mem_of_getElem? htc
    have hdep:=j7e hmem
    have hin:=jl3 (j0T k) (j0H k) (j0j k) j kk (by omega) hk0
    have hinb:0 ≤ j0m (j0j k) j kk∧j0m (j0j k) j kk ≤ kk + 1:=by unfold j0m; split <;> omega
    have hrec:=ih _ hmem _ hl (hnt.2.mem _ hmem) n (j0m (j0j k) j kk) hinb.1 (by omega)
    obtain ⟨k1,n1,s1,l1,t1,b1,z1,x1,c1,y1,ys1,rfl,rfl,hz1,hxs1,hlen1,hbd1,hy1,hys1,hlen21,hbd21,hsl1⟩:=hl.open
    refine VIdx.mk _ hv (VOk.mk (j07 rfl hy) ?_)
    rw [drop_at htc] at hallj
    simp only [j0J] at hallj
    repeat' ((conv=>whnf);first|apply gN|apply gM<;>intro h|apply gO|apply gP|refine gV ?_|refine j04 rfl ?_|refine j05 hin (fun _=>?_)|refine j05 hrec (fun _=>?_)|apply gK)
    all_goals (try (conv=>whnf))
    ·refine VAgain.mk _ rfl _ (j0h rfl rfl rfl) ⟨j + 1,⟨hj',?_⟩,by omega,rfl⟩
     rw [← hallj,h,Int.natCast_add]
     rfl
    ·have:j0J ts k 0 n kk=false:=by
      rw [← hallj,h]
      rfl
     rw [hall0,hls,this]
     rfl
   ·have hts:j0J ts k 0 n kk=true:=by
     rw [← hallj,List.drop_of_length_le (by omega)]
     rfl
    rw [hall0,hls,hts]
    rfl
 all_goals simp_all [allT]
 all_goals first|done|omega|(intros; omega)
theorem jiG {NM:List UInt8→Prop} (hNM:NmOk NM) (t:Tm) (v:PV) (h:TmP t v) (hnt:NmT NM t) (n kk:Int):Pf C1 76 [v,iv n,iv kk] [bv (j0L t n kk)]:=by
 have hn:=j1A t v h
 have ha:=fun (h0:0 ≤ kk) (h1:j0x t ≤ 2000)=>jms hNM t v h hnt n (min kk 1125899906842624) (by omega) (by have:=jdT h1; omega)
 rw [show min kk 1125899906842624=if 1125899906842624 < kk then 1125899906842624 else kk from (jdZ _ _).symm] at ha
 obtain ⟨k,nn,s,ls,ts,b,z,xs,c,y,ys,rfl,rfl,hz,hxs,hlen,hbd,hy,hys,hlen2,hbd2,hsl⟩:=h.open
 refine j00 Tryz.func76 rfl rfl rfl ?_
 repeat' ((conv=>whnf);first|apply gF|refine gA ?_|refine gB ?_|apply gE<;>intro h|refine j04 rfl ?_|refine j01 hn rfl rfl ?_|refine j01 (ha (by assumption) (by assumption)) rfl rfl ?_)
 all_goals (try (conv=>whnf))
 all_goals simp only [j0L,← jdZ]
 all_goals simp_all
 all_goals first|done|rfl|omega|(intros; omega)
end Go.Proofs.YtljnahbgfmflaaaGreatDoor
