/-
  Levels and terms as bytes: that they are made; which terms have bytes. No statement of the seat.
-/
import Derived.Test.YtljnahbgfmflaaaGreatDoorZKa
import Derived.Test.YtljnahbgfmflaaaGreatDoorZTf
set_option linter.unusedVariables false
set_option maxHeartbeats 1000000
set_option maxRecDepth 100000
set_option linter.unusedSimpArgs false
set_option linter.unnecessarySimpa false
namespace Go.Proofs.YtljnahbgfmflaaaGreatDoor
open Go Go.Am Go.Gw
theorem j0z {f:FuncId} {a y:PV} {yr:List PV} {i n q:Nat} {st:Sto} {K:AEnd→Sto→Prop} (hraw:C1.raw f=true) (ha:pur 8 a=true) (hn:n=yr.length + 1) (hst:st[i]? = some (.row false 5 1 (y :: yr))) (hp:(y :: yr).all (pur 6)=true)
  (h:Finds C1 f [bufP (y :: yr),a] (bufS (y :: yr)) (Put1 (y :: yr) q))
  (k:∀ z zr,(z :: zr).all (pur 6)=true→(z :: zr).length ≤ (y :: yr).length + q→K (.ret [.ms i (zr.length + 1)]) (st.set i (.row false 5 1 (z :: zr)))):VCall C1 f [.ms i n,a] st K:=by
 subst hn
 have hi:=j7v ha
 have hR:=j1T (b:=false) (T:=5) (z:=1) (p68 hp)
 have hRs:∀ f,soIn f (.row false 5 1 (y :: yr))=true:=fun f=>hR.sh.2 f (fun j hj=>nomatch hj)
 have hids:[PV.ms i (yr.length + 1),a].flatMap (ids 8)=[i]:=by
  rw [List.flatMap_cons,List.flatMap_cons,hi.1]
  rfl
 have hel:[i].elem i=true:=by simp
 refine j0A (args':=[.ms i (yr.length + 1),a]) (args0:=[bufP (y :: yr),a]) (st0:=bufS (y :: yr)) (π:=[i]) (by unfold handed; rw [hraw]) rfl ?_ ?_ ?_ ?_ (Finds.mono h ?_)
 ·rw [hids]
  simp only [close,List.elem_nil,hst,hR.sh.1,List.append_nil,List.reverse_cons,List.reverse_nil,List.nil_append]
 ·rw [List.all_cons,List.all_cons,hi.2]
  show ([i].elem i && _)=true
  rw [hel]
  rfl
 ·simp only [fetch,mapO,hst,hRs,hR.ren]
  rfl
 ·rw [List.map_cons,List.map_cons,j5z ha]
  have e:place i 0 [i]=0:=by simp [place]
  show [PV.ms (place i 0 [i]) (yr.length + 1),a]=_
  rw [e]
  rfl
 ·rintro _ _ ⟨ys,rfl,rfl,hyp,hyl,hpos⟩
  obtain ⟨z,zr,rfl⟩:∃ z zr,ys=z :: zr:=by
   cases ys with
   |nil=>simp at hpos
   |cons z zr=>exact ⟨z,zr,rfl⟩
  have hZ:=j1T (b:=false) (T:=5) (z:=1) (p68 hyp)
  have hZs:∀ f,soIn f (.row false 5 1 (z :: zr))=true:=fun f=>hZ.sh.2 f (fun j hj=>nomatch hj)
  refine j1K ?_ ?_
  ·simp only [bufP,bufS,List.all_cons,List.all_nil,hZs]
   rfl
  ·have:=k z zr hyp hyl
   simp only [bufP,bufS,j1D,hZ.ren,List.length_cons,List.length_nil,List.drop_succ_cons,List.drop_zero,List.map_nil,List.append_nil]
   exact this
theorem joC {k n:Int} {ls:List Lv} (h:allF (.mk k n ls) 4=true):(1 ≤ k∧k ≤ 5)∧(0 ≤ n∧n ≤ 100)∧j3A ls 4=true:=by
 simp only [allF,Bool.and_eq_true] at h
 obtain ⟨h1,h2⟩:=h
 simp only [j8k,jd8] at h1
 refine ⟨?_,?_,h2⟩ <;> (repeat' split at h1) <;> simp_all <;> omega
theorem j4w {ls:List Lv} {i:Nat} {l:Lv} {p:Int} (h:j3A ls p=true) (e:ls[i]? = some l):allF l p=true:=by
 induction ls generalizing i with
 |nil=>simp at e
 |cons a r ih =>
  simp only [j3A,Bool.and_eq_true] at h
  cases i with
  |zero=>simp at e; subst e; exact h.1
  |succ i=>exact ih h.2 (by simpa using e)
theorem j1S (l:Lv):∀ v,LvP l v→allF l 4=true→∀ (x:PV) (xr:List PV),(x :: xr).all (pur 6)=true→(x :: xr).length + 12 * j0C l ≤ 100000000→Finds C1 277 [bufP (x :: xr),v] (bufS (x :: xr)) (Put1 (x :: xr) (12 * j0C l)):=by
 induction l using Lv.ind with
 |_ k nn ls ih =>
 intro v h hall x xr hp hl
 obtain ⟨_,_,_,b,z,xs,⟨rfl,rfl,rfl⟩,rfl,hz,hxs,hlen,hbd⟩:=h.open
 have hp8:=p68 hp
 refine j00 Tryz.func277 rfl rfl rfl ?_
 have hb:=joC hall
 have hk:=j3n k (by omega) (by omega) true
 have hn:=j3n nn (by omega) (by omega) true
 have hlf:=jn1 k
 simp only [j0C] at hl ⊢
 simp only [bufP,bufS]
 repeat' ((conv=>whnf);first|apply gM<;>intro h|refine j01 hlf rfl rfl ?_|refine j0z rfl rfl rfl rfl hp (hk _ hp (by omega)) (fun z0 zr0 hp0 hl0=>?_)|refine j0z rfl rfl rfl rfl hp0 (hn _ hp0 (by omega)) (fun z1 zr1 hp1 hl1=>?_))
 all_goals (try (conv=>whnf))
 ·refine j09 (G:=Nat × PV × List PV) (fun g=>[(23,iv g.1),(0,.ms 0 (g.2.2.length + 1))]) (fun g=>[.row false 5 1 (g.2.1 :: g.2.2),_]) (fun g=>g.1 ≤ ls.length∧(g.2.1 :: g.2.2).all (pur 6)=true∧(g.2.1 :: g.2.2).length + 12 * j0c (ls.drop g.1) ≤ (x :: xr).length + 12 * (1 + j0c ls)) (fun g=>ls.length - g.1) (0,z1,zr1) ⟨by omega,hp1,by simp only [List.drop_zero,List.length_cons] at *; omega⟩ rfl rfl ?_
  rintro ⟨i,y,yr⟩ ⟨hi,hpy,hly⟩
  dsimp only at hi hpy hly ⊢
  have hp8:=p68 hpy
  repeat' ((conv=>whnf);first|apply gE<;>intro h|apply gQ)
  all_goals (try (conv=>whnf))
  ·have hi':i < ls.length:=by omega
   obtain ⟨lc,hlc⟩:∃ lc,ls[i]? = some lc:=⟨_,List.getElem?_eq_getElem hi'⟩
   obtain ⟨v,hv,hlv⟩:=hxs.at hlc
   have hac:=j4w hb.2.2 hlc
   have hsz:j0c (ls.drop i)=j0C lc + j0c (ls.drop (i + 1)):=by rw [drop_at hlc,j0c]
   have hrec:=ih _ (List.mem_of_getElem? hlc) _ hlv hac y yr hpy (by simp only [List.length_cons] at hly hl ⊢; omega)
   obtain ⟨k1,n1,l1,b1,z1,x1,rfl,rfl,hz1,hxs1,hlen1,hbd1⟩:=hlv.open
   repeat' ((conv=>whnf);first|apply gO|refine gV ?_|refine VIdx.mk _ hv ?_|refine VOk.mk (j07 rfl hz) ?_|refine j0z rfl rfl rfl rfl hpy hrec (fun w wr hpw hlw=>?_))
   all_goals (try (conv=>whnf))
   have hp8:=p68 hpw
   refine VAgain.mk _ rfl _ (j1b (.cons (j0e hp8) (.cons (j06 rfl rfl) (.cons (j06 rfl rfl) .nil))) (.cons (j0e hp8) (.cons (j06 rfl rfl) .nil)) rfl rfl rfl rfl rfl) ⟨(i + 1,w,wr),⟨hi',hpw,?_⟩,by dsimp only; omega,rfl⟩
   simp only [List.length_cons] at hly hlw ⊢
   omega
  ·refine j1t (.inl ⟨rfl,rfl,rfl⟩) rfl (j1b (.cons (j0e hp8) (.cons (j06 rfl rfl) .nil)) (.cons (j0e hp8) .nil) rfl rfl rfl rfl rfl) (j1P rfl) (j2k hpy ?_ rfl _ _ rfl rfl)
   simp only [List.length_cons] at hly ⊢
   omega
 ·refine j09 (G:=Nat × PV × List PV) (fun g=>[(23,iv g.1),(0,.ms 0 (g.2.2.length + 1))]) (fun g=>[.row false 5 1 (g.2.1 :: g.2.2),_]) (fun g=>g.1 ≤ ls.length∧(g.2.1 :: g.2.2).all (pur 6)=true∧(g.2.1 :: g.2.2).length + 12 * j0c (ls.drop g.1) ≤ (x :: xr).length + 12 * (1 + j0c ls)) (fun g=>ls.length - g.1) (0,z0,zr0) ⟨by omega,hp0,by simp only [List.drop_zero,List.length_cons] at *; omega⟩ rfl rfl ?_
  rintro ⟨i,y,yr⟩ ⟨hi,hpy,hly⟩
  dsimp only at hi hpy hly ⊢
  have hp8:=p68 hpy
  repeat' ((conv=>whnf);first|apply gE<;>intro h|apply gQ)
  all_goals (try (conv=>whnf))
  ·have hi':i < ls.length:=by omega
   obtain ⟨lc,hlc⟩:∃ lc,ls[i]? = some lc:=⟨_,List.getElem?_eq_getElem hi'⟩
   obtain ⟨v,hv,hlv⟩:=hxs.at hlc
   have hac:=j4w hb.2.2 hlc
   have hsz:j0c (ls.drop i)=j0C lc + j0c (ls.drop (i + 1)):=by rw [drop_at hlc,j0c]
   have hrec:=ih _ (List.mem_of_getElem? hlc) _ hlv hac y yr hpy (by simp only [List.length_cons] at hly hl ⊢; omega)
   obtain ⟨k1,n1,l1,b1,z1,x1,rfl,rfl,hz1,hxs1,hlen1,hbd1⟩:=hlv.open
   repeat' ((conv=>whnf);first|apply gO|refine gV ?_|refine VIdx.mk _ hv ?_|refine VOk.mk (j07 rfl hz) ?_|refine j0z rfl rfl rfl rfl hpy hrec (fun w wr hpw hlw=>?_))
   all_goals (try (conv=>whnf))
   have hp8:=p68 hpw
   refine VAgain.mk _ rfl _ (j1b (.cons (j0e hp8) (.cons (j06 rfl rfl) (.cons (j06 rfl rfl) .nil))) (.cons (j0e hp8) (.cons (j06 rfl rfl) .nil)) rfl rfl rfl rfl rfl) ⟨(i + 1,w,wr),⟨hi',hpw,?_⟩,by dsimp only; omega,rfl⟩
   simp only [List.length_cons] at hly hlw ⊢
   omega
  ·refine j1t (.inl ⟨rfl,rfl,rfl⟩) rfl (j1b (.cons (j0e hp8) (.cons (j06 rfl rfl) .nil)) (.cons (j0e hp8) .nil) rfl rfl rfl rfl rfl) (j1P rfl) (j2k hpy ?_ rfl _ _ rfl rfl)
   simp only [List.length_cons] at hly ⊢
   omega
mutual
def j6z:Tm→Bool
 | .mk k n _ _ ts=>(!decide (k=1) || decide (n < 1099511627776)) && j8T ts
def j8T:List Tm→Bool
 |[]=>true
 |t :: r=>j6z t && j8T r
end
theorem j3T {ts:List Tm} {i:Nat} {t:Tm} (h:j8T ts=true) (e:ts[i]? = some t):j6z t=true:=by
 induction ts generalizing i with
 |nil=>simp at e
 |cons a r ih =>
  simp only [j8T,Bool.and_eq_true] at h
  cases i with
  |zero=>simp at e; subst e; exact h.1
  |succ i=>exact ih h.2 (by simpa using e)
theorem j2T {ls:List Lv} {i:Nat} {l:Lv} {p:Int} (h:j1m ls p=true) (e:ls[i]? = some l):j0w l p=true:=by
 induction ls generalizing i with
 |nil=>simp at e
 |cons a r ih =>
  simp only [j1m,Bool.and_eq_true] at h
  cases i with
  |zero=>simp at e; subst e; exact h.1
  |succ i=>exact ih h.2 (by simpa using e)
theorem j2n {l:Lv} {p:Int} (h:j0w l p=true):allF l p=true:=by
 simp only [j0w,Bool.and_eq_true] at h
 exact h.2.2.2
theorem jpz {k n:Int} {s:List UInt8} {ls:List Lv} {ts:List Tm} {kk:Int} (h:allT (.mk k n s ls ts) 4 kk=true) (hn:j6z (.mk k n s ls ts)=true):(1 ≤ k∧k ≤ 7)∧(k=1→0 ≤ n∧n ≤ 1099511627776)∧s.length ≤ 40∧(ls.length:Int) ≤ 4∧j1m ls 4=true∧j8T ts=true:=by
 obtain ⟨hk,hl,hnd,hls,hts⟩:=j0r h
 simp only [j6z,Bool.and_eq_true] at hn
 simp only [j2Z] at hnd
 refine ⟨hk,?_,?_,?_,hls,hn.2⟩
 ·intro h1
  rw [if_pos h1] at hnd
  have:=hn.1
  simp [h1] at this hnd
  omega
 ·split at hnd
  ·simp at hnd; simp [hnd.2.2.1]
  ·split at hnd
   ·simp [j2G] at hnd; omega
   ·simp at hnd; simp [hnd.2.1]
 ·split at hnd
  ·simp at hnd; simp [hnd.2.2.2]
  ·split at hnd
   ·simp at hnd; omega
   ·have h3:j0H k ≤ 1:=by unfold j0H; split <;> omega
    simp only [Bool.and_eq_true,decide_eq_true_eq] at hnd
    omega
theorem j6c (t:Tm):∀ v,TmP t v→∀ kk:Int,allT t 4 kk=true→j6z t=true→∀ (x:PV) (xr:List PV),(x :: xr).all (pur 6)=true→(x :: xr).length + 64 * sizT t ≤ 100000000→Finds C1 249 [bufP (x :: xr),v] (bufS (x :: xr)) (Put1 (x :: xr) (64 * sizT t)):=by
 induction t using Tm.ind with
 |_ k nn s ls ts ih =>
 intro v h kk hall hnear x xr hp hl
 obtain ⟨hk17,hnn,hs40,hls4,hrl,hnts⟩:=jpz hall hnear
 have hats:=(j0r hall).2.2.2.2
 obtain ⟨_,_,_,_,_,b,z,xs,c,y,ys,⟨rfl,rfl,rfl,rfl,rfl⟩,rfl,hz,hxs,hlen,hbd,hy,hys,hlen2,hbd2,hsl⟩:=h.open
 have hp8:=p68 hp
 have hk:=j3n k (by omega) (by omega) true
 have hn:=fun h=>j3n nn (hnn h).1 (hnn h).2 true
 have hc:=j3n xs.length (by omega) (by omega) true
 obtain ⟨tx,htx,htl,htp,hT⟩:=jb8 s (by omega) true
 obtain ⟨q,qr,rfl⟩:∃ q qr,tx=q :: qr:=by
  cases tx with
  |nil=>simp at htp
  |cons q qr=>exact ⟨q,qr,rfl⟩
 have hcat:∀ {z:PV} {zr:List PV},(z :: zr).all (pur 6)=true→(z :: (zr ++ q :: qr)).all (pur 6)=true:=fun {z zr} h=>by
  rw [show z :: (zr ++ q :: qr)=(z :: zr) ++ q :: qr from rfl,List.all_append,h,htx]
  rfl
 refine j00 Tryz.func249 rfl rfl rfl ?_
 simp only [sizT] at hl ⊢
 simp only [bufP,bufS]
 repeat' ((conv=>whnf);first|apply gE<;>intro h|apply gO|refine j0z rfl rfl rfl rfl hp (hk _ hp (by omega)) (fun z0 zr0 hp0 hl0=>?_)|refine j0z rfl rfl rfl rfl hp0 (hn (by omega) _ hp0 (by omega)) (fun z1 zr1 hp1 hl1=>?_)|refine j01 hT rfl rfl ?_|refine VOk.mk (j1i (w:=1) (r:=140737488355328) (by simp:(z0 :: zr0).length=zr0.length + 1) rfl rfl rfl rfl (by simp only [List.length_cons] at *; omega) (by simp only [List.length_cons] at *; omega)) ?_|refine j0z (y:=z0) (yr:=zr0 ++ q :: qr) rfl rfl (by simp; omega) rfl (hcat hp0) (hc _ (hcat hp0) (by simp only [List.length_cons,List.length_append] at *; omega)) (fun z2 zr2 hp2 hl2=>?_))
 all_goals (try (conv=>whnf))
 ·refine j09 (G:=Nat × PV × List PV) (fun g=>[(40,iv g.1),(0,.ms 0 (g.2.2.length + 1))]) (fun g=>[.row false 5 1 (g.2.1 :: g.2.2),_]) (fun g=>g.1 ≤ ls.length∧(g.2.1 :: g.2.2).all (pur 6)=true∧(g.2.1 :: g.2.2).length + 12 * j0c (ls.drop g.1) ≤ (x :: xr).length + 58 + 12 * j0c ls) (fun g=>ls.length - g.1) (0,z1,zr1) ⟨by omega,hp1,by simp only [List.drop_zero,List.length_cons,List.length_append] at *; omega⟩ rfl rfl ?_
  rintro ⟨i,y,yr⟩ ⟨hi,hpy,hly⟩
  dsimp only at hi hpy hly ⊢
  have hp8:=p68 hpy
  repeat' ((conv=>whnf);first|apply gE<;>intro h|apply gQ)
  all_goals (try (conv=>whnf))
  ·have hi':i < ls.length:=by omega
   obtain ⟨lc,hlc⟩:∃ lc,ls[i]? = some lc:=⟨_,List.getElem?_eq_getElem hi'⟩
   obtain ⟨v,hv,hlv⟩:=hxs.at hlc
   have hac:=j2n (j2T hrl hlc)
   have hsz:j0c (ls.drop i)=j0C lc + j0c (ls.drop (i + 1)):=by rw [drop_at hlc,j0c]
   have hrec:=j1S lc _ hlv hac y yr hpy (by simp only [List.length_cons] at hly hl ⊢; omega)
   obtain ⟨k1,n1,l1,b1,z1,x1,rfl,rfl,hz1,hxs1,hlen1,hbd1⟩:=hlv.open
   repeat' ((conv=>whnf);first|apply gO|refine gV ?_|refine VIdx.mk _ hv ?_|refine VOk.mk (j07 rfl hz) ?_|refine j0z rfl rfl rfl rfl hpy hrec (fun w wr hpw hlw=>?_))
   all_goals (try (conv=>whnf))
   have hp8:=p68 hpw
   refine VAgain.mk _ rfl _ (j1b (.cons (j0e hp8) (.cons (j06 rfl rfl) (.cons (j06 rfl rfl) .nil))) (.cons (j0e hp8) (.cons (j06 rfl rfl) .nil)) rfl rfl rfl rfl rfl) ⟨(i + 1,w,wr),⟨hi',hpw,?_⟩,by dsimp only; omega,rfl⟩
   simp only [List.length_cons] at hly hlw ⊢
   omega
  ·refine j09 (G:=Nat × PV × List PV) (fun g=>[(51,iv g.1),(0,.ms 0 (g.2.2.length + 1))]) (fun g=>[.row false 5 1 (g.2.1 :: g.2.2),_]) (fun g=>g.1 ≤ ts.length∧(g.2.1 :: g.2.2).all (pur 6)=true∧(g.2.1 :: g.2.2).length + 64 * j0B (ts.drop g.1) ≤ (x :: xr).length + 58 + 12 * j0c ls + 64 * j0B ts) (fun g=>ts.length - g.1) (0,y,yr) ⟨by omega,hpy,by simp only [List.drop_zero,List.length_cons] at *; omega⟩ rfl rfl ?_
   rintro ⟨j,y,yr⟩ ⟨hj,hpy,hly⟩
   dsimp only at hj hpy hly ⊢
   have hp8:=p68 hpy
   repeat' ((conv=>whnf);first|apply gE<;>intro h|apply gQ)
   all_goals (try (conv=>whnf))
   ·have hj':j < ts.length:=by omega
    obtain ⟨tc,htc⟩:∃ tc,ts[j]? = some tc:=⟨_,List.getElem?_eq_getElem hj'⟩
    obtain ⟨v,hv,hlv⟩:=hys.at htc
    have hsz:j0B (ts.drop j)=sizT tc + j0B (ts.drop (j + 1)):=by rw [drop_at htc,j0B]
    have hrec:=ih _ (List.mem_of_getElem? htc) _ hlv _ (j2t hats htc) (j3T hnts htc) y yr hpy (by simp only [List.length_cons] at hly hl ⊢; omega)
    obtain ⟨k1,n1,s1,l1,t1,b1,z1,x1,c1,y1,ys1,rfl,rfl,hz1,hxs1,hlen1,hbd1,hy1,hys1,hlen21,hbd21,hsl1⟩:=hlv.open
    repeat' ((conv=>whnf);first|apply gO|refine gV ?_|refine VIdx.mk _ hv ?_|refine VOk.mk (j07 rfl hy) ?_|refine j0z rfl rfl rfl rfl hpy hrec (fun w wr hpw hlw=>?_))
    all_goals (try (conv=>whnf))
    have hp8:=p68 hpw
    refine VAgain.mk _ rfl _ (j1b (.cons (j0e hp8) (.cons (j06 rfl rfl) (.cons (j06 rfl rfl) .nil))) (.cons (j0e hp8) (.cons (j06 rfl rfl) .nil)) rfl rfl rfl rfl rfl) ⟨(j + 1,w,wr),⟨hj',hpw,?_⟩,by dsimp only; omega,rfl⟩
    simp only [List.length_cons] at hly hlw ⊢
    omega
   ·refine j1t (.inl ⟨rfl,rfl,rfl⟩) rfl (j1b (.cons (j0e hp8) (.cons (j06 rfl rfl) .nil)) (.cons (j0e hp8) .nil) rfl rfl rfl rfl rfl) (j1P rfl) (j2k hpy ?_ rfl _ _ rfl rfl)
    simp only [List.length_cons] at hly ⊢
    omega
 ·refine j09 (G:=Nat × PV × List PV) (fun g=>[(40,iv g.1),(0,.ms 0 (g.2.2.length + 1))]) (fun g=>[.row false 5 1 (g.2.1 :: g.2.2),_]) (fun g=>g.1 ≤ ls.length∧(g.2.1 :: g.2.2).all (pur 6)=true∧(g.2.1 :: g.2.2).length + 12 * j0c (ls.drop g.1) ≤ (x :: xr).length + 58 + 12 * j0c ls) (fun g=>ls.length - g.1) (0,z2,zr2) ⟨by omega,hp2,by simp only [List.drop_zero,List.length_cons,List.length_append] at *; omega⟩ rfl rfl ?_
  rintro ⟨i,y,yr⟩ ⟨hi,hpy,hly⟩
  dsimp only at hi hpy hly ⊢
  have hp8:=p68 hpy
  repeat' ((conv=>whnf);first|apply gE<;>intro h|apply gQ)
  all_goals (try (conv=>whnf))
  ·have hi':i < ls.length:=by omega
   obtain ⟨lc,hlc⟩:∃ lc,ls[i]? = some lc:=⟨_,List.getElem?_eq_getElem hi'⟩
   obtain ⟨v,hv,hlv⟩:=hxs.at hlc
   have hac:=j2n (j2T hrl hlc)
   have hsz:j0c (ls.drop i)=j0C lc + j0c (ls.drop (i + 1)):=by rw [drop_at hlc,j0c]
   have hrec:=j1S lc _ hlv hac y yr hpy (by simp only [List.length_cons] at hly hl ⊢; omega)
   obtain ⟨k1,n1,l1,b1,z1,x1,rfl,rfl,hz1,hxs1,hlen1,hbd1⟩:=hlv.open
   repeat' ((conv=>whnf);first|apply gO|refine gV ?_|refine VIdx.mk _ hv ?_|refine VOk.mk (j07 rfl hz) ?_|refine j0z rfl rfl rfl rfl hpy hrec (fun w wr hpw hlw=>?_))
   all_goals (try (conv=>whnf))
   have hp8:=p68 hpw
   refine VAgain.mk _ rfl _ (j1b (.cons (j0e hp8) (.cons (j06 rfl rfl) (.cons (j06 rfl rfl) .nil))) (.cons (j0e hp8) (.cons (j06 rfl rfl) .nil)) rfl rfl rfl rfl rfl) ⟨(i + 1,w,wr),⟨hi',hpw,?_⟩,by dsimp only; omega,rfl⟩
   simp only [List.length_cons] at hly hlw ⊢
   omega
  ·refine j09 (G:=Nat × PV × List PV) (fun g=>[(51,iv g.1),(0,.ms 0 (g.2.2.length + 1))]) (fun g=>[.row false 5 1 (g.2.1 :: g.2.2),_]) (fun g=>g.1 ≤ ts.length∧(g.2.1 :: g.2.2).all (pur 6)=true∧(g.2.1 :: g.2.2).length + 64 * j0B (ts.drop g.1) ≤ (x :: xr).length + 58 + 12 * j0c ls + 64 * j0B ts) (fun g=>ts.length - g.1) (0,y,yr) ⟨by omega,hpy,by simp only [List.drop_zero,List.length_cons] at *; omega⟩ rfl rfl ?_
   rintro ⟨j,y,yr⟩ ⟨hj,hpy,hly⟩
   dsimp only at hj hpy hly ⊢
   have hp8:=p68 hpy
   repeat' ((conv=>whnf);first|apply gE<;>intro h|apply gQ)
   all_goals (try (conv=>whnf))
   ·have hj':j < ts.length:=by omega
    obtain ⟨tc,htc⟩:∃ tc,ts[j]? = some tc:=⟨_,List.getElem?_eq_getElem hj'⟩
    obtain ⟨v,hv,hlv⟩:=hys.at htc
    have hsz:j0B (ts.drop j)=sizT tc + j0B (ts.drop (j + 1)):=by rw [drop_at htc,j0B]
    have hrec:=ih _ (List.mem_of_getElem? htc) _ hlv _ (j2t hats htc) (j3T hnts htc) y yr hpy (by simp only [List.length_cons] at hly hl ⊢; omega)
    obtain ⟨k1,n1,s1,l1,t1,b1,z1,x1,c1,y1,ys1,rfl,rfl,hz1,hxs1,hlen1,hbd1,hy1,hys1,hlen21,hbd21,hsl1⟩:=hlv.open
    repeat' ((conv=>whnf);first|apply gO|refine gV ?_|refine VIdx.mk _ hv ?_|refine VOk.mk (j07 rfl hy) ?_|refine j0z rfl rfl rfl rfl hpy hrec (fun w wr hpw hlw=>?_))
    all_goals (try (conv=>whnf))
    have hp8:=p68 hpw
    refine VAgain.mk _ rfl _ (j1b (.cons (j0e hp8) (.cons (j06 rfl rfl) (.cons (j06 rfl rfl) .nil))) (.cons (j0e hp8) (.cons (j06 rfl rfl) .nil)) rfl rfl rfl rfl rfl) ⟨(j + 1,w,wr),⟨hj',hpw,?_⟩,by dsimp only; omega,rfl⟩
    simp only [List.length_cons] at hly hlw ⊢
    omega
   ·refine j1t (.inl ⟨rfl,rfl,rfl⟩) rfl (j1b (.cons (j0e hp8) (.cons (j06 rfl rfl) .nil)) (.cons (j0e hp8) .nil) rfl rfl rfl rfl rfl) (j1P rfl) (j2k hpy ?_ rfl _ _ rfl rfl)
    simp only [List.length_cons] at hly ⊢
    omega
 ·refine j09 (G:=Nat × PV × List PV) (fun g=>[(40,iv g.1),(0,.ms 0 (g.2.2.length + 1))]) (fun g=>[.row false 5 1 (g.2.1 :: g.2.2),_]) (fun g=>g.1 ≤ ls.length∧(g.2.1 :: g.2.2).all (pur 6)=true∧(g.2.1 :: g.2.2).length + 12 * j0c (ls.drop g.1) ≤ (x :: xr).length + 58 + 12 * j0c ls) (fun g=>ls.length - g.1) (0,z0,zr0) ⟨by omega,hp0,by simp only [List.drop_zero,List.length_cons,List.length_append] at *; omega⟩ rfl rfl ?_
  rintro ⟨i,y,yr⟩ ⟨hi,hpy,hly⟩
  dsimp only at hi hpy hly ⊢
  have hp8:=p68 hpy
  repeat' ((conv=>whnf);first|apply gE<;>intro h|apply gQ)
  all_goals (try (conv=>whnf))
  ·have hi':i < ls.length:=by omega
   obtain ⟨lc,hlc⟩:∃ lc,ls[i]? = some lc:=⟨_,List.getElem?_eq_getElem hi'⟩
   obtain ⟨v,hv,hlv⟩:=hxs.at hlc
   have hac:=j2n (j2T hrl hlc)
   have hsz:j0c (ls.drop i)=j0C lc + j0c (ls.drop (i + 1)):=by rw [drop_at hlc,j0c]
   have hrec:=j1S lc _ hlv hac y yr hpy (by simp only [List.length_cons] at hly hl ⊢; omega)
   obtain ⟨k1,n1,l1,b1,z1,x1,rfl,rfl,hz1,hxs1,hlen1,hbd1⟩:=hlv.open
   repeat' ((conv=>whnf);first|apply gO|refine gV ?_|refine VIdx.mk _ hv ?_|refine VOk.mk (j07 rfl hz) ?_|refine j0z rfl rfl rfl rfl hpy hrec (fun w wr hpw hlw=>?_))
   all_goals (try (conv=>whnf))
   have hp8:=p68 hpw
   refine VAgain.mk _ rfl _ (j1b (.cons (j0e hp8) (.cons (j06 rfl rfl) (.cons (j06 rfl rfl) .nil))) (.cons (j0e hp8) (.cons (j06 rfl rfl) .nil)) rfl rfl rfl rfl rfl) ⟨(i + 1,w,wr),⟨hi',hpw,?_⟩,by dsimp only; omega,rfl⟩
   simp only [List.length_cons] at hly hlw ⊢
   omega
  ·refine j09 (G:=Nat × PV × List PV) (fun g=>[(51,iv g.1),(0,.ms 0 (g.2.2.length + 1))]) (fun g=>[.row false 5 1 (g.2.1 :: g.2.2),_]) (fun g=>g.1 ≤ ts.length∧(g.2.1 :: g.2.2).all (pur 6)=true∧(g.2.1 :: g.2.2).length + 64 * j0B (ts.drop g.1) ≤ (x :: xr).length + 58 + 12 * j0c ls + 64 * j0B ts) (fun g=>ts.length - g.1) (0,y,yr) ⟨by omega,hpy,by simp only [List.drop_zero,List.length_cons] at *; omega⟩ rfl rfl ?_
   rintro ⟨j,y,yr⟩ ⟨hj,hpy,hly⟩
   dsimp only at hj hpy hly ⊢
   have hp8:=p68 hpy
   repeat' ((conv=>whnf);first|apply gE<;>intro h|apply gQ)
   all_goals (try (conv=>whnf))
   ·have hj':j < ts.length:=by omega
    obtain ⟨tc,htc⟩:∃ tc,ts[j]? = some tc:=⟨_,List.getElem?_eq_getElem hj'⟩
    obtain ⟨v,hv,hlv⟩:=hys.at htc
    have hsz:j0B (ts.drop j)=sizT tc + j0B (ts.drop (j + 1)):=by rw [drop_at htc,j0B]
    have hrec:=ih _ (List.mem_of_getElem? htc) _ hlv _ (j2t hats htc) (j3T hnts htc) y yr hpy (by simp only [List.length_cons] at hly hl ⊢; omega)
    obtain ⟨k1,n1,s1,l1,t1,b1,z1,x1,c1,y1,ys1,rfl,rfl,hz1,hxs1,hlen1,hbd1,hy1,hys1,hlen21,hbd21,hsl1⟩:=hlv.open
    repeat' ((conv=>whnf);first|apply gO|refine gV ?_|refine VIdx.mk _ hv ?_|refine VOk.mk (j07 rfl hy) ?_|refine j0z rfl rfl rfl rfl hpy hrec (fun w wr hpw hlw=>?_))
    all_goals (try (conv=>whnf))
    have hp8:=p68 hpw
    refine VAgain.mk _ rfl _ (j1b (.cons (j0e hp8) (.cons (j06 rfl rfl) (.cons (j06 rfl rfl) .nil))) (.cons (j0e hp8) (.cons (j06 rfl rfl) .nil)) rfl rfl rfl rfl rfl) ⟨(j + 1,w,wr),⟨hj',hpw,?_⟩,by dsimp only; omega,rfl⟩
    simp only [List.length_cons] at hly hlw ⊢
    omega
   ·refine j1t (.inl ⟨rfl,rfl,rfl⟩) rfl (j1b (.cons (j0e hp8) (.cons (j06 rfl rfl) .nil)) (.cons (j0e hp8) .nil) rfl rfl rfl rfl rfl) (j1P rfl) (j2k hpy ?_ rfl _ _ rfl rfl)
    simp only [List.length_cons] at hly ⊢
    omega
theorem jdG (t:Tm) (v:PV) (h:TmP t v) (kk:Int) (hall:allT t 4 kk=true) (hnear:j6z t=true) (hl:64 * sizT t ≤ 100000000):Finds C1 249 [.sl true 0 [],v] [] (Put1 [] (64 * sizT t)):=by
 obtain ⟨k,nn,s,ls,ts⟩:=t
 obtain ⟨hk17,hnn,hs40,hls4,hrl,hnts⟩:=jpz hall hnear
 have hats:=(j0r hall).2.2.2.2
 obtain ⟨_,_,_,_,_,b,z,xs,c,y,ys,⟨rfl,rfl,rfl,rfl,rfl⟩,rfl,hz,hxs,hlen,hbd,hy,hys,hlen2,hbd2,hsl⟩:=h.open
 have hk:=j3n k (by omega) (by omega) true [] rfl (by simp)
 have hn:=fun h=>j3n nn (hnn h).1 (hnn h).2 true
 have hc:=j3n xs.length (by omega) (by omega) true
 obtain ⟨tx,htx,htl,htp,hT⟩:=jb8 s (by omega) true
 obtain ⟨q,qr,rfl⟩:∃ q qr,tx=q :: qr:=by
  cases tx with
  |nil=>simp at htp
  |cons q qr=>exact ⟨q,qr,rfl⟩
 have hcat:∀ {z:PV} {zr:List PV},(z :: zr).all (pur 6)=true→(z :: (zr ++ q :: qr)).all (pur 6)=true:=fun {z zr} h=>by
  rw [show z :: (zr ++ q :: qr)=(z :: zr) ++ q :: qr from rfl,List.all_append,h,htx]
  rfl
 refine j00 Tryz.func249 rfl rfl rfl ?_
 simp only [sizT] at hl ⊢
 skip
 all_goals (try (conv=>whnf))
 refine j1l rfl (Finds.mono hk ?_)
 rintro _ _ ⟨ws,rfl,rfl,hp0,hl0,hpos0⟩
 obtain ⟨z0,zr0,rfl⟩:∃ z0 zr0,ws=z0 :: zr0:=by
  cases ws with
  |nil=>simp at hpos0
  |cons z zr=>exact ⟨z,zr,rfl⟩
 have hp8:=p68 hp0
 have hl0:(z0 :: zr0).length ≤ 6:=by simpa using hl0
 refine ⟨rfl,?_⟩
 refine j5k (.cons (j1T hp8) .nil) rfl ?_
 repeat' ((conv=>whnf);first|apply gE<;>intro h|apply gO|refine j0z (i:=1) (n:=zr0.length + 1) (y:=z0) (yr:=zr0) rfl rfl rfl rfl hp0 (hn (by omega) _ hp0 (by omega)) (fun z1 zr1 hp1 hl1=>?_)|refine j01 hT rfl rfl ?_|refine VOk.mk (j1i (w:=1) (r:=140737488355328) (by simp:(z0 :: zr0).length=zr0.length + 1) rfl rfl rfl rfl (by simp only [List.length_cons] at *; omega) (by simp only [List.length_cons] at *; omega)) ?_|refine j0z (i:=1) (n:=zr0.length + 1 + (q :: qr).length) (y:=z0) (yr:=zr0 ++ q :: qr) rfl rfl (by simp; omega) rfl (hcat hp0) (hc _ (hcat hp0) (by simp only [List.length_cons,List.length_append] at *; omega)) (fun z2 zr2 hp2 hl2=>?_))
 all_goals (try (conv=>whnf))
 ·refine j09 (G:=Nat × PV × List PV) (fun g=>[(40,iv g.1),(0,.ms 1 (g.2.2.length + 1))]) (fun g=>[_,.row false 5 1 (g.2.1 :: g.2.2)]) (fun g=>g.1 ≤ ls.length∧(g.2.1 :: g.2.2).all (pur 6)=true∧(g.2.1 :: g.2.2).length + 12 * j0c (ls.drop g.1) ≤ 58 + 12 * j0c ls) (fun g=>ls.length - g.1) (0,z1,zr1) ⟨by omega,hp1,by simp only [List.drop_zero,List.length_cons,List.length_append] at *; omega⟩ rfl rfl ?_
  rintro ⟨i,y,yr⟩ ⟨hi,hpy,hly⟩
  dsimp only at hi hpy hly ⊢
  have hp8:=p68 hpy
  repeat' ((conv=>whnf);first|apply gE<;>intro h|apply gQ)
  all_goals (try (conv=>whnf))
  ·have hi':i < ls.length:=by omega
   obtain ⟨lc,hlc⟩:∃ lc,ls[i]? = some lc:=⟨_,List.getElem?_eq_getElem hi'⟩
   obtain ⟨v,hv,hlv⟩:=hxs.at hlc
   have hac:=j2n (j2T hrl hlc)
   have hsz:j0c (ls.drop i)=j0C lc + j0c (ls.drop (i + 1)):=by rw [drop_at hlc,j0c]
   have hrec:=j1S lc _ hlv hac y yr hpy (by simp only [List.length_cons] at hly hl ⊢; omega)
   obtain ⟨k1,n1,l1,b1,z1,x1,rfl,rfl,hz1,hxs1,hlen1,hbd1⟩:=hlv.open
   repeat' ((conv=>whnf);first|apply gO|refine gV ?_|refine VIdx.mk _ hv ?_|refine VOk.mk (j07 rfl hz) ?_|refine j0z rfl rfl rfl rfl hpy hrec (fun w wr hpw hlw=>?_))
   all_goals (try (conv=>whnf))
   have hp8:=p68 hpw
   refine VAgain.mk _ rfl _ (j1b (.cons (j06 rfl rfl) (.cons (j0e hp8) (.cons (j06 rfl rfl) .nil))) (.cons (j06 rfl rfl) (.cons (j0e hp8) .nil)) rfl rfl rfl rfl rfl) ⟨(i + 1,w,wr),⟨hi',hpw,?_⟩,by dsimp only; omega,rfl⟩
   simp only [List.length_cons] at hly hlw ⊢
   omega
  ·refine j09 (G:=Nat × PV × List PV) (fun g=>[(51,iv g.1),(0,.ms 1 (g.2.2.length + 1))]) (fun g=>[_,.row false 5 1 (g.2.1 :: g.2.2)]) (fun g=>g.1 ≤ ts.length∧(g.2.1 :: g.2.2).all (pur 6)=true∧(g.2.1 :: g.2.2).length + 64 * j0B (ts.drop g.1) ≤ 58 + 12 * j0c ls + 64 * j0B ts) (fun g=>ts.length - g.1) (0,y,yr) ⟨by omega,hpy,by simp only [List.drop_zero,List.length_cons] at *; omega⟩ rfl rfl ?_
   rintro ⟨j,y,yr⟩ ⟨hj,hpy,hly⟩
   dsimp only at hj hpy hly ⊢
   have hp8:=p68 hpy
   repeat' ((conv=>whnf);first|apply gE<;>intro h|apply gQ)
   all_goals (try (conv=>whnf))
   ·have hj':j < ts.length:=by omega
    obtain ⟨tc,htc⟩:∃ tc,ts[j]? = some tc:=⟨_,List.getElem?_eq_getElem hj'⟩
    obtain ⟨v,hv,hlv⟩:=hys.at htc
    have hsz:j0B (ts.drop j)=sizT tc + j0B (ts.drop (j + 1)):=by rw [drop_at htc,j0B]
    have hrec:=j6c tc _ hlv _ (j2t hats htc) (j3T hnts htc) y yr hpy (by simp only [List.length_cons] at hly hl ⊢; omega)
    obtain ⟨k1,n1,s1,l1,t1,b1,z1,x1,c1,y1,ys1,rfl,rfl,hz1,hxs1,hlen1,hbd1,hy1,hys1,hlen21,hbd21,hsl1⟩:=hlv.open
    repeat' ((conv=>whnf);first|apply gO|refine gV ?_|refine VIdx.mk _ hv ?_|refine VOk.mk (j07 rfl hy) ?_|refine j0z rfl rfl rfl rfl hpy hrec (fun w wr hpw hlw=>?_))
    all_goals (try (conv=>whnf))
    have hp8:=p68 hpw
    refine VAgain.mk _ rfl _ (j1b (.cons (j06 rfl rfl) (.cons (j0e hp8) (.cons (j06 rfl rfl) .nil))) (.cons (j06 rfl rfl) (.cons (j0e hp8) .nil)) rfl rfl rfl rfl rfl) ⟨(j + 1,w,wr),⟨hj',hpw,?_⟩,by dsimp only; omega,rfl⟩
    simp only [List.length_cons] at hly hlw ⊢
    omega
   ·refine j1t (.inl ⟨rfl,rfl,rfl⟩) rfl (j1b (.cons (j06 rfl rfl) (.cons (j0e hp8) .nil)) (.cons j0o (.cons (j0e hp8) .nil)) rfl rfl rfl rfl rfl) (j6j (.cons jbN (.cons (j1T hp8) .nil)) rfl rfl rfl rfl) (j2k hpy ?_ rfl _ _ rfl rfl)
    simp only [List.length_cons] at hly ⊢
    omega
 ·refine j09 (G:=Nat × PV × List PV) (fun g=>[(40,iv g.1),(0,.ms 1 (g.2.2.length + 1))]) (fun g=>[_,.row false 5 1 (g.2.1 :: g.2.2)]) (fun g=>g.1 ≤ ls.length∧(g.2.1 :: g.2.2).all (pur 6)=true∧(g.2.1 :: g.2.2).length + 12 * j0c (ls.drop g.1) ≤ 58 + 12 * j0c ls) (fun g=>ls.length - g.1) (0,z2,zr2) ⟨by omega,hp2,by simp only [List.drop_zero,List.length_cons,List.length_append] at *; omega⟩ rfl rfl ?_
  rintro ⟨i,y,yr⟩ ⟨hi,hpy,hly⟩
  dsimp only at hi hpy hly ⊢
  have hp8:=p68 hpy
  repeat' ((conv=>whnf);first|apply gE<;>intro h|apply gQ)
  all_goals (try (conv=>whnf))
  ·have hi':i < ls.length:=by omega
   obtain ⟨lc,hlc⟩:∃ lc,ls[i]? = some lc:=⟨_,List.getElem?_eq_getElem hi'⟩
   obtain ⟨v,hv,hlv⟩:=hxs.at hlc
   have hac:=j2n (j2T hrl hlc)
   have hsz:j0c (ls.drop i)=j0C lc + j0c (ls.drop (i + 1)):=by rw [drop_at hlc,j0c]
   have hrec:=j1S lc _ hlv hac y yr hpy (by simp only [List.length_cons] at hly hl ⊢; omega)
   obtain ⟨k1,n1,l1,b1,z1,x1,rfl,rfl,hz1,hxs1,hlen1,hbd1⟩:=hlv.open
   repeat' ((conv=>whnf);first|apply gO|refine gV ?_|refine VIdx.mk _ hv ?_|refine VOk.mk (j07 rfl hz) ?_|refine j0z rfl rfl rfl rfl hpy hrec (fun w wr hpw hlw=>?_))
   all_goals (try (conv=>whnf))
   have hp8:=p68 hpw
   refine VAgain.mk _ rfl _ (j1b (.cons (j06 rfl rfl) (.cons (j0e hp8) (.cons (j06 rfl rfl) .nil))) (.cons (j06 rfl rfl) (.cons (j0e hp8) .nil)) rfl rfl rfl rfl rfl) ⟨(i + 1,w,wr),⟨hi',hpw,?_⟩,by dsimp only; omega,rfl⟩
   simp only [List.length_cons] at hly hlw ⊢
   omega
  ·refine j09 (G:=Nat × PV × List PV) (fun g=>[(51,iv g.1),(0,.ms 1 (g.2.2.length + 1))]) (fun g=>[_,.row false 5 1 (g.2.1 :: g.2.2)]) (fun g=>g.1 ≤ ts.length∧(g.2.1 :: g.2.2).all (pur 6)=true∧(g.2.1 :: g.2.2).length + 64 * j0B (ts.drop g.1) ≤ 58 + 12 * j0c ls + 64 * j0B ts) (fun g=>ts.length - g.1) (0,y,yr) ⟨by omega,hpy,by simp only [List.drop_zero,List.length_cons] at *; omega⟩ rfl rfl ?_
   rintro ⟨j,y,yr⟩ ⟨hj,hpy,hly⟩
   dsimp only at hj hpy hly ⊢
   have hp8:=p68 hpy
   repeat' ((conv=>whnf);first|apply gE<;>intro h|apply gQ)
   all_goals (try (conv=>whnf))
   ·have hj':j < ts.length:=by omega
    obtain ⟨tc,htc⟩:∃ tc,ts[j]? = some tc:=⟨_,List.getElem?_eq_getElem hj'⟩
    obtain ⟨v,hv,hlv⟩:=hys.at htc
    have hsz:j0B (ts.drop j)=sizT tc + j0B (ts.drop (j + 1)):=by rw [drop_at htc,j0B]
    have hrec:=j6c tc _ hlv _ (j2t hats htc) (j3T hnts htc) y yr hpy (by simp only [List.length_cons] at hly hl ⊢; omega)
    obtain ⟨k1,n1,s1,l1,t1,b1,z1,x1,c1,y1,ys1,rfl,rfl,hz1,hxs1,hlen1,hbd1,hy1,hys1,hlen21,hbd21,hsl1⟩:=hlv.open
    repeat' ((conv=>whnf);first|apply gO|refine gV ?_|refine VIdx.mk _ hv ?_|refine VOk.mk (j07 rfl hy) ?_|refine j0z rfl rfl rfl rfl hpy hrec (fun w wr hpw hlw=>?_))
    all_goals (try (conv=>whnf))
    have hp8:=p68 hpw
    refine VAgain.mk _ rfl _ (j1b (.cons (j06 rfl rfl) (.cons (j0e hp8) (.cons (j06 rfl rfl) .nil))) (.cons (j06 rfl rfl) (.cons (j0e hp8) .nil)) rfl rfl rfl rfl rfl) ⟨(j + 1,w,wr),⟨hj',hpw,?_⟩,by dsimp only; omega,rfl⟩
    simp only [List.length_cons] at hly hlw ⊢
    omega
   ·refine j1t (.inl ⟨rfl,rfl,rfl⟩) rfl (j1b (.cons (j06 rfl rfl) (.cons (j0e hp8) .nil)) (.cons j0o (.cons (j0e hp8) .nil)) rfl rfl rfl rfl rfl) (j6j (.cons jbN (.cons (j1T hp8) .nil)) rfl rfl rfl rfl) (j2k hpy ?_ rfl _ _ rfl rfl)
    simp only [List.length_cons] at hly ⊢
    omega
 ·refine j09 (G:=Nat × PV × List PV) (fun g=>[(40,iv g.1),(0,.ms 1 (g.2.2.length + 1))]) (fun g=>[_,.row false 5 1 (g.2.1 :: g.2.2)]) (fun g=>g.1 ≤ ls.length∧(g.2.1 :: g.2.2).all (pur 6)=true∧(g.2.1 :: g.2.2).length + 12 * j0c (ls.drop g.1) ≤ 58 + 12 * j0c ls) (fun g=>ls.length - g.1) (0,z0,zr0) ⟨by omega,hp0,by simp only [List.drop_zero,List.length_cons,List.length_append] at *; omega⟩ rfl rfl ?_
  rintro ⟨i,y,yr⟩ ⟨hi,hpy,hly⟩
  dsimp only at hi hpy hly ⊢
  have hp8:=p68 hpy
  repeat' ((conv=>whnf);first|apply gE<;>intro h|apply gQ)
  all_goals (try (conv=>whnf))
  ·have hi':i < ls.length:=by omega
   obtain ⟨lc,hlc⟩:∃ lc,ls[i]? = some lc:=⟨_,List.getElem?_eq_getElem hi'⟩
   obtain ⟨v,hv,hlv⟩:=hxs.at hlc
   have hac:=j2n (j2T hrl hlc)
   have hsz:j0c (ls.drop i)=j0C lc + j0c (ls.drop (i + 1)):=by rw [drop_at hlc,j0c]
   have hrec:=j1S lc _ hlv hac y yr hpy (by simp only [List.length_cons] at hly hl ⊢; omega)
   obtain ⟨k1,n1,l1,b1,z1,x1,rfl,rfl,hz1,hxs1,hlen1,hbd1⟩:=hlv.open
   repeat' ((conv=>whnf);first|apply gO|refine gV ?_|refine VIdx.mk _ hv ?_|refine VOk.mk (j07 rfl hz) ?_|refine j0z rfl rfl rfl rfl hpy hrec (fun w wr hpw hlw=>?_))
   all_goals (try (conv=>whnf))
   have hp8:=p68 hpw
   refine VAgain.mk _ rfl _ (j1b (.cons (j06 rfl rfl) (.cons (j0e hp8) (.cons (j06 rfl rfl) .nil))) (.cons (j06 rfl rfl) (.cons (j0e hp8) .nil)) rfl rfl rfl rfl rfl) ⟨(i + 1,w,wr),⟨hi',hpw,?_⟩,by dsimp only; omega,rfl⟩
   simp only [List.length_cons] at hly hlw ⊢
   omega
  ·refine j09 (G:=Nat × PV × List PV) (fun g=>[(51,iv g.1),(0,.ms 1 (g.2.2.length + 1))]) (fun g=>[_,.row false 5 1 (g.2.1 :: g.2.2)]) (fun g=>g.1 ≤ ts.length∧(g.2.1 :: g.2.2).all (pur 6)=true∧(g.2.1 :: g.2.2).length + 64 * j0B (ts.drop g.1) ≤ 58 + 12 * j0c ls + 64 * j0B ts) (fun g=>ts.length - g.1) (0,y,yr) ⟨by omega,hpy,by simp only [List.drop_zero,List.length_cons] at *; omega⟩ rfl rfl ?_
   rintro ⟨j,y,yr⟩ ⟨hj,hpy,hly⟩
   dsimp only at hj hpy hly ⊢
   have hp8:=p68 hpy
   repeat' ((conv=>whnf);first|apply gE<;>intro h|apply gQ)
   all_goals (try (conv=>whnf))
   ·have hj':j < ts.length:=by omega
    obtain ⟨tc,htc⟩:∃ tc,ts[j]? = some tc:=⟨_,List.getElem?_eq_getElem hj'⟩
    obtain ⟨v,hv,hlv⟩:=hys.at htc
    have hsz:j0B (ts.drop j)=sizT tc + j0B (ts.drop (j + 1)):=by rw [drop_at htc,j0B]
    have hrec:=j6c tc _ hlv _ (j2t hats htc) (j3T hnts htc) y yr hpy (by simp only [List.length_cons] at hly hl ⊢; omega)
    obtain ⟨k1,n1,s1,l1,t1,b1,z1,x1,c1,y1,ys1,rfl,rfl,hz1,hxs1,hlen1,hbd1,hy1,hys1,hlen21,hbd21,hsl1⟩:=hlv.open
    repeat' ((conv=>whnf);first|apply gO|refine gV ?_|refine VIdx.mk _ hv ?_|refine VOk.mk (j07 rfl hy) ?_|refine j0z rfl rfl rfl rfl hpy hrec (fun w wr hpw hlw=>?_))
    all_goals (try (conv=>whnf))
    have hp8:=p68 hpw
    refine VAgain.mk _ rfl _ (j1b (.cons (j06 rfl rfl) (.cons (j0e hp8) (.cons (j06 rfl rfl) .nil))) (.cons (j06 rfl rfl) (.cons (j0e hp8) .nil)) rfl rfl rfl rfl rfl) ⟨(j + 1,w,wr),⟨hj',hpw,?_⟩,by dsimp only; omega,rfl⟩
    simp only [List.length_cons] at hly hlw ⊢
    omega
   ·refine j1t (.inl ⟨rfl,rfl,rfl⟩) rfl (j1b (.cons (j06 rfl rfl) (.cons (j0e hp8) .nil)) (.cons j0o (.cons (j0e hp8) .nil)) rfl rfl rfl rfl rfl) (j6j (.cons jbN (.cons (j1T hp8) .nil)) rfl rfl rfl rfl) (j2k hpy ?_ rfl _ _ rfl rfl)
    simp only [List.length_cons] at hly ⊢
    omega
end Go.Proofs.YtljnahbgfmflaaaGreatDoor
