/-
  Three rows of terms as one (slices.Concat). No statement of the seat.
-/
import Derived.Test.YtljnahbgfmflaaaGreatDoorZKt
set_option linter.unusedVariables false
set_option maxHeartbeats 2000000
set_option maxRecDepth 100000
set_option linter.unusedSimpArgs false
set_option linter.unnecessarySimpa false
namespace Go.Proofs.YtljnahbgfmflaaaGreatDoor
open Go Go.Am Go.Gw
theorem jg4:C1.nat 315=some jiL:=rfl
theorem jn8 (n:Int) (h0:0 < n) (hn:n ≤ 1000000):Finds C1 315 [.sl true 0 [],iv n] [] fun r st=>r = .ret [.ms 0 0]∧st=[.row false 25 5 []]:=by
 have hg:jiL [.sl true 0 [],iv n] []=some (.ret [.ms 0 0],[.row false 25 5 []]):=by
  simp only [jiL,iv,decide_eq_true h0,decide_eq_true hn,Bool.and_self]
 refine ⟨_,_,⟨rfl,rfl⟩,1,fun k hk=>?_⟩
 obtain ⟨q,rfl⟩:∃ q,k=q + 1:=⟨k - 1,by omega⟩
 show j5F C1 (ev C1 q) 315 [.sl true 0 [],iv n] []=_
 simp only [j5F,jg4,hg]
theorem jlj:Pf C1 315 [.sl true 0 [],iv 0] [.sl true 0 []]:=by
 refine ⟨_,[],rfl,1,fun k hk=>?_⟩
 obtain ⟨q,rfl⟩:∃ q,k=q + 1:=⟨k - 1,by omega⟩
 show j5F C1 (ev C1 q) 315 [.sl true 0 [],iv 0] []=_
 simp only [j5F,jg4]
 rfl
theorem okz {z:Nat} {xs:List PV} (h:z=5∨xs=[]):(true && (Nat.beq 5 z || xs.isEmpty))=true:=by
 rcases h with rfl|rfl <;> simp
theorem jhU (b1 b2 b3:Bool) (z1 z2 z3:Nat) (x1 x2 x3:List PV) (h1:z1=5∨x1=[]) (h2:z2=5∨x2=[]) (h3:z3=5∨x3=[]) (p1:x1.all (pur 6)=true) (p2:x2.all (pur 6)=true) (p3:x3.all (pur 6)=true) (l1:x1.length ≤ 10000) (l2:x2.length ≤ 10000) (l3:x3.length ≤ 10000) :
  ∃ b z,(z=5∨x1 ++ (x2 ++ x3)=[])∧Pf C1 311 [.sl true 1 [.sl b1 z1 x1,.sl b2 z2 x2,.sl b3 z3 x3]] [.sl b z (x1 ++ (x2 ++ x3))]:=by
 by_cases h0:x1.length + x2.length + x3.length=0
 ·obtain rfl:x1=[]:=List.eq_nil_of_length_eq_zero (by omega)
  obtain rfl:x2=[]:=List.eq_nil_of_length_eq_zero (by omega)
  obtain rfl:x3=[]:=List.eq_nil_of_length_eq_zero (by omega)
  refine ⟨true,0,.inr rfl,?_⟩
  refine j00 Tryz.func311 rfl rfl rfl ?_
  skip
  all_goals (try (conv=>whnf))
  refine j09 (G:=Nat) (fun i=>[(11,iv i)]) (fun _=>_) (fun i=>i ≤ 3) (fun i=>3 - i) 0 (by omega) rfl rfl ?_
  intro i hi
  obtain rfl|rfl|rfl|rfl:i=0∨i=1∨i=2∨i=3:=by omega
  ·repeat' ((conv=>whnf);first|apply gT|apply gF|apply gO|apply gQ|refine gV ?_|refine VIdx.mk _ rfl ?_)
   all_goals (try (conv=>whnf))
   exact VAgain.mk _ rfl _ (j0V rfl) ⟨1,by omega,by omega,rfl⟩
  ·repeat' ((conv=>whnf);first|apply gT|apply gF|apply gO|apply gQ|refine gV ?_|refine VIdx.mk _ rfl ?_)
   all_goals (try (conv=>whnf))
   exact VAgain.mk _ rfl _ (j0V rfl) ⟨2,by omega,by omega,rfl⟩
  ·repeat' ((conv=>whnf);first|apply gT|apply gF|apply gO|apply gQ|refine gV ?_|refine VIdx.mk _ rfl ?_)
   all_goals (try (conv=>whnf))
   exact VAgain.mk _ rfl _ (j0V rfl) ⟨3,by omega,by omega,rfl⟩
  ·repeat' ((conv=>whnf);first|apply gF|refine j01 jlj rfl rfl ?_)
   all_goals (try (conv=>whnf))
   refine j09 (G:=Nat) (fun i=>[(27,iv i)]) (fun _=>_) (fun i=>i ≤ 3) (fun i=>3 - i) 0 (by omega) rfl rfl ?_
   intro i hi
   obtain rfl|rfl|rfl|rfl:i=0∨i=1∨i=2∨i=3:=by omega
   ·repeat' ((conv=>whnf);first|apply gT|apply gO|apply gQ|refine gV ?_|refine VIdx.mk _ rfl ?_|refine VOk.mk (by simp) ?_)
    all_goals (try (conv=>whnf))
    exact VAgain.mk _ rfl _ (j0V rfl) ⟨1,by omega,by omega,rfl⟩
   ·repeat' ((conv=>whnf);first|apply gT|apply gO|apply gQ|refine gV ?_|refine VIdx.mk _ rfl ?_|refine VOk.mk (by simp) ?_)
    all_goals (try (conv=>whnf))
    exact VAgain.mk _ rfl _ (j0V rfl) ⟨2,by omega,by omega,rfl⟩
   ·repeat' ((conv=>whnf);first|apply gT|apply gO|apply gQ|refine gV ?_|refine VIdx.mk _ rfl ?_|refine VOk.mk (by simp) ?_)
    all_goals (try (conv=>whnf))
    exact VAgain.mk _ rfl _ (j0V rfl) ⟨3,by omega,by omega,rfl⟩
   ·repeat' ((conv=>whnf);first|apply gF|refine j04 rfl ?_)
    all_goals (try (conv=>whnf))
    all_goals rfl
 ·refine ⟨false,5,.inl rfl,?_⟩
  have hg:=jn8 (0 + x1.length + x2.length + x3.length) (by omega) (by omega)
  have n1:¬ ((0:Int) + (x1.length:Int) < 0):=by omega
  have n2:¬ ((0:Int) + (x1.length:Int) + (x2.length:Int) < 0):=by omega
  have n3:¬ ((0:Int) + (x1.length:Int) + (x2.length:Int) + (x3.length:Int) < 0):=by omega
  refine j00 Tryz.func311 rfl rfl rfl ?_
  skip
  all_goals (try (conv=>whnf))
  refine j09 (G:=Nat × Int) (fun g=>[(11,iv g.1),(3,iv g.2)]) (fun _=>_) (fun g=>(g.1=0∧g.2=0)∨(g.1=1∧g.2=0 + x1.length)∨(g.1=2∧g.2=0 + x1.length + x2.length)∨(g.1=3∧g.2=0 + x1.length + x2.length + x3.length)) (fun g=>3 - g.1) (0,0) (.inl ⟨rfl,rfl⟩) rfl rfl ?_
  rintro ⟨i,q⟩ hi
  dsimp only at hi ⊢
  rcases hi with ⟨rfl,rfl⟩|⟨rfl,rfl⟩|⟨rfl,rfl⟩|⟨rfl,rfl⟩
  ·repeat' ((conv=>whnf);first|apply gT|apply gF|apply gO|apply gQ|refine gV ?_|refine VIdx.mk _ rfl ?_)
   all_goals (try (conv=>whnf))
   exact VAgain.mk _ rfl _ (j0V rfl) ⟨(1,_),.inr (.inl ⟨rfl,rfl⟩),by dsimp only; omega,rfl⟩
  ·repeat' ((conv=>whnf);first|apply gT|apply gF|apply gO|apply gQ|refine gV ?_|refine VIdx.mk _ rfl ?_)
   all_goals (try (conv=>whnf))
   exact VAgain.mk _ rfl _ (j0V rfl) ⟨(2,_),.inr (.inr (.inl ⟨rfl,rfl⟩)),by dsimp only; omega,rfl⟩
  ·repeat' ((conv=>whnf);first|apply gT|apply gF|apply gO|apply gQ|refine gV ?_|refine VIdx.mk _ rfl ?_)
   all_goals (try (conv=>whnf))
   exact VAgain.mk _ rfl _ (j0V rfl) ⟨(3,_),.inr (.inr (.inr ⟨rfl,rfl⟩)),by dsimp only; omega,rfl⟩
  ·repeat' ((conv=>whnf);first|refine VIf.ff rfl ?_)
   all_goals (try (conv=>whnf))
   refine j1l rfl (Finds.mono hg ?_)
   rintro _ _ ⟨rfl,rfl⟩
   refine ⟨rfl,?_⟩
   refine j5k (.cons (j1T rfl) .nil) rfl ?_
   skip
   all_goals (try (conv=>whnf))
   refine j09 (G:=Nat) (fun i=>[(27,iv i),(6,.ms 0 (match i with
    |0=>0
    |1=>0 + x1.length
    |2=>0 + x1.length + x2.length
    |_=>0 + x1.length + x2.length + x3.length))]) (fun i=>[.row false 25 5 (match i with
    |0=>[]
    |1=>[] ++ x1
    |2=>([] ++ x1) ++ x2
    |_=>(([] ++ x1) ++ x2) ++ x3)]) (fun i=>i ≤ 3) (fun i=>3 - i) 0 (by omega) rfl rfl ?_
   intro i hi
   have hR:∀ l:List PV,l.all (pur 6)=true→l.all (pur 8)=true:=fun l h=>p68 h
   obtain rfl|rfl|rfl|rfl:i=0∨i=1∨i=2∨i=3:=by omega
   ·cases x1 with
    |nil =>
     repeat' ((conv=>whnf);first|apply gT|apply gO|apply gQ|refine gV ?_|refine VIdx.mk _ rfl ?_|refine VOk.mk (okz h1) ?_)
     all_goals (try (conv=>whnf))
     exact VAgain.mk _ rfl _ (j0V rfl) ⟨1,by omega,by omega,rfl⟩
    |cons a r =>
     have hp8:=hR _ p1
     repeat' ((conv=>whnf);first|apply gT|apply gO|apply gQ|refine gV ?_|refine VIdx.mk _ rfl ?_|refine VOk.mk (okz h1) ?_|refine VOk.mk (j1i (w:=80) (r:=140737488355328) rfl rfl rfl rfl rfl (by simp only [List.length_cons] at *; omega) (by simp only [List.length_cons] at *; omega)) ?_)
     all_goals (try (conv=>whnf))
     exact VAgain.mk _ rfl _ (j0V rfl) ⟨1,by omega,by omega,rfl⟩
   ·have hl1:([] ++ x1).length=0 + x1.length:=by simp
    cases x2 with
    |nil =>
     repeat' ((conv=>whnf);first|apply gT|apply gO|apply gQ|refine gV ?_|refine VIdx.mk _ rfl ?_|refine VOk.mk (okz h2) ?_|refine VOk.mk (j1i (w:=80) (r:=140737488355328) hl1 rfl rfl rfl rfl (by simp only [List.length_cons,List.length_nil] at *; omega) (by simp only [List.length_cons,List.length_nil] at *; omega)) ?_)
     all_goals (try (conv=>whnf))
     refine VAgain.mk _ rfl _ (j0V rfl) ⟨2,by omega,by omega,?_⟩
     simp only [List.append_nil]
     rfl
    |cons a r =>
     repeat' ((conv=>whnf);first|apply gT|apply gO|apply gQ|refine gV ?_|refine VIdx.mk _ rfl ?_|refine VOk.mk (okz h2) ?_|refine VOk.mk (j1i (w:=80) (r:=140737488355328) hl1 rfl rfl rfl rfl (by simp only [List.length_cons] at *; omega) (by simp only [List.length_cons] at *; omega)) ?_)
     all_goals (try (conv=>whnf))
     exact VAgain.mk _ rfl _ (j0V rfl) ⟨2,by omega,by omega,rfl⟩
   ·have hl2:([] ++ x1 ++ x2).length=0 + x1.length + x2.length:=by simp
    cases x3 with
    |nil =>
     repeat' ((conv=>whnf);first|apply gT|apply gO|apply gQ|refine gV ?_|refine VIdx.mk _ rfl ?_|refine VOk.mk (okz h3) ?_|refine VOk.mk (j1i (w:=80) (r:=140737488355328) hl2 rfl rfl rfl rfl (by simp only [List.length_cons,List.length_nil] at *; omega) (by simp only [List.length_cons,List.length_nil] at *; omega)) ?_)
     all_goals (try (conv=>whnf))
     refine VAgain.mk _ rfl _ (j0V rfl) ⟨3,by omega,by omega,?_⟩
     simp only [List.append_nil]
     rfl
    |cons a r =>
     repeat' ((conv=>whnf);first|apply gT|apply gO|apply gQ|refine gV ?_|refine VIdx.mk _ rfl ?_|refine VOk.mk (okz h3) ?_|refine VOk.mk (j1i (w:=80) (r:=140737488355328) hl2 rfl rfl rfl rfl (by simp only [List.length_cons] at *; omega) (by simp only [List.length_cons] at *; omega)) ?_)
     all_goals (try (conv=>whnf))
     exact VAgain.mk _ rfl _ (j0V rfl) ⟨3,by omega,by omega,rfl⟩
   ·have hl3:([] ++ x1 ++ x2 ++ x3).length=0 + x1.length + x2.length + x3.length:=by simp only [List.nil_append,List.length_append]; omega
    have hp6:([] ++ x1 ++ x2 ++ x3).all (pur 6)=true:=by simp only [List.nil_append,List.all_append,p1,p2,p3,Bool.and_self]
    repeat' ((conv=>whnf);first|refine VIf.ff rfl ?_)
    all_goals (try (conv=>whnf))
    refine j0s rfl (j08 (j0E rfl hl3.symm hp6) j0n) rfl ?_
    simp only [List.nil_append,List.append_assoc]
open Go Go.Am Go.Gw
theorem jlw (h:Tm) (hv:PV) (hh:TmP h hv) (hs:shT h=true) (hk:h.kind=7) (args:List Tm) (b:Bool) (z:Nat) (xs:List PV) (hz:z=5∨xs=[]) (hxs:TmsP args xs) (hbd:args.length ≤ 2000) :
  ∃ w,OutP (appO (InstF (h.arg 2) [h.arg 1]) args) w∧Pf C1 295 [.cp hv.cells,.cp [.sl b z xs]] [w,bv (InstF (h.arg 2) [h.arg 1]).isSome]:=by
 obtain ⟨k,n,s,ls,ts⟩:=h
 obtain ⟨a1,a2,a3,a4,a5,a6⟩:=j0q hs
 simp only [Tm.kind] at hk
 subst hk
 have hlen3:ts.length=3:=by
  have:j0T 7=3:=rfl
  omega
 obtain ⟨_,_,_,_,_,hb,hz',hxs',hc,hy,hys,⟨rfl,rfl,rfl,rfl,rfl⟩,rfl,-,-,-,-,hyz,htys,-,-,-⟩:=hh.open
 obtain ⟨v1,hv1,h1⟩:=htys.at (getD_at (ts:=ts) (i:=2) (by omega))
 obtain ⟨v0,hv0,h0⟩:=htys.at (getD_at (ts:=ts) (i:=1) (by omega))
 have hI:=j5r _ v1 h1 [ts.getD 1 tz] true 5 [v0] (.inl rfl) ⟨v0,[],rfl,h0,rfl⟩ (by simp)
 have hlen:=hxs.len
 have e:(Tm.mk 7 n s ls ts).arg 2=ts.getD 2 tz:=rfl
 have e':(Tm.mk 7 n s ls ts).arg 1=ts.getD 1 tz:=rfl
 rw [e,e']
 have hw:∀ x,InstF (ts.getD 2 tz) [ts.getD 1 tz]=some x→TmW x:=fun x hx=>j7S (by simpa using h0.w) h1.w hx
 have ho:=jc1 hw fun a ha=>hxs.ws a ha
 have ha:=j7a _ _ (j5Q hw) args b z xs hz hxs (by omega)
 rw [j4r] at hI
 generalize InstF (ts.getD 2 tz) [ts.getD 1 tz]=o at *
 obtain ⟨k2,n2,s2,b2,z2,x2,c2,y2,ys2,he2⟩:=j0a (o.getD tz)
 rw [he2] at hI ha ho
 obtain ⟨⟨k3,n3,s3,b3,z3,x3,c3,y3,ys3,he3⟩,ho2⟩:=ho
 rw [he3] at ha ho2
 refine ⟨_,⟨⟨k3,n3,s3,b3,z3,x3,c3,y3,ys3,rfl⟩,ho2⟩,?_⟩
 obtain ⟨k1,n1,s1,l1,t1,b1,z1,x1,c1,y1,ys1,-,rfl,-⟩:=h1.open
 obtain ⟨k4,n4,s4,l4,t4,b4,z4,x4,c4,y4,ys4,-,rfl,-⟩:=h0.open
 refine j00 Tryz.func295 rfl rfl rfl ?_
 repeat' ((conv=>whnf);first|apply gO|apply gP|apply gQ|refine j04 rfl ?_|refine VIdx.mk _ hv1 ?_|refine VIdx.mk _ hv0 ?_|refine VOk.mk (j07 rfl hyz) ?_|refine j05 hI (fun _=>?_)|refine j01 ha rfl rfl ?_|apply gK)
 all_goals (try (conv=>whnf))
 all_goals rfl
def errN (o:Except Int Tm):Int:=match o with
 | .ok _=>0
 | .error e=>e
theorem joE (o:Except Int Tm):errV o=[encT ((okO o).getD tz),iv (errN o)]:=by cases o <;> rfl
theorem jkp (E:Nv) (s:List UInt8) (bys:List Lv):decide (errN (j2d E s bys)=0)=(okO (j2d E s bys)).isSome:=by
 unfold j2d jas
 split
 ·rfl
 ·dsimp only
  unfold j9L
  split
  ·split
   ·unfold atF
    split
    ·rfl
    ·split <;> rfl
   ·rfl
  ·rfl
theorem j9W {E:Nv} {s:List UInt8} {F:En→Except Int Tm} {x:Tm} (h:jas E s F = .ok x):∃ e,j0O E s=some e∧F e = .ok x:=by
 unfold jas at h
 split at h
 ·cases h
 ·rename_i e he
  exact ⟨e,he,h⟩
theorem j6W {E:Nv} {s:List UInt8} {bys:List Lv} {x:Tm} (h:j2d E s bys = .ok x):∃ e,j0O E s=some e∧j1x e.val bys=some x:=by
 obtain ⟨e,h1,h2⟩:=j9W h
 unfold j9L at h2
 split at h2
 ·split at h2
  ·exact ⟨e,h1,jdf h2⟩
  ·cases h2
 ·cases h2
theorem jd3 {E:Nv} {s:List UInt8} {bys:List Lv} {x:Tm} (h:typeAt E s bys = .ok x):∃ e,j0O E s=some e∧j1x e.ty bys=some x:=by
 obtain ⟨e,h1,h2⟩:=j9W h
 unfold jf3 at h2
 split at h2
 ·exact ⟨e,h1,jdf h2⟩
 ·cases h2
theorem EnP.tys {e:En} {v:PV} (h:EnP e v):TmW e.ty∧TmW e.val:=by
 obtain ⟨tk,tn,ts,tb,tz',txs,tc,ty',tys,vk,vn,vs,vb,vz,vxs,vc,vy,vys,b,z,rfl,hty,hval,-⟩:=h
 exact ⟨hty.w,hval.w⟩
theorem NvP.entry {E:Nv} {v:PV} (h:NvP E v) {s:List UInt8} {e:En} (he:j0O E s=some e):TmW e.ty∧TmW e.val∧j2a e=true:=by
 obtain ⟨b,z,xs,rfl,hz,hx,hok⟩:=h
 unfold j0O at he
 split at he
 ·cases he
 ·obtain ⟨w,hw,hP⟩:=hx.at he
  exact ⟨hP.tys.1,hP.tys.2,hok.right e (List.mem_of_getElem? he)⟩
theorem ji9 (E:Nv) (cs:List PV) (hE:NvP E (.cp cs)) (tot:Int) (h:Tm) (hv:PV) (hh:TmP h hv) (hs:shT h=true) (hk:h.kind=3) (args:List Tm) (b:Bool) (z:Nat) (xs:List PV) (hz:z=5∨xs=[]) (hxs:TmsP args xs) (hbd:args.length ≤ 2000) :
  ∃ w,OutP (appO (okO (j2d E h.name h.levels)) args) w∧∀ l,Fr 307 [.ci [.bp 0 0],.cp hv.cells,.cp [.sl b z xs]] cs tot l (.ret [w,bv (okO (j2d E h.name h.levels)).isSome]) l:=by
 obtain ⟨k,n,s,ls,ts⟩:=h
 obtain ⟨a1,a2,a3,a4,a5,a6⟩:=j0q hs
 simp only [Tm.kind] at hk
 have hl4:=a3 hk
 obtain ⟨_,_,_,_,_,hb,hz',hxs',hc,hy,hys,⟨rfl,rfl,rfl,rfl,rfl⟩,rfl,hlz,hlxs,-,-,hyz,htys,-,-,-⟩:=hh.open
 have hV:=jdN E (.cp cs) hE s ls hb hz' hxs' hlz hlxs (by omega)
 have e:(Tm.mk k n s ls ts).name=s:=rfl
 have e':(Tm.mk k n s ls ts).levels=ls:=rfl
 rw [e,e']
 have hw:∀ x,okO (j2d E s ls)=some x→TmW x:=fun x hx=>by
  cases hq:j2d E s ls with
  |error _=>rw [hq] at hx; cases hx
  |ok y =>
   rw [hq] at hx
   cases hx
   obtain ⟨e,h1,h2⟩:=j6W hq
   exact j8G hlxs.ws (hE.entry h1).2.1 h2
 have ho:=jc1 hw fun a ha=>hxs.ws a ha
 have ha:=j7a _ _ (j5Q hw) args b z xs hz hxs (by omega)
 have hn:=jkp E s ls
 rw [joE] at hV
 generalize okO (j2d E s ls)=o at *
 generalize errN (j2d E s ls)=q at *
 obtain ⟨k2,n2,s2,b2,z2,x2,c2,y2,ys2,he2⟩:=j0a (o.getD tz)
 rw [he2] at hV ha ho
 obtain ⟨⟨k3,n3,s3,b3,z3,x3,c3,y3,ys3,he3⟩,ho2⟩:=ho
 rw [he3] at ha ho2
 refine ⟨_,⟨⟨k3,n3,s3,b3,z3,x3,c3,y3,ys3,rfl⟩,ho2⟩,fun l=>?_⟩
 refine j00 Tryz.func307 rfl rfl rfl ?_
 repeat' ((conv=>whnf);first|apply gO|apply gP|refine j03 rfl rfl ?_|refine j05 hV (fun _=>?_)|refine j01 ha rfl rfl ?_|apply gK)
 all_goals (try (conv=>whnf))
 all_goals
  refine ⟨?_,rfl⟩
  rw [← hn]
  rfl
open Go Go.Am Go.Gw
theorem TmsP.take:∀ {ts:List Tm} {xs:List PV} (i:Nat),TmsP ts xs→TmsP (ts.take i) (xs.take i)
 |ts,xs,0,h=>by simp [TmsP]
 |[],xs,i + 1,h=>by
  simp only [TmsP] at h
  subst h
  simp [TmsP]
 |a :: r,xs,i + 1,h=>by
  simp only [TmsP] at h
  obtain ⟨v,xs',rfl,h1,h2⟩:=h
  exact ⟨v,xs'.take i,rfl,h1,TmsP.take i h2⟩
theorem TmsP.append:∀ {ts us:List Tm} {xs ys:List PV},TmsP ts xs→TmsP us ys→TmsP (ts ++ us) (xs ++ ys)
 |[],us,xs,ys,h,h'=>by
  simp only [TmsP] at h
  subst h
  exact h'
 |a :: r,us,xs,ys,h,h'=>by
  simp only [TmsP] at h
  obtain ⟨v,xs',rfl,h1,h2⟩:=h
  exact ⟨v,xs' ++ ys,rfl,h1,TmsP.append h2 h'⟩
theorem TmsP.pure6:∀ {ts:List Tm} {xs:List PV},TmsP ts xs→xs.all (pur 6)=true
 |[],xs,h=>by
  simp only [TmsP] at h
  subst h
  rfl
 |a :: r,xs,h=>by
  simp only [TmsP] at h
  obtain ⟨v,xs',rfl,h1,h2⟩:=h
  obtain ⟨k1,n1,s1,l1,t1,b1,z1,x1,c1,y1,ys1,rfl,rfl,-⟩:=h1.open
  rw [List.all_cons,TmsP.pure6 h2]
  rfl
def jj4 (fr mj:Nat) (args:List Tm) (fx:Nat) (fs:List Tm):List Tm:=args.take fr ++ (fs.drop fx ++ args.drop (mj + 1))
theorem jke (k:En) (kv:PV) (hk:EnP k kv) (h:Tm) (hv:PV) (hh:TmP h hv) (hs:shT h=true) (hkind:h.kind=3) (args:List Tm) (b:Bool) (z:Nat) (xs:List PV) (hz:z=5∨xs=[]) (hxs:TmsP args xs) (hbd:args.length ≤ 2000) (fs:List Tm) (b2:Bool) (z2:Nat) (ys:List PV) (hz2:z2=5∨ys=[]) (hys:TmsP fs ys) (hbd2:fs.length ≤ 2000)
  (fr mj:Nat) (frI mjI:Int) (e1:frI=fr) (e2:mjI=mj) (hfr:fr ≤ args.length) (hmj:mj < args.length) (fx:Nat) (hfx:k.fixd=fx) (hfl:fx ≤ fs.length) :
  ∃ w,OutP (appO (j1x k.val h.levels) (jj4 fr mj args fx fs)) w∧Pf C1 310 [.cp kv.cells,.cp hv.cells,.cp [.sl b z xs],.cp [iv frI],.cp [.sl b2 z2 ys],.cp [iv mjI]] [w,bv (j1x k.val h.levels).isSome]:=by
 obtain ⟨kd,n,s,ls,ts⟩:=h
 obtain ⟨a1,a2,a3,a4,a5,a6⟩:=j0q hs
 simp only [Tm.kind] at hkind
 have hl4:=a3 hkind
 obtain ⟨_,_,_,_,_,hb,hz',hxs',hc,hy,hyss,⟨rfl,rfl,rfl,rfl,rfl⟩,rfl,hlz,hlxs,-,-,hyz,htys,-,-,-⟩:=hh.open
 obtain ⟨kind,pars,nm,ty,val,hgt,fam,fixd,idx,flds,ctors⟩:=k
 obtain ⟨tk,tn,tts,tb,tz',txs,tc,ty',tys,vk,vn,vs,vb,vz,vxs,vc,vy,vys,b',z',rfl,hty,hval,-⟩:=hk
 dsimp only at hty hval hfx ⊢
 subst hfx
 have e:(Tm.mk kd n s ls ts).levels=ls:=rfl
 rw [e]
 have hL:=jbd ls hb hz' hxs' hlz hlxs (by omega) val _ hval
 have hlen:=hxs.len
 have hlen2:=hys.len
 have hw:∀ x,j1x val ls=some x→TmW x:=fun x hx=>j8G hlxs.ws hval.w hx
 have t1:TmsP (args.take fr) ((xs.take fr).drop 0):=hxs.take fr
 have t2:TmsP (fs.drop fx) ((ys.take ys.length).drop fx):=by
  rw [List.take_length]
  exact hys.drop fx
 have t3:TmsP (args.drop (mj + 1)) ((xs.take xs.length).drop (mj + 1)):=by
  rw [List.take_length]
  exact hxs.drop (mj + 1)
 have e2':mjI + 1=Int.ofNat (mj + 1):=by rw [e2]; rfl
 have o1:(fr.ble xs.length && Nat.ble 0 fr)=true:=by simp only [Nat.ble_eq,Bool.and_eq_true]; omega
 have o2:(ys.length.ble ys.length && fx.ble ys.length)=true:=by simp only [Nat.ble_eq,Bool.and_eq_true]; omega
 have o3:(xs.length.ble xs.length && (mj + 1).ble xs.length)=true:=by simp only [Nat.ble_eq,Bool.and_eq_true]; omega
 have tt:=t1.append (t2.append t3)
 obtain ⟨bb,zz,hzz,hC⟩:=jhU (b && Nat.beq fr xs.length) (b2 && Nat.beq ys.length ys.length) (b && Nat.beq xs.length xs.length) z z2 z ((xs.take fr).drop 0) ((ys.take ys.length).drop fx) ((xs.take xs.length).drop (mj + 1)) (hz.imp id fun e=>by rw [e]; simp) (hz2.imp id fun e=>by rw [e]; simp) (hz.imp id fun e=>by rw [e]; simp) t1.pure6 t2.pure6 t3.pure6 (by simp; omega) (by simp; omega) (by simp; omega)
 have ho:=jc1 (ts:=jj4 fr mj args fx fs) hw fun a ha=>tt.ws a ha
 have ha:=j7a _ _ (j5Q hw) (jj4 fr mj args fx fs) bb zz _ hzz tt (by simp [jj4]; omega)
 rw [j4r] at hL
 generalize j1x val ls=o at *
 obtain ⟨k2,n2,s2,q2,y2,x2,c2,y2',ys2,he2⟩:=j0a (o.getD tz)
 rw [he2] at hL ha ho
 obtain ⟨⟨k3,n3,s3,q3,z3,x3,c3,y3,ys3,he3⟩,ho2⟩:=ho
 rw [he3] at ha ho2
 refine ⟨_,⟨⟨k3,n3,s3,q3,z3,x3,c3,y3,ys3,rfl⟩,ho2⟩,?_⟩
 refine j00 Tryz.func310 rfl rfl rfl ?_
 repeat' ((conv=>whnf);first|apply gO|apply gP|apply gQ|refine gV ?_|refine j04 rfl ?_|refine j01 hL rfl rfl ?_|refine j05 hC (fun _=>?_)|refine VOk.mk (j07 rfl hz) ?_|refine VOk.mk (j07 rfl hz2) ?_|refine VNat.mk fr e1 ?_|refine VNat.mk (mj + 1) e2' ?_|refine VOk.mk o1 ?_|refine VOk.mk o2 ?_|refine VOk.mk o3 ?_|refine j05 ha (fun _=>?_)|apply gK)
 all_goals (try (conv=>whnf))
 all_goals rfl
theorem jfk {E:Nv} {v:PV} (h:NvP E v) (s:List UInt8) (hk:((j0O E s).getD enz).kind=6∨((j0O E s).getD enz).kind=7):(0 ≤ ((j0O E s).getD enz).fixd∧((j0O E s).getD enz).fixd ≤ 32)∧(0 ≤ ((j0O E s).getD enz).idx∧((j0O E s).getD enz).idx ≤ 32)∧(0 ≤ ((j0O E s).getD enz).flds∧((j0O E s).getD enz).flds ≤ 32):=by
 cases he:j0O E s with
 |none =>
  rw [he] at hk
  simp [enz] at hk
 |some e =>
  rw [he] at hk
  simp only [Option.getD_some] at hk ⊢
  exact j5u (h.entry he).2.2 hk
theorem TmP.kind {t:Tm} {k:Int} {r:List PV} (h:TmP t (.ag (iv k :: r))):t.kind=k:=by
 obtain ⟨k1,n1,s1,l1,t1,b1,z1,x1,c1,y1,ys1,rfl,e,-⟩:=h.open
 cases e
 rfl
theorem jpi {x y:PV} {a b:Bool} (h:a=b):AEnd.ret [x,y,bv a]=AEnd.ret [x,y,bv b]:=by rw [h]
def jqM (o:Option (En × List Tm)) (w a:PV):Prop:=(∃ e,EnP e w)∧(∃ b z xs,a = .sl b z xs∧(∀ k fs,o=some (k,fs)→EnP k w∧(z=5∨xs=[])∧TmsP fs xs))
theorem jlY (E:Nv) (cs:List PV) (hE:NvP E (.cp cs)) (tot l:Int) (t:Tm) (v:PV) (h:TmP t v) (hsz:sizT t ≤ 2000) (ofs:List (List UInt8)) (b:Bool) (z:Nat) (hz:z=1∨ofs=[]) (hbd:ofs.length ≤ 1000000) :
  ∃ w a,jqM (jat E t ofs) w a∧Fr 309 [.bp 0 0,v,.sl b z (svs ofs)] cs tot l (.ret [w,a,bv (jat E t ofs).isSome]) l:=by
 have hsp:=j9P t
 have hS:=j8M t v h (by omega)
 obtain ⟨hw1,hw2⟩:=jmk t h.w
 have hargs:TmsP (j1c t) ((j1c t).map encT):=j8o fun a ha=>hw2 a (j3c.1 ha)
 have hal:(j1c t).length ≤ 2000:=by simp [j1c]; omega
 have hev:∃ b z xs,j6Q (j1c t) = .sl b z xs∧(z=5∨xs=[])∧TmsP (j1c t) xs:=by
  cases hc:j1c t with
  |nil=>exact ⟨true,0,[],rfl,.inr rfl,by simp [TmsP]⟩
  |cons x r=>rw [← hc]; exact ⟨false,5,_,j2f (by rw [hc]; simp),.inl rfl,hargs⟩
 obtain ⟨ab,az,axs,hae,haz,haxs⟩:=hev
 have halen:=haxs.len
 have hcn:=jbD (spF t).1.name ofs b z hz (by omega)
 obtain ⟨dm,hdm⟩:∃ dm,dm=decide ((spF t).1.name ∈ ofs):=⟨_,rfl⟩
 rw [← hdm] at hcn
 have hdt:dm=true↔(spF t).1.name ∈ ofs:=by rw [hdm]; exact decide_eq_true_iff
 clear hdm
 have hg:=jaT E (.cp cs) hE (spF t).1.name
 have hnum:=jfk hE (spF t).1.name
 obtain ⟨w0,hw0,-⟩:=j6A E (.cp cs) hE (spF t).1.name
 have hEe:=j7A hw0
 have e0:jat E t ofs=if (spF t).1.kind=3∧(spF t).1.name ∈ ofs then
  match j0O E (spF t).1.name with
  |none=>none
  |some e=>if e.kind=6∧¬ e.val.kind=0∧((j1c t).length:Int)=e.fixd + e.flds then some (e,j1c t) else none
  else none:=rfl
 have e1:∀ hc:(spF t).1.kind=3∧(spF t).1.name ∈ ofs,jat E t ofs=if ((j0O E (spF t).1.name).getD enz).kind=6∧¬ ((j0O E (spF t).1.name).getD enz).val.kind=0∧((j1c t).length:Int)=((j0O E (spF t).1.name).getD enz).fixd + ((j0O E (spF t).1.name).getD enz).flds then some ((j0O E (spF t).1.name).getD enz,j1c t) else none:=fun hc=>by
  rw [e0,if_pos hc]
  cases j0O E (spF t).1.name with
  |none=>simp [enz]
  |some e=>rfl
 generalize (j0O E (spF t).1.name).getD enz=en at *
 generalize hhd:(spF t).1=hd at *
 obtain ⟨k2,n2,s2,ls2,ts2⟩:=hd
 simp only [Tm.name,Tm.kind] at hcn hg hdt
 obtain ⟨b2,z2,x2,hl2⟩:=j7M ls2
 obtain ⟨c2,y2,ys2,ht2⟩:=j7V ts2
 rw [j2q,hl2,ht2,hae] at hS
 obtain ⟨k1,n1,s1,l1,t1,b1,z1,x1,c1,y1,ys1,rfl,rfl,-⟩:=h.open
 by_cases hc:k2=3∧s2 ∈ ofs
 ·have e1':=e1 hc
  clear e1
  obtain rfl:=hdt.2 hc.2
  obtain ⟨rfl,-⟩:=hc
  obtain ⟨tk,tn,ts,tb,tz',txs,tc,ty',tys,vk,vn,vs,vb,vz,vxs,vc,vy,vys,b',z',hwe,hty,hval,-⟩:=hEe
  have hvk:=hval.kind
  rw [hwe] at hg
  refine ⟨.ag [iv en.kind,iv en.pars,sv en.nm,iv tk,iv tn,sv ts,.sl tb tz' txs,.sl tc ty' tys,iv vk,iv vn,sv vs,.sl vb vz vxs,.sl vc vy vys,iv en.ht,sv en.fam,iv en.fixd,iv en.idx,iv en.flds,.sl b' z' (svs en.ctors)],.sl ab az axs,⟨⟨en,hwe ▸ j7A hw0⟩,ab,az,axs,rfl,fun k fs hk=>?_⟩,?_⟩
  ·rw [e1'] at hk
   split at hk
   ·cases hk
    exact ⟨hwe ▸ j7A hw0,haz,haxs⟩
   ·cases hk
  ·have hgo:(jat E (.mk k1 n1 s1 l1 t1) ofs).isSome=(decide (en.kind=6) && (decide (¬ vk=0) && decide ((axs.length:Int)=en.fixd + en.flds))):=by
    rw [e1',hvk,halen]
    split
    ·rename_i hc
     simp [hc.1,hc.2.1,hc.2.2]
    ·rename_i hc
     by_cases q1:en.kind=6 <;> by_cases q2:vk=0 <;> by_cases q3:((j1c (.mk k1 n1 s1 l1 t1)).length:Int)=en.fixd + en.flds <;> simp_all
   rw [hgo]
   clear hgo e0 e1'
   refine j00 Tryz.func309 rfl rfl rfl ?_
   repeat' ((conv=>whnf);first|apply gF|apply gN|refine gA ?_|refine gB ?_|apply gE<;>intro h|apply gO|apply gP|refine gV ?_|refine j03 rfl rfl ?_|refine j01 hS rfl rfl ?_|refine j01 hcn rfl rfl ?_|refine j05 hg (fun _=>?_)|apply gK)
   all_goals (try (conv=>whnf))
   all_goals
    refine ⟨jpi ?_,rfl⟩
    clear hS hcn hg hw0 hnum
    simp_all
 ·have e1:jat E (.mk k1 n1 s1 l1 t1) ofs=none:=by rw [e0]; exact if_neg hc
  rw [e1]
  refine ⟨.ag zEn,.sl true 0 [],⟨⟨enz,jqh⟩,true,0,[],rfl,fun k fs hk=>by cases hk⟩,?_⟩
  refine j00 Tryz.func309 rfl rfl rfl ?_
  repeat' ((conv=>whnf);first|apply gT|apply gN|refine gA ?_|refine gB ?_|apply gE<;>intro h|apply gM<;>intro h|apply gO|refine j03 rfl rfl ?_|refine j01 hS rfl rfl ?_|refine j01 hcn rfl rfl ?_|apply gK)
  all_goals (try (conv=>whnf))
  all_goals first
   |exact ⟨rfl,rfl⟩
   |exact absurd ⟨by assumption,hdt.1 (by assumption)⟩ hc
end Go.Proofs.YtljnahbgfmflaaaGreatDoor
