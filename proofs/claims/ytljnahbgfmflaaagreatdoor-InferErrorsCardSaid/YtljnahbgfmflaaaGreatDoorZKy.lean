/-
  Which step there is at a term's head. No statement of the seat.
-/
import Derived.Test.YtljnahbgfmflaaaGreatDoorZKw
set_option linter.unusedVariables false
set_option maxHeartbeats 4000000
set_option maxRecDepth 100000
set_option linter.unusedSimpArgs false
set_option linter.unnecessarySimpa false
namespace Go.Proofs.YtljnahbgfmflaaaGreatDoor
open Go Go.Am Go.Gw
def FrT (f:FuncId) (args cs:List PV) (tot l:Int) (r:Except Int Tm) (l':Int):Prop:=match r with
 | .ok x=>∃ w,TmP x w∧Fr f args cs tot l (.ret [w]) l'
 | .error e=>Fr f args cs tot l (.pan (j1v e)) l'
def jdx (cs:List PV) (tot:Int) (hd:Tm→M Tm):Prop:=∀ (t:Tm) (v:PV),TmP t v→shT t=true→sizT t ≤ 2000→∀ l r l',0 ≤ l→l ≤ tot→hd t l=some (r,l')→(∀ x,r = .ok x→shT x=true∧sizT x ≤ 2000)∧FrT 185 [.bp 0 0,v] cs tot l r l'
def RdxP (cs:List PV) (tot:Int) (rd:Rdx) (v:PV):Prop:=match rd with
 |none=>v = .ag [iv 0,.sc .nilFunc]
 |some (k,o)=>¬ k=0∧(∀ x,o=some x→shT x=true)∧∃ g cl w,v = .ag [iv k,.fn g [] cl]∧OutP o w∧callable C1.P g=true ∧
  ((((∃ a b,cl=[.cp a,.cp b])∨∃ a b c d e f,cl=[.cp a,.cp b,.cp c,.cp d,.cp e,.cp f])∧Pf C1 g cl [w,bv o.isSome]) ∨
   (g=307∧(∃ a b,cl=[.ci [.bp 0 0],.cp a,.cp b])∧∀ l,Fr g cl cs tot l (.ret [w,bv o.isSome]) l))
def FrR (f:FuncId) (args cs:List PV) (tot l:Int) (r:Except Int Rdx) (l':Int):Prop:=match r with
 | .ok rd=>∃ w,RdxP cs tot rd w∧Fr f args cs tot l (.ret [w]) l'
 | .error e=>Fr f args cs tot l (.pan (j1v e)) l'
theorem jlg {C:Cfg} {f:FuncId} {k0:Nat} {rs rs':List PV} {st st':Sto} {Q:AEnd→Sto→Prop} (hk:C.keep f=false) (hp:pubL C rs st=some (rs',st')) (hr:rs'.all (pur 8)=true) (h0:(st'.take k0).all (soIn fun i=>Nat.blt i k0)=true) (k:Q (.ret rs') (st'.take k0)):VRet C f k0 rs st Q:=by
 refine ⟨rs',st'.take k0,?_,k⟩
 simp only [aret,hk,hp,hr,h0]
 rfl
theorem jlW (h:Tm) (hv:PV) (hh:TmP h hv) (b:Bool) (z:Nat) (xs:List PV):Pf C1 278 [hv,.sl b z xs] [.ag [iv 1,.fn 294 [] [.cp hv.cells,.cp [.sl b z xs]]]]:=by
 obtain ⟨k1,n1,s1,l1,t1,b1,z1,x1,c1,y1,ys1,rfl,rfl,-⟩:=hh.open
 refine j00 Tryz.func278 rfl rfl rfl ?_
 repeat' ((conv=>whnf);first|refine VOk.mk rfl ?_)
 all_goals (try (conv=>whnf))
 exact j0s rfl rfl rfl rfl
theorem jmQ (h:Tm) (hv:PV) (hh:TmP h hv) (b:Bool) (z:Nat) (xs:List PV):Pf C1 279 [hv,.sl b z xs] [.ag [iv 2,.fn 295 [] [.cp hv.cells,.cp [.sl b z xs]]]]:=by
 obtain ⟨k1,n1,s1,l1,t1,b1,z1,x1,c1,y1,ys1,rfl,rfl,-⟩:=hh.open
 refine j00 Tryz.func279 rfl rfl rfl ?_
 repeat' ((conv=>whnf);first|refine VOk.mk rfl ?_)
 all_goals (try (conv=>whnf))
 exact j0s rfl rfl rfl rfl
theorem jjd (cs:List PV) (tot l:Int) (h:Tm) (hv:PV) (hh:TmP h hv) (b:Bool) (z:Nat) (xs:List PV):Fr 297 [.bp 0 0,hv,.sl b z xs] cs tot l (.ret [.ag [iv 3,.fn 307 [] [.ci [.bp 0 0],.cp hv.cells,.cp [.sl b z xs]]]]) l:=by
 obtain ⟨k1,n1,s1,l1,t1,b1,z1,x1,c1,y1,ys1,rfl,rfl,-⟩:=hh.open
 refine j00 Tryz.func297 rfl rfl rfl ?_
 repeat' ((conv=>whnf);first|refine VOk.mk rfl ?_)
 all_goals (try (conv=>whnf))
 refine j1t (rs1:=[.ag [iv 3,.fn 307 [] [.ci [.bp 0 0],.cp [iv k1,iv n1,sv s1,.sl b1 z1 x1,.sl c1 y1 ys1],.cp [.sl b z xs]]]]) (st1:=[runB cs tot l,.frz [.bp 0 0],.frz [iv k1,iv n1,sv s1,.sl b1 z1 x1,.sl c1 y1 ys1],.frz [.sl b z xs],.box 272 [iv 3,.fn 307 [] [.bp 1 0,.bp 2 0,.bp 3 0]]]) (st2:=[runB cs tot l]) (st3:=[runB cs tot l]) (rs2:=[.ag [iv 3,.fn 307 [] [.ci [.bp 0 0],.cp [iv k1,iv n1,sv s1,.sl b1 z1 x1,.sl c1 y1 ys1],.cp [.sl b z xs]]]]) (.inr ⟨rfl,?_⟩) ?_ ?_ ?_ ⟨rfl,rfl⟩
 ·rfl
 ·rfl
 ·rfl
 ·rfl
theorem jcw {o:Option Tm} {ts:List Tm} {x:Tm} (h:appO o ts=some x) (ho:∀ y,o=some y→shT y=true) (hts:∀ a ∈ ts,shT a=true):shT x=true:=by
 unfold appO at h
 split at h
 ·cases h
 ·cases h
  exact jfX _ _ (ho _ rfl) hts
theorem jiO {e:En} (h:j2a e=true) (hk:e.kind=7):∃ F M:Nat,j5P e=F∧j5P e + e.idx=M∧F ≤ M:=by
 obtain ⟨h1,h2,h3⟩:=j5u h (.inr hk)
 refine ⟨(j5P e).toNat,(j5P e + e.idx).toNat,?_,?_,?_⟩ <;> unfold j5P at * <;> omega
theorem j5o (cs:List PV) (tot:Int):RdxP cs tot none (.ag [iv 0,.sc .nilFunc]):=rfl
theorem jft {E:Nv} {t:Tm} {ofs:List (List UInt8)} {k:En} {fs:List Tm} (h:jat E t ofs=some (k,fs)):j0O E (spF t).1.name=some k∧k.kind=6∧fs=j1c t∧(fs.length:Int)=k.fixd + k.flds:=by
 unfold jat at h
 split at h
 ·split at h
  ·cases h
  ·rename_i e he
   split at h
   ·rename_i hc
    cases h
    exact ⟨he,hc.1,rfl,hc.2.2⟩
   ·cases h
 ·cases h
theorem jmr (cs:List PV) (tot l' kd n:Int) (s:List UInt8) (b1:Bool) (z1:Nat) (x1:List PV) (c1':Bool) (y1:Nat) (ys1 es:List PV) (b:Bool) (z:Nat) (xs:List PV) (fr mj:Int) (en:En) (a1 a2:Int) (a3:List UInt8) (a4:Bool) (a5:Nat) (a6:List PV) (a7:Bool) (a8:Nat) (a9:List PV) (a10 a11:Int) (a12:List UInt8) (a13:Bool) (a14:Nat) (a15:List PV) (a16:Bool) (a17:Nat) (a18:List PV) (a19:Bool) (a20:Nat) (bb:Bool) (zz:Nat) (ys:List PV) :
  pubL C1 [.ag [iv 4,.fn 310 [] [.bp 7 0,.bp 1 0,.bp 3 0,.bp 5 0,.bp 8 0,.bp 6 0]]] [runB cs tot l',.box 25 [iv kd,iv n,sv s,.sl b1 z1 x1,.sl c1' y1 ys1],.box 115 es,.box 22 [.sl b z xs],.box 272 [iv 4,.fn 310 [] [.bp 7 0,.bp 1 0,.bp 3 0,.bp 5 0,.bp 8 0,.bp 6 0]],.box 3 [iv fr],.box 3 [iv mj],.box 115 [iv en.kind,iv en.pars,sv en.nm,iv a1,iv a2,sv a3,.sl a4 a5 a6,.sl a7 a8 a9,iv a10,iv a11,sv a12,.sl a13 a14 a15,.sl a16 a17 a18,iv en.ht,sv en.fam,iv en.fixd,iv en.idx,iv en.flds,.sl a19 a20 (svs en.ctors)],.box 22 [.sl bb zz ys]]=some ([.ag [iv 4,.fn 310 [] [.cp [iv en.kind,iv en.pars,sv en.nm,iv a1,iv a2,sv a3,.sl a4 a5 a6,.sl a7 a8 a9,iv a10,iv a11,sv a12,.sl a13 a14 a15,.sl a16 a17 a18,iv en.ht,sv en.fam,iv en.fixd,iv en.idx,iv en.flds,.sl a19 a20 (svs en.ctors)],.cp [iv kd,iv n,sv s,.sl b1 z1 x1,.sl c1' y1 ys1],.cp [.sl b z xs],.cp [iv fr],.cp [.sl bb zz ys],.cp [iv mj]]]],[runB cs tot l',.frz [iv kd,iv n,sv s,.sl b1 z1 x1,.sl c1' y1 ys1],.box 115 es,.frz [.sl b z xs],.box 272 [iv 4,.fn 310 [] [.bp 7 0,.bp 1 0,.bp 3 0,.bp 5 0,.bp 8 0,.bp 6 0]],.frz [iv fr],.frz [iv mj],.frz [iv en.kind,iv en.pars,sv en.nm,iv a1,iv a2,sv a3,.sl a4 a5 a6,.sl a7 a8 a9,iv a10,iv a11,sv a12,.sl a13 a14 a15,.sl a16 a17 a18,iv en.ht,sv en.fam,iv en.fixd,iv en.idx,iv en.flds,.sl a19 a20 (svs en.ctors)],.frz [.sl bb zz ys]]):=by rfl
theorem jm8 (E:Nv) (cs:List PV) (hE:NvP E (.cp cs)) (tot:Int) (hd:Tm→M Tm) (hH:jdx cs tot hd) (h:Tm) (hv:PV) (hh:TmP h hv) (hs:shT h=true) (hk:h.kind=3) (e:En) (ev:PV) (he:EnP e ev) (hr:j2a e=true) (hek:e.kind=7)
  (args:List Tm) (b:Bool) (z:Nat) (xs:List PV) (hz:z=5∨xs=[]) (hxs:TmsP args xs) (hbd:args.length ≤ 2000) (hsh:∀ a ∈ args,shT a=true) (hsz:∀ a ∈ args,sizT a ≤ 2000) (l:Int) (r:Except Int Rdx) (l':Int) (h0:0 ≤ l) (h1:l ≤ tot) (hx:jl5 E hd h e args l=some (r,l')) :
  FrR 298 [.bp 0 0,hv,ev,.sl b z xs] cs tot l r l':=by
 obtain ⟨F,Mj,hF,hM,hFM⟩:=jiO hr hek
 have hlen:=hxs.len
 unfold jl5 at hx
 rw [hM] at hx
 obtain ⟨kd,n,s,ls,ts⟩:=h
 obtain ⟨k1,n1,s1,l1,t1,b1,z1,x1,c1',y1,ys1,⟨rfl,rfl,rfl,rfl,rfl⟩,rfl,-⟩:=hh.open
 have hh':=hh
 obtain ⟨hn1,hn2,hn3⟩:=j5u hr (.inr hek)
 have he':=he
 obtain ⟨kind,pars,nm,ty,val,hgt,fam,fixd,idx,flds,ctors⟩:=e
 obtain ⟨tk,tn,tts,tb,tz',txs,tc,ty',tys,vk,vn,vs,vb,vz,vxs,vc,vy,vys,b',z',rfl,hty,hval,hzc,-,-,hcl,-⟩:=he
 have hF':fixd + 1 + (ctors.length:Int)=F:=hF
 have hM':fixd + 1 + (ctors.length:Int) + idx=Mj:=hM
 dsimp only at hn1 hn2 hn3 hzc hcl hek hx ⊢
 have hcl8:(svs ctors).length=ctors.length:=by simp
 have hzc':z'=1∨ctors=[]:=hzc.imp (·.1) (·.1)
 by_cases c1:(args.length:Int) ≤ (Mj:Int)
 ·rw [if_pos c1] at hx
  cases hx
  refine ⟨_,j5o cs tot,?_⟩
  refine j00 Tryz.func298 rfl rfl rfl ?_
  repeat' ((conv=>whnf);first|apply gE<;>intro h|apply gO|refine gV ?_|refine j03 rfl rfl ?_)
  all_goals (try (conv=>whnf))
  all_goals first|exact ⟨rfl,rfl⟩|(exfalso; omega)
 ·rw [if_neg c1] at hx
  have hMl:Mj < args.length:=by omega
  have hmem:args.getD Mj tz ∈ args:=by
   rw [List.getD_eq_getElem?_getD,List.getElem?_eq_getElem hMl]
   exact List.getElem_mem hMl
  obtain ⟨av,hav,ha⟩:=hxs.at (getD_at (ts:=args) (i:=Mj) hMl)
  have eM:(Mj:Int).toNat=Mj:=by simp
  rw [eM] at hx
  rcases j0d hx with ⟨er,q1,rfl⟩|⟨x,l1,q1,q2⟩
  ·obtain ⟨-,hw⟩:=hH _ av ha (hsh _ hmem) (hsz _ hmem) l _ l' h0 h1 q1
   have hw:Fr 185 [.bp 0 0,av] cs tot l (.pan (j1v er)) l':=hw
   show Fr _ _ _ _ _ (.pan (j1v er)) l'
   obtain ⟨k2,n2,s2,l2,t2,b2,z2,x2,c2,y2,ys2,-,rfl,-⟩:=ha.open
   refine j00 Tryz.func298 rfl rfl rfl ?_
   repeat' ((conv=>whnf);first|apply gE<;>intro h|apply gO|refine gV ?_|refine j03 rfl rfl ?_|refine VIdx.mk _ hav ?_|refine VOk.mk (j07 rfl hz) ?_|refine VNat.mk Mj (by simp only [Int.ofNat_eq_natCast]; omega) ?_|refine j02 hw rfl rfl rfl rfl rfl rfl rfl ?_|apply gK)
   all_goals (try (conv=>whnf))
   all_goals first|exact ⟨rfl,rfl⟩|(exfalso; omega)
  ·obtain ⟨hx2,w,hw,hf⟩:=hH _ av ha (hsh _ hmem) (hsz _ hmem) l _ l1 h0 h1 q1
   obtain ⟨hsx,hzx⟩:=hx2 x rfl
   obtain ⟨w2,a,⟨⟨en,hen⟩,bb,zz,ys,rfl,hC⟩,hcf⟩:=jlY E cs hE tot l1 x w hw hzx ctors b' z' hzc' hcl
   obtain ⟨k2,n2,s2,l2,t2,b2,z2,x2,c2,y2,ys2,-,rfl,-⟩:=ha.open
   obtain ⟨k3,n3,s3,l3,t3,b3,z3,x3,c3,y3,ys3,-,rfl,-⟩:=hw.open
   cases hO:jat E x ctors with
   |none =>
    rw [hO] at q2 hcf
    cases q2
    refine ⟨_,j5o cs tot,?_⟩
    obtain ⟨a1,a2,a3,a4,a5,a6,a7,a8,a9,a10,a11,a12,a13,a14,a15,a16,a17,a18,a19,a20,rfl,-⟩:=hen
    refine j00 Tryz.func298 rfl rfl rfl ?_
    repeat' ((conv=>whnf);first|apply gT|apply gE<;>intro h|apply gO|refine gV ?_|refine j03 rfl rfl ?_|refine VIdx.mk _ hav ?_|refine VOk.mk (j07 rfl hz) ?_|refine VNat.mk Mj (by simp only [Int.ofNat_eq_natCast]; omega) ?_|refine j02 hf rfl rfl rfl rfl rfl rfl rfl ?_|refine j02 hcf rfl rfl rfl rfl rfl rfl rfl ?_|apply gK)
    all_goals (try (conv=>whnf))
    all_goals first|exact ⟨rfl,rfl⟩|(exfalso; omega)
   |some p =>
    obtain ⟨kn,fs⟩:=p
    rw [hO] at q2 hcf
    cases q2
    obtain ⟨hkn,hzz,hfs⟩:=hC kn fs hO
    obtain ⟨p1,p2,p3,p4⟩:=jft hO
    obtain ⟨g1,g2,g3⟩:=j5u (hE.entry p1).2.2 (.inl p2)
    obtain ⟨fx,hfx⟩:∃ fx:Nat,kn.fixd=fx:=⟨kn.fixd.toNat,by omega⟩
    have hfl:fs.length ≤ 2000:=by
     rw [p3]
     have:=(j9P x).1
     simp [j1c]
     omega
    obtain ⟨wo,ho,hi⟩:=jke kn w2 hkn _ _ hh' hs hk args b z xs hz hxs hbd fs bb zz ys hzz hfs hfl F Mj (fixd + 1 + ((svs ctors).length:Int)) (fixd + 1 + ((svs ctors).length:Int) + idx) (by rw [hcl8]; exact hF') (by rw [hcl8]; exact hM') (by omega) hMl fx hfx (by omega)
    have eL:jj4 F Mj args fx fs=args.take (j5P ⟨kind,pars,nm,ty,val,hgt,fam,fixd,idx,flds,ctors⟩).toNat ++ (fs.drop kn.fixd.toNat ++ args.drop ((Mj:Int) + 1).toNat):=by
     unfold jj4
     rw [hfx,hF]
     have:((Mj:Int) + 1).toNat=Mj + 1:=by omega
     rw [this]
     simp
    refine ⟨.ag [iv 4,.fn 310 [] [.cp w2.cells,.cp [iv kd,iv n,sv s,.sl b1 z1 x1,.sl c1' y1 ys1],.cp [.sl b z xs],.cp [iv (fixd + 1 + ((svs ctors).length:Int))],.cp [.sl bb zz ys],.cp [iv (fixd + 1 + ((svs ctors).length:Int) + idx)]]],⟨by omega,fun y hy=>?_,_,_,wo,rfl,?_,rfl,.inl ⟨.inr ⟨_,_,_,_,_,_,rfl⟩,?_⟩⟩,?_⟩
    ·refine jcw hy (fun y hy=>j7w hy) fun a ha=>?_
     rcases List.mem_append.1 ha with ha|ha
     ·exact hsh a (List.mem_of_mem_take ha)
     ·rcases List.mem_append.1 ha with ha|ha
      ·rw [p3] at ha
       exact (jgA x hsx).2.1 a (j3c.1 (List.mem_of_mem_drop ha))
      ·exact hsh a (List.mem_of_mem_drop ha)
    ·rw [← eL]
     exact ho
    ·rw [j6r]
     exact hi
    ·obtain ⟨a1,a2,a3,a4,a5,a6,a7,a8,a9,a10,a11,a12,a13,a14,a15,a16,a17,a18,a19,a20,rfl,-⟩:=hen
     refine j00 Tryz.func298 rfl rfl rfl ?_
     repeat' ((conv=>whnf);first|apply gF|apply gE<;>intro h|apply gO|refine gV ?_|refine j03 rfl rfl ?_|refine VIdx.mk _ hav ?_|refine VOk.mk (j07 rfl hz) ?_|refine VNat.mk Mj (by simp only [Int.ofNat_eq_natCast]; omega) ?_|refine j02 hf rfl rfl rfl rfl rfl rfl rfl ?_|refine j02 hcf rfl rfl rfl rfl rfl rfl rfl ?_|apply gK)
     all_goals (try (conv=>whnf))
     all_goals first|(exfalso; omega)|skip
     refine (show VRet C1 298 1 [.ag [iv 4,.fn 310 [] [.bp 7 0,.bp 1 0,.bp 3 0,.bp 5 0,.bp 8 0,.bp 6 0]]] [runB cs tot l',.box 25 [iv kd,iv n,sv s,.sl b1 z1 x1,.sl c1' y1 ys1],.box 115 [iv kind,iv pars,sv nm,iv tk,iv tn,sv tts,.sl tb tz' txs,.sl tc ty' tys,iv vk,iv vn,sv vs,.sl vb vz vxs,.sl vc vy vys,iv hgt,sv fam,iv fixd,iv idx,iv flds,.sl b' z' (svs ctors)],.box 22 [.sl b z xs],.box 272 [iv 4,.fn 310 [] [.bp 7 0,.bp 1 0,.bp 3 0,.bp 5 0,.bp 8 0,.bp 6 0]],.box 3 [iv (fixd + 1 + ((svs ctors).length:Int))],.box 3 [iv (fixd + 1 + ((svs ctors).length:Int) + idx)],.box 115 [iv en.kind,iv en.pars,sv en.nm,iv a1,iv a2,sv a3,.sl a4 a5 a6,.sl a7 a8 a9,iv a10,iv a11,sv a12,.sl a13 a14 a15,.sl a16 a17 a18,iv en.ht,sv en.fam,iv en.fixd,iv en.idx,iv en.flds,.sl a19 a20 (svs en.ctors)],.box 22 [.sl bb zz ys]] _ from ?_)
     exact jlg rfl (jmr cs tot l' kd n s b1 z1 x1 c1' y1 ys1 [iv kind,iv pars,sv nm,iv tk,iv tn,sv tts,.sl tb tz' txs,.sl tc ty' tys,iv vk,iv vn,sv vs,.sl vb vz vxs,.sl vc vy vys,iv hgt,sv fam,iv fixd,iv idx,iv flds,.sl b' z' (svs ctors)] b z xs (fixd + 1 + ((svs ctors).length:Int)) (fixd + 1 + ((svs ctors).length:Int) + idx) en a1 a2 a3 a4 a5 a6 a7 a8 a9 a10 a11 a12 a13 a14 a15 a16 a17 a18 a19 a20 bb zz ys) rfl rfl ⟨rfl,rfl⟩
open Go Go.Am Go.Gw
theorem jcK {f:FuncId} {rs:List PV} {st:Sto} {cs:List PV} {tot l:Int} {Q:AEnd→Sto→Prop} (hk:C1.keep f=false) (hp:pubL C1 rs st=some (rs,st)) (hn:rs.all (pur 8)=false) (hg:gc 1 (rs.map fun r=>(0,r)) st=[runB cs tot l]) (k:Q (.ret rs) [runB cs tot l]):VRet C1 f 1 rs st Q :=
 j1t (.inr ⟨hk,hp⟩) (by rw [hn]; rfl) hg rfl k
theorem jiD (E:Nv) (cs:List PV) (hE:NvP E (.cp cs)) (tot:Int) (hd:Tm→M Tm) (hH:jdx cs tot hd) (h:Tm) (hv:PV) (hh:TmP h hv) (hs:shT h=true) (hk:h.kind=3)
  (args:List Tm) (b:Bool) (z:Nat) (xs:List PV) (hz:z=5∨xs=[]) (hxs:TmsP args xs) (hbd:args.length ≤ 2000) (hsh:∀ a ∈ args,shT a=true) (hsz:∀ a ∈ args,sizT a ≤ 2000) (l:Int) (r:Except Int Rdx) (l':Int) (h0:0 ≤ l) (h1:l ≤ tot) (hx:j2b E hd h args l=some (r,l')) :
  FrR 280 [.bp 0 0,hv,.sl b z xs] cs tot l r l':=by
 have hg:=jaT E (.cp cs) hE h.name
 obtain ⟨w0,hw0,-⟩:=j6A E (.cp cs) hE h.name
 have hEn:=j7A hw0
 obtain ⟨wd,hod,hfd⟩:=ji9 E cs hE tot h hv hh hs hk args b z xs hz hxs hbd
 have hdel:=jjd cs tot l h hv hh b z xs
 have hio:=fun e ev he hr hek=>jm8 E cs hE tot hd hH h hv hh hs hk e ev he hr hek args b z xs hz hxs hbd hsh hsz l r l' h0 h1
 have hval:=fun x=>@j6W E h.name h.levels x
 unfold j2b at hx
 obtain ⟨kd,n,s,ls,ts⟩:=h
 obtain ⟨k1,n1,s1,l1,t1,b1,z1,x1,c1',y1,ys1,⟨rfl,rfl,rfl,rfl,rfl⟩,rfl,-,hlxs,-⟩:=hh.open
 have hll:=hlxs.len
 have e1:(Tm.mk kd n s ls ts).name=s:=rfl
 have e2:(Tm.mk kd n s ls ts).levels=ls:=rfl
 rw [e1] at hg hw0 hEn hod hfd hval hx
 rw [e2] at hod hfd hval hx
 cases hen:j0O E s with
 |none =>
  rw [hen] at hx hg hEn
  cases hx
  refine ⟨_,j5o cs tot,?_⟩
  obtain ⟨a1,a2,a3,a4,a5,a6,a7,a8,a9,a10,a11,a12,a13,a14,a15,a16,a17,a18,a19,a20,hq,-⟩:=hEn
  rw [hq] at hg
  refine j00 Tryz.func280 rfl rfl rfl ?_
  repeat' ((conv=>whnf);first|apply gT|apply gO|apply gP|refine j03 rfl rfl ?_|refine j05 hg (fun _=>?_)|apply gK)
  all_goals (try (conv=>whnf))
  all_goals exact ⟨rfl,rfl⟩
 |some e =>
  have hre:=(hE.entry hen).2.2
  rw [hen] at hx hg hEn
  simp only [Option.getD_some,Option.isSome_some] at hg hEn
  have hio:=hio e (encE e) hEn hre
  obtain ⟨a1,a2,a3,a4,a5,a6,a7,a8,a9,a10,a11,a12,a13,a14,a15,a16,a17,a18,a19,a20,hq,-⟩:=hEn
  rw [hq] at hg hio
  dsimp only at hx
  by_cases c1:(ls.length:Int)=e.pars
  ·rw [if_neg (by simpa using c1)] at hx
   by_cases c2:e.kind=2
   ·rw [if_pos c2] at hx
    cases hx
    refine ⟨.ag [iv 3,.fn 307 [] [.ci [.bp 0 0],.cp (PV.ag [iv kd,iv n,sv s,.sl b1 z1 x1,.sl c1' y1 ys1]).cells,.cp [.sl b z xs]]],⟨by omega,fun y hy=>?_,_,_,wd,rfl,hod,rfl,.inr ⟨rfl,⟨_,_,rfl⟩,?_⟩⟩,?_⟩
    ·refine jcw hy (fun y hy=>?_) hsh
     cases hv:j2d E s ls with
     |error _=>rw [hv] at hy; cases hy
     |ok u =>
      rw [hv] at hy
      cases hy
      obtain ⟨e',-,h2⟩:=hval _ hv
      exact j7w h2
    ·intro l
     rw [j6r]
     exact hfd l
    ·refine j00 Tryz.func280 rfl rfl rfl ?_
     repeat' ((conv=>whnf);first|apply gF|apply gN|refine gA ?_|apply gE<;>intro h|apply gO|apply gP|refine j03 rfl rfl ?_|refine j05 hg (fun _=>?_)|refine j02 hdel rfl rfl rfl rfl rfl rfl rfl ?_|apply gK)
     all_goals (try (conv=>whnf))
     all_goals first|(exfalso; omega)|skip
     refine (show VRet C1 280 1 [.ag [iv 3,.fn 307 [] [.ci [.bp 0 0],.cp [iv kd,iv n,sv s,.sl b1 z1 x1,.sl c1' y1 ys1],.cp [.sl b z xs]]]] [runB cs tot l,.box 25 [iv kd,iv n,sv s,.sl b1 z1 x1,.sl c1' y1 ys1],.box 272 [iv 3,.fn 307 [] [.ci [.bp 0 0],.cp [iv kd,iv n,sv s,.sl b1 z1 x1,.sl c1' y1 ys1],.cp [.sl b z xs]]],.box 115 [iv e.kind,iv e.pars,sv e.nm,iv a1,iv a2,sv a3,.sl a4 a5 a6,.sl a7 a8 a9,iv a10,iv a11,sv a12,.sl a13 a14 a15,.sl a16 a17 a18,iv e.ht,sv e.fam,iv e.fixd,iv e.idx,iv e.flds,.sl a19 a20 (svs e.ctors)]] _ from ?_)
     exact jcK rfl rfl rfl rfl ⟨rfl,rfl⟩
   ·rw [if_neg c2] at hx
    by_cases c3:e.kind=7
    ·rw [if_pos c3] at hx
     have hio:=hio c3 hx
     cases r with
     |error er =>
      have hio:Fr 298 _ cs tot l (.pan (j1v er)) l':=hio
      show Fr _ _ _ _ _ (.pan (j1v er)) l'
      refine j00 Tryz.func280 rfl rfl rfl ?_
      repeat' ((conv=>whnf);first|apply gF|apply gN|refine gA ?_|refine gB ?_|apply gE<;>intro h|apply gO|apply gP|refine j03 rfl rfl ?_|refine j05 hg (fun _=>?_)|refine j02 hio rfl rfl rfl rfl rfl rfl rfl ?_|apply gK)
      all_goals (try (conv=>whnf))
      all_goals first|exact ⟨rfl,rfl⟩|(exfalso; omega)
     |ok rd =>
      obtain ⟨w,hw,hf⟩:=hio
      refine ⟨w,hw,?_⟩
      cases rd with
      |none =>
       obtain rfl:w = .ag [iv 0,.sc .nilFunc]:=hw
       refine j00 Tryz.func280 rfl rfl rfl ?_
       repeat' ((conv=>whnf);first|apply gF|apply gN|refine gA ?_|refine gB ?_|apply gE<;>intro h|apply gO|apply gP|refine j03 rfl rfl ?_|refine j05 hg (fun _=>?_)|refine j02 hf rfl rfl rfl rfl rfl rfl rfl ?_|apply gK)
       all_goals (try (conv=>whnf))
       all_goals first|exact ⟨rfl,rfl⟩|(exfalso; omega)
      |some p =>
       obtain ⟨kk,o⟩:=p
       obtain ⟨hk0,-,g,cl,wo,rfl,ho,hcl,⟨⟨a',b',rfl⟩|⟨a',b',c',d',e',f',rfl⟩,-⟩|⟨rfl,⟨a',b',rfl⟩,-⟩⟩:=hw
       ·refine j00 Tryz.func280 rfl rfl rfl ?_
        repeat' ((conv=>whnf);first|apply gF|apply gN|refine gA ?_|refine gB ?_|apply gE<;>intro h|apply gO|apply gP|refine j03 rfl rfl ?_|refine j05 hg (fun _=>?_)|refine j02 hf rfl rfl rfl rfl rfl rfl rfl ?_|apply gK)
        all_goals (try (conv=>whnf))
        all_goals first|exact ⟨rfl,rfl⟩|(exfalso; omega)
       ·refine j00 Tryz.func280 rfl rfl rfl ?_
        repeat' ((conv=>whnf);first|apply gF|apply gN|refine gA ?_|refine gB ?_|apply gE<;>intro h|apply gO|apply gP|refine j03 rfl rfl ?_|refine j05 hg (fun _=>?_)|refine j02 hf rfl rfl rfl rfl rfl rfl rfl ?_|apply gK)
        all_goals (try (conv=>whnf))
        all_goals first|exact ⟨rfl,rfl⟩|(exfalso; omega)
       ·refine j00 Tryz.func280 rfl rfl rfl ?_
        repeat' ((conv=>whnf);first|apply gF|apply gN|refine gA ?_|refine gB ?_|apply gE<;>intro h|apply gO|apply gP|refine j03 rfl rfl ?_|refine j05 hg (fun _=>?_)|refine j02 hf rfl rfl rfl rfl rfl rfl rfl ?_|apply gK)
        all_goals (try (conv=>whnf))
        all_goals first|(exfalso; omega)|skip
        refine (show VRet C1 280 1 [.ag [iv kk,.fn 307 [] [.ci [.bp 0 0],.cp a',.cp b']]] [runB cs tot l',.box 25 [iv kd,iv n,sv s,.sl b1 z1 x1,.sl c1' y1 ys1],.box 272 [iv kk,.fn 307 [] [.ci [.bp 0 0],.cp a',.cp b']],.box 115 [iv e.kind,iv e.pars,sv e.nm,iv a1,iv a2,sv a3,.sl a4 a5 a6,.sl a7 a8 a9,iv a10,iv a11,sv a12,.sl a13 a14 a15,.sl a16 a17 a18,iv e.ht,sv e.fam,iv e.fixd,iv e.idx,iv e.flds,.sl a19 a20 (svs e.ctors)]] _ from ?_)
        exact jcK rfl rfl rfl rfl ⟨rfl,rfl⟩
    ·rw [if_neg c3] at hx
     cases hx
     refine ⟨_,j5o cs tot,?_⟩
     refine j00 Tryz.func280 rfl rfl rfl ?_
     repeat' ((conv=>whnf);first|apply gF|apply gN|refine gB ?_|apply gE<;>intro h|apply gO|apply gP|refine j03 rfl rfl ?_|refine j05 hg (fun _=>?_)|apply gK)
     all_goals (try (conv=>whnf))
     all_goals first|exact ⟨rfl,rfl⟩|(exfalso; omega)
  ·rw [if_pos (by simpa using c1)] at hx
   cases hx
   refine ⟨_,j5o cs tot,?_⟩
   refine j00 Tryz.func280 rfl rfl rfl ?_
   repeat' ((conv=>whnf);first|apply gF|apply gN|apply gE<;>intro h|apply gO|apply gP|refine j03 rfl rfl ?_|refine j05 hg (fun _=>?_)|apply gK)
   all_goals (try (conv=>whnf))
   all_goals first|exact ⟨rfl,rfl⟩|(exfalso; omega)
end Go.Proofs.YtljnahbgfmflaaaGreatDoor
