/-
  Environments: an entry more (package env). No statement of the seat.
-/
import Derived.Test.YtljnahbgfmflaaaGreatDoorZKn
import Derived.Test.YtljnahbgfmflaaaGreatDoorZKy
import Derived.Test.YtljnahbgfmflaaaGreatDoorZIn
set_option linter.unusedVariables false
set_option maxHeartbeats 2000000
set_option maxRecDepth 100000
set_option linter.unusedSimpArgs false
set_option linter.unnecessarySimpa false
namespace Go.Proofs.YtljnahbgfmflaaaGreatDoor
open Go Go.Am Go.Gw
theorem EnP.pure6 {e:En} {v:PV} (h:EnP e v):pur 6 v=true:=by
 obtain ⟨a1,a2,a3,a4,a5,a6,a7,a8,a9,a10,a11,a12,a13,a14,a15,a16,a17,a18,a19,a20,rfl,-⟩:=h
 rfl
theorem EnsP.pure6:∀ {es:List En} {xs:List PV},EnsP es xs→xs.all (pur 6)=true
 |[],xs,h=>by
  simp only [EnsP] at h
  subst h
  rfl
 |e :: r,xs,h=>by
  simp only [EnsP] at h
  obtain ⟨v,xs',rfl,h1,h2⟩:=h
  rw [List.all_cons,h1.pure6,EnsP.pure6 h2]
  rfl
theorem jgi {C:Cfg} {n i:Nat} {T T2:TypeId} {cs cs' c2:List PV} {st st':Sto} (hst:st[i]? = some (.box T cs)) (hfz:C.fz T=true) (h:mapS (pubV C n) cs st=some (cs',st')) (h':st'[i]? = some (.box T2 c2)):pubV C (n + 1) (.bp i 0) st=some (frzV cs',st'.set i (.frz cs')):=by
 simp only [pubV,hst,hfz,h,h']
theorem jqt (E:Nv) (v:PV) (h:NvP E v) (e:En) (w:PV) (hw:EnP e w) (hr:j2a e=true) (hg:getR e.nm E.tr=none) (hput:jfg e.nm E.es.length E.tr) (hlen:E.es.length < 100000) (hok:NvOk ⟨putR e.nm E.es.length E.tr,E.es ++ [e]⟩):∃ v',NvP ⟨putR e.nm E.es.length E.tr,E.es ++ [e]⟩ v'∧Pf C1 79 [v,w] [v',iv 0]:=by
 have hR:=j4s e w hw
 have hC:=jdw e w hw
 have hG:=jjG e.nm E.tr
 rw [hr] at hR
 rw [hg] at hG
 obtain ⟨b,z,xs,rfl,hz,hx,hok0⟩:=h
 have hP:=jpp e.nm E.es.length E.tr hput
 have hl:=hx.len
 have hsn:=hx.snoc (j7X hw)
 have hp6:=hsn.pure6
 have ho1:(xs.length.ble xs.length && Nat.ble 0 xs.length)=true:=by simp
 have ho2:Nat.beq xs.length xs.length=true:=by simp
 refine ⟨.cp [j6t (putR e.nm E.es.length E.tr),.sl false 19 (xs ++ [encE e])],⟨false,19,_,rfl,.inl ⟨rfl,by simp⟩,hsn,hok⟩,?_⟩
 have hP:Pf C1 128 [j6t E.tr,sv e.nm,iv xs.length] [j6t (putR e.nm E.es.length E.tr)]:=by
  rw [hl]
  exact hP
 obtain ⟨tk,tn,ts,tb,tz',txs,tc,ty',tys,vk,vn,vs,vb,vz,vxs,vc,vy,vys,b',z',hE⟩:=jdz hw
 rw [hE] at hC hp6 ⊢
 obtain ⟨a1,a2,a3,a4,a5,a6,a7,a8,a9,a10,a11,a12,a13,a14,a15,a16,a17,a18,a19,a20,rfl,-⟩:=hw
 rcases hz with ⟨rfl,-⟩|⟨he,rfl,rfl⟩
 ·refine j00 Tryz.func79 rfl rfl rfl ?_
  repeat' ((conv=>whnf);first|apply gF|apply gO|apply gP|apply gQ|refine j01 hR rfl rfl ?_|refine j05 hG (fun _=>?_)|refine j05 hC (fun _=>?_)|refine VOk.mk ho1 ?_|refine VOk.mk ho2 ?_|refine VOk.mk (jgc (w:=264) (r:=140737488355328) rfl rfl rfl (by simp; omega) (by simp; omega)) ?_|refine j05 hP (fun _=>?_)|apply gK)
  all_goals (try (conv=>whnf))
  have hx:(xs.take xs.length).drop 0 ++ [.ag [iv e.kind,iv e.pars,sv e.nm,iv tk,iv tn,sv ts,.sl tb tz' txs,.sl tc ty' tys,iv vk,iv vn,sv vs,.sl vb vz vxs,.sl vc vy vys,iv e.ht,sv e.fam,iv e.fixd,iv e.idx,iv e.flds,.sl b' z' (svs e.ctors)]]=xs ++ [.ag [iv e.kind,iv e.pars,sv e.nm,iv tk,iv tn,sv ts,.sl tb tz' txs,.sl tc ty' tys,iv vk,iv vn,sv vs,.sl vb vz vxs,.sl vc vy vys,iv e.ht,sv e.fam,iv e.fixd,iv e.idx,iv e.flds,.sl b' z' (svs e.ctors)]]:=by rw [List.take_length]; rfl
  refine j0x rfl (j09 (jgi rfl rfl (j09 rfl (j09 (j0P rfl (by simp) (by rw [← hx] at hp6; exact hp6)) j0s)) rfl) (j09 rfl j0s)) rfl ?_
  rw [← hx]
  rfl
 ·obtain rfl:xs=[]:=List.eq_nil_of_length_eq_zero (by rw [hl,he]; rfl)
  refine j00 Tryz.func79 rfl rfl rfl ?_
  repeat' ((conv=>whnf);first|apply gF|apply gO|apply gP|apply gQ|refine j01 hR rfl rfl ?_|refine j05 hG (fun _=>?_)|refine j05 hC (fun _=>?_)|refine j05 hP (fun _=>?_)|apply gK)
  all_goals (try (conv=>whnf))
  exact j0x rfl (j09 (jgi rfl rfl (j09 rfl (j09 (j0P rfl rfl hp6) j0s)) rfl) (j09 rfl j0s)) rfl rfl
open Go Go.Am Go.Gw
theorem Finds.out {f:FuncId} {args:List PV} {α:Type} {P:α→Prop} {R:α→AEnd} (h:Finds C1 f args [] fun r _=>∃ x,P x∧r=R x):∃ x,P x∧Finds C1 f args [] fun r _=>r=R x:=by
 obtain ⟨r,st,⟨x,h1,h2⟩,N,hN⟩:=h
 exact ⟨x,h1,r,st,h2,N,hN⟩
def nv0:Nv:=⟨.nil,[]⟩
def Nv.push (E:Nv) (e:En):Nv:=⟨putR e.nm E.es.length E.tr,E.es ++ [e]⟩
def jcj:Nv→List En→Nv
 |E,[]=>E
 |E,e :: r=>jcj (E.push e) r
def jhs:Nv→List En→Prop
 |_,[]=>True
 |E,e :: r=>(j2a e=true∧getR e.nm E.tr=none∧jfg e.nm E.es.length E.tr∧E.es.length < 100000∧NvOk (E.push e))∧jhs (E.push e) r
theorem jr1:NvP nv0 (.cp [j6t .nil,.sl true 0 []]):=⟨true,0,[],rfl,.inr ⟨rfl,rfl,rfl⟩,rfl,⟨fun s i h=>(by cases h),fun e h=>(by cases h),by simp [nv0]⟩⟩
theorem ji2:Pf C1 40 [] [.cp [j6t .nil,.sl true 0 []]]:=by
 have ht:=jfa
 refine j00 Tryz.func40 rfl rfl rfl ?_
 repeat' ((conv=>whnf);first|refine j01 ht rfl rfl ?_)
 all_goals (try (conv=>whnf))
 exact j0x rfl rfl rfl rfl
theorem joo (E:Nv) (v:PV) (h:NvP E v) (es:List En) (b:Bool) (ws:List PV) (hws:EnsP es ws) (hok:jhs E es) (hbd:es.length ≤ 100000):∃ v',NvP (jcj E es) v'∧Pf C1 41 [v,.sl b 19 ws] [v',iv 0]:=by
 have hlen:=hws.len
 refine Finds.out (P:=fun v'=>NvP (jcj E es) v') (R:=fun v'=>.ret [v',iv 0]) ?_
 have h0:=h
 obtain ⟨b0,z0,xs0,rfl,-⟩:=h0
 refine j00 Tryz.func41 rfl rfl rfl ?_
 skip
 all_goals (try (conv=>whnf))
 refine j08 (G:=Nat × Nv × PV) (fun g=>[(6,g.2.2),(14,iv g.1)]) (fun _=>_) (fun g=>g.1 ≤ es.length∧jcj g.2.1 (es.drop g.1)=jcj E es∧jhs g.2.1 (es.drop g.1)∧NvP g.2.1 g.2.2) (fun g=>es.length - g.1) (0,E,_) ⟨by omega,rfl,hok,h⟩ rfl rfl ?_
 rintro ⟨i,Ei,vi⟩ ⟨hi,hall,hoki,hv⟩
 dsimp only at hi hall hoki hv ⊢
 have hv':=hv
 obtain ⟨b1,z1,xs1,rfl,-⟩:=hv'
 repeat' ((conv=>whnf);first|apply gE<;>intro h|apply gQ|refine j03 rfl ?_)
 all_goals (try (conv=>whnf))
 ·have hi':i < es.length:=by omega
  obtain ⟨e,he⟩:∃ e,es[i]? = some e:=⟨_,List.getElem?_eq_getElem hi'⟩
  obtain ⟨w,hw,hP⟩:=hws.at he
  have hd:es.drop i=e :: es.drop (i + 1):=by
   rw [List.drop_eq_getElem_cons hi']
   congr 1
   rw [List.getElem?_eq_getElem hi'] at he
   exact Option.some.inj he
  rw [hd] at hall hoki
  obtain ⟨⟨o1,o2,o3,o4,o5⟩,o6⟩:=hoki
  obtain ⟨v2,hv2,ha⟩:=jqt Ei _ hv e w hP o1 o2 o3 o4 o5
  have hv2':=hv2
  obtain ⟨b2,z2,xs2,rfl,-⟩:=hv2'
  obtain ⟨a1,a2,a3,a4,a5,a6,a7,a8,a9,a10,a11,a12,a13,a14,a15,a16,a17,a18,a19,a20,rfl,-⟩:=hP
  repeat' ((conv=>whnf);first|apply gF|apply gO|refine gV ?_|refine VIdx.mk _ hw ?_|refine j01 ha rfl rfl ?_)
  all_goals (try (conv=>whnf))
  exact VAgain.mk _ rfl _ (j0h rfl rfl rfl) ⟨(i + 1,Ei.push e,_),⟨hi',hall,o6,hv2⟩,by dsimp only; omega,rfl⟩
 ·have hl:i=es.length:=by omega
  subst hl
  rw [List.drop_length] at hall
  refine ⟨_,?_,rfl⟩
  rw [← hall]
  exact hv
theorem jfL (cs:List PV) (n:Int) (h0:0 ≤ n) (h1:n ≤ 1048576):Finds C1 43 [.cp cs,iv n] [] fun r st=>r = .ret [.bp 0 0,iv 0]∧st=[runB cs n n]:=by
 refine j00 Tryz.func43 rfl rfl rfl ?_
 repeat' ((conv=>whnf);first|apply gT|refine gA ?_|refine gB ?_|apply gE<;>intro h|refine j03 rfl ?_)
 all_goals (try (conv=>whnf))
 all_goals first|(exfalso; omega)|skip
 show VRet C1 _ 0 [.bp 0 0,iv 0] [.box 84 [.cp cs,iv 0,iv n]] _
 have e:runB cs n n = .box 84 [.cp cs,iv 0,iv n]:=by
  unfold runB
  rw [Int.sub_self]
 rw [e]
 exact j1Q (.inr ⟨rfl,rfl⟩) rfl rfl rfl ⟨rfl,rfl⟩
theorem jfk (cs:List PV) (tot l:Int):Fr 44 [.bp 0 0] cs tot l (.ret [.ci [.bp 0 0]]) l:=by
 refine j00 Tryz.func44 rfl rfl rfl ?_
 skip
 all_goals (try (conv=>whnf))
 show VRet C1 _ 1 [.bp 1 0] [.box 84 [.cp cs,iv (tot - l),iv l],.box 82 [.bp 0 0]] _
 exact j1Q (.inr ⟨rfl,rfl⟩) rfl rfl rfl ⟨rfl,rfl⟩
theorem jfA (cs:List PV) (tot l:Int):Fr 11 [.ci [.bp 0 0]] cs tot l (.ret [.bp 0 0]) l:=by
 refine j00 Tryz.func11 rfl rfl rfl ?_
 skip
 all_goals (try (conv=>whnf))
 all_goals first|exact ⟨rfl,rfl⟩|skip
 show VRet C1 _ 1 [.bp 0 0] [.box 84 [.cp cs,iv (tot - l),iv l]] _
 exact j1Q (.inr ⟨rfl,rfl⟩) rfl rfl rfl ⟨rfl,rfl⟩
theorem jmI (cs:List PV) (tot l:Int):Fr 12 [.bp 0 0] cs tot l (.ret [iv (tot - l)]) l:=by
 refine j00 Tryz.func12 rfl rfl rfl ?_
 repeat' ((conv=>whnf);first|refine j04 rfl rfl ?_)
 all_goals (try (conv=>whnf))
 all_goals exact ⟨rfl,rfl⟩
open Go Go.Am Go.Gw
theorem jm4 (cs:List PV) (tot l l' e:Int) (b:Bool) (z:Nat) (xs:List PV) (t:Tm) (v:PV) (h:TmP t v) (hf:Fr 73 [.ci [.bp 0 0],.sl b z xs,v] cs tot l (.pan (j0c e)) l'):Finds C1 72 [.bp 0 0,.bp 1 0,.bp 2 0,.bp 3 0] (stC cs tot l (.sl b z xs) v (.box 4 [bv false])) fun r st=>r = .pan (j0c e)∧st=stC cs tot l' (.sl b z xs) v (.box 4 [bv false]):=by
 obtain ⟨k1,n1,s1,l1,t1,b1,z1,x1,c1,y1,ys1,-,rfl,-⟩:=h.open
 refine j00 Tryz.func72 rfl rfl rfl ?_
 repeat' ((conv=>whnf);first|refine j2K (i:=4) hf rfl rfl rfl rfl rfl rfl rfl ?_)
 all_goals (try (conv=>whnf))
 all_goals exact ⟨rfl,rfl⟩
theorem jdm (cs:List PV) (tot l l':Int) (b:Bool) (z:Nat) (xs:List PV) (t:Tm) (v:PV) (h:TmP t v) (q:Bool) (k2 n2:Int) (s2:List UInt8) (b2:Bool) (z2:Nat) (x2:List PV) (c2:Bool) (y2:Nat) (ys2:List PV) (hf:Fr 73 [.ci [.bp 0 0],.sl b z xs,v] cs tot l (.ret [.ag [iv k2,iv n2,sv s2,.sl b2 z2 x2,.sl c2 y2 ys2],bv q]) l'):Finds C1 72 [.bp 0 0,.bp 1 0,.bp 2 0,.bp 3 0] (stC cs tot l (.sl b z xs) v (.box 4 [bv false])) fun r st=>r = .ret []∧st=stC cs tot l' (.sl b z xs) v (.box 4 [bv q]):=by
 obtain ⟨k1,n1,s1,l1,t1,b1,z1,x1,c1,y1,ys1,-,rfl,-⟩:=h.open
 refine j00 Tryz.func72 rfl rfl rfl ?_
 repeat' ((conv=>whnf);first|apply gO|refine j04 rfl rfl ?_|refine j2K (i:=4) hf rfl rfl rfl rfl rfl rfl rfl ?_)
 all_goals (try (conv=>whnf))
 all_goals exact ⟨rfl,rfl⟩
theorem jmm (cs:List PV) (tot l l' e:Int) (b:Bool) (z:Nat) (xs:List PV) (t:Tm) (v:PV) (h:TmP t v) (hf:Fr 75 [.ci [.bp 0 0],.sl b z xs,v] cs tot l (.pan (j0c e)) l'):Finds C1 74 [.bp 0 0,.bp 1 0,.bp 2 0,.bp 3 0] (stC cs tot l (.sl b z xs) v (.box 38 zLv)) fun r st=>r = .pan (j0c e)∧st=stC cs tot l' (.sl b z xs) v (.box 38 zLv):=by
 obtain ⟨k1,n1,s1,l1,t1,b1,z1,x1,c1,y1,ys1,-,rfl,-⟩:=h.open
 refine j00 Tryz.func74 rfl rfl rfl ?_
 repeat' ((conv=>whnf);first|refine j2K (i:=4) hf rfl rfl rfl rfl rfl rfl rfl ?_)
 all_goals (try (conv=>whnf))
 all_goals exact ⟨rfl,rfl⟩
theorem jmY (cs:List PV) (tot l l':Int) (b:Bool) (z:Nat) (xs:List PV) (t:Tm) (v:PV) (h:TmP t v) (x:Lv) (w:PV) (hw:LvP x w) (hf:Fr 75 [.ci [.bp 0 0],.sl b z xs,v] cs tot l (.ret [w]) l'):Finds C1 74 [.bp 0 0,.bp 1 0,.bp 2 0,.bp 3 0] (stC cs tot l (.sl b z xs) v (.box 38 zLv)) fun r st=>r = .ret []∧st=stC cs tot l' (.sl b z xs) v (.box 38 (encL x).cells):=by
 have ha:=j8u x w hw true 3 rfl
 obtain ⟨k9,n9,b9,z9,x9,he9⟩:=j0z x
 rw [he9] at ha ⊢
 obtain ⟨k1,n1,s1,l1,t1,b1,z1,x1,c1,y1,ys1,-,rfl,-⟩:=h.open
 obtain ⟨k2,n2,l2,b2,z2,x2,-,rfl,-⟩:=hw.open
 refine j00 Tryz.func74 rfl rfl rfl ?_
 repeat' ((conv=>whnf);first|apply gO|refine j04 rfl rfl ?_|refine j2K (i:=4) hf rfl rfl rfl rfl rfl rfl rfl ?_|refine j01 ha rfl rfl ?_)
 all_goals (try (conv=>whnf))
 all_goals exact ⟨rfl,rfl⟩
theorem jeu (cs:List PV) (tot l:Int) (b:Bool) (z:Nat) (xs:List PV) (k1 n1:Int) (s1:List UInt8) (b1:Bool) (z1:Nat) (x1:List PV) (c1:Bool) (y1:Nat) (ys1:List PV) (hfo:Pf C1 98 [.sl b z xs,.sl true 5 [.ag [iv k1,iv n1,sv s1,.sl b1 z1 x1,.sl c1 y1 ys1]]] [bv false]):Finds C1 67 (byA (.sl b z xs) [.ag [iv k1,iv n1,sv s1,.sl b1 z1 x1,.sl c1 y1 ys1]] 72) (stB cs tot l (.sl b z xs) (.ag [iv k1,iv n1,sv s1,.sl b1 z1 x1,.sl c1 y1 ys1]) (.box 4 [bv false])) fun r st=>r = .ret [iv 10]∧st=stB cs tot l (.sl b z xs) (.ag [iv k1,iv n1,sv s1,.sl b1 z1 x1,.sl c1 y1 ys1]) (.box 4 [bv false]):=by
 refine j0r Tryz.func67 rfl rfl rfl ?_
 repeat' ((conv=>whnf);first|refine j01 hfo rfl rfl ?_|refine j0v (j1D 10) rfl rfl ?_)
 all_goals (try (conv=>whnf))
 refine ⟨_,_,_,_,_,_,rfl,rfl,rfl,rfl,?_⟩
 repeat' ((conv=>whnf);first|apply gT|apply gO|refine j04 rfl rfl ?_|refine j01 (j0I _) rfl rfl ?_)
 all_goals (try (conv=>whnf))
 all_goals exact ⟨rfl,rfl⟩
theorem jj5 (cs:List PV) (tot l l' e:Int) (he:¬ e=0) (b:Bool) (z:Nat) (xs:List PV) (k1 n1:Int) (s1:List UInt8) (b1:Bool) (z1:Nat) (x1:List PV) (c1:Bool) (y1:Nat) (ys1:List PV) (hfo:Pf C1 98 [.sl b z xs,.sl true 5 [.ag [iv k1,iv n1,sv s1,.sl b1 z1 x1,.sl c1 y1 ys1]]] [bv true])
  (hc:Finds C1 72 [.bp 0 0,.bp 1 0,.bp 2 0,.bp 3 0] (stC cs tot l (.sl b z xs) (.ag [iv k1,iv n1,sv s1,.sl b1 z1 x1,.sl c1 y1 ys1]) (.box 4 [bv false])) fun r st=>r = .pan (j0c e)∧st=stC cs tot l' (.sl b z xs) (.ag [iv k1,iv n1,sv s1,.sl b1 z1 x1,.sl c1 y1 ys1]) (.box 4 [bv false])):Finds C1 67 (byA (.sl b z xs) [.ag [iv k1,iv n1,sv s1,.sl b1 z1 x1,.sl c1 y1 ys1]] 72) (stB cs tot l (.sl b z xs) (.ag [iv k1,iv n1,sv s1,.sl b1 z1 x1,.sl c1 y1 ys1]) (.box 4 [bv false])) fun r st=>r = .ret [iv e]∧st=stB cs tot l' (.sl b z xs) (.ag [iv k1,iv n1,sv s1,.sl b1 z1 x1,.sl c1 y1 ys1]) (.box 4 [bv false]):=by
 refine j0r Tryz.func67 rfl rfl rfl ?_
 repeat' ((conv=>whnf);first|refine j01 hfo rfl rfl ?_|refine j01 (j1d 10) rfl rfl ?_|refine j1G hc rfl rfl rfl rfl rfl rfl rfl ?_)
 all_goals (try (conv=>whnf))
 refine ⟨_,_,_,_,_,_,rfl,rfl,rfl,rfl,?_⟩
 repeat' ((conv=>whnf);first|apply gN|refine gB ?_|apply gO|refine j04 rfl rfl ?_|refine j01 (j0I _) rfl rfl ?_)
 all_goals (try (conv=>whnf))
 all_goals first|exact ⟨rfl,rfl⟩|(exfalso; omega)
theorem jaW (cs:List PV) (tot l l':Int) (q:Bool) (b:Bool) (z:Nat) (xs:List PV) (k1 n1:Int) (s1:List UInt8) (b1:Bool) (z1:Nat) (x1:List PV) (c1:Bool) (y1:Nat) (ys1:List PV) (hfo:Pf C1 98 [.sl b z xs,.sl true 5 [.ag [iv k1,iv n1,sv s1,.sl b1 z1 x1,.sl c1 y1 ys1]]] [bv true])
  (hc:Finds C1 72 [.bp 0 0,.bp 1 0,.bp 2 0,.bp 3 0] (stC cs tot l (.sl b z xs) (.ag [iv k1,iv n1,sv s1,.sl b1 z1 x1,.sl c1 y1 ys1]) (.box 4 [bv false])) fun r st=>r = .ret []∧st=stC cs tot l' (.sl b z xs) (.ag [iv k1,iv n1,sv s1,.sl b1 z1 x1,.sl c1 y1 ys1]) (.box 4 [bv q])):Finds C1 67 (byA (.sl b z xs) [.ag [iv k1,iv n1,sv s1,.sl b1 z1 x1,.sl c1 y1 ys1]] 72) (stB cs tot l (.sl b z xs) (.ag [iv k1,iv n1,sv s1,.sl b1 z1 x1,.sl c1 y1 ys1]) (.box 4 [bv false])) fun r st=>r = .ret [iv 0]∧st=stB cs tot l' (.sl b z xs) (.ag [iv k1,iv n1,sv s1,.sl b1 z1 x1,.sl c1 y1 ys1]) (.box 4 [bv q]):=by
 refine j0r Tryz.func67 rfl rfl rfl ?_
 repeat' ((conv=>whnf);first|apply gO|refine j01 hfo rfl rfl ?_|refine j01 (j1d 10) rfl rfl ?_|refine j1G hc rfl rfl rfl rfl rfl rfl rfl ?_)
 all_goals (try (conv=>whnf))
 refine ⟨_,_,_,_,_,_,rfl,rfl,rfl,rfl,?_⟩
 repeat' ((conv=>whnf);first|apply gF|refine j04 rfl rfl ?_|refine j01 j2v rfl rfl ?_)
 all_goals (try (conv=>whnf))
 all_goals exact ⟨rfl,rfl⟩
theorem j4z (cs:List PV) (tot l l':Int) (b:Bool) (z:Nat) (xs:List PV) (k1 n1:Int) (s1:List UInt8) (b1:Bool) (z1:Nat) (x1:List PV) (c1:Bool) (y1:Nat) (ys1:List PV) (e:Int) (q:Bool)
  (hb:Finds C1 67 (byA (.sl b z xs) [.ag [iv k1,iv n1,sv s1,.sl b1 z1 x1,.sl c1 y1 ys1]] 72) (stB cs tot l (.sl b z xs) (.ag [iv k1,iv n1,sv s1,.sl b1 z1 x1,.sl c1 y1 ys1]) (.box 4 [bv false])) fun r st=>r = .ret [iv e]∧st=stB cs tot l' (.sl b z xs) (.ag [iv k1,iv n1,sv s1,.sl b1 z1 x1,.sl c1 y1 ys1]) (.box 4 [bv q])) :
  Fr 33 [.ci [.bp 0 0],.sl b z xs,.ag [iv k1,iv n1,sv s1,.sl b1 z1 x1,.sl c1 y1 ys1]] cs tot l (.ret [bv q,iv e]) l':=by
 refine j00 Tryz.func33 rfl rfl rfl ?_
 repeat' ((conv=>whnf);first|refine j04 rfl rfl ?_|refine j1G hb rfl rfl rfl rfl rfl rfl rfl ?_)
 all_goals (try (conv=>whnf))
 all_goals exact ⟨rfl,rfl⟩
theorem jfW (cs:List PV) (tot l:Int) (b:Bool) (z:Nat) (xs:List PV) (k1 n1:Int) (s1:List UInt8) (b1:Bool) (z1:Nat) (x1:List PV) (c1:Bool) (y1:Nat) (ys1:List PV) (hfo:Pf C1 98 [.sl b z xs,.sl true 5 [.ag [iv k1,iv n1,sv s1,.sl b1 z1 x1,.sl c1 y1 ys1]]] [bv false]):Finds C1 67 (byA (.sl b z xs) [.ag [iv k1,iv n1,sv s1,.sl b1 z1 x1,.sl c1 y1 ys1]] 74) (stB cs tot l (.sl b z xs) (.ag [iv k1,iv n1,sv s1,.sl b1 z1 x1,.sl c1 y1 ys1]) (.box 38 zLv)) fun r st=>r = .ret [iv 10]∧st=stB cs tot l (.sl b z xs) (.ag [iv k1,iv n1,sv s1,.sl b1 z1 x1,.sl c1 y1 ys1]) (.box 38 zLv):=by
 refine j0r Tryz.func67 rfl rfl rfl ?_
 repeat' ((conv=>whnf);first|refine j01 hfo rfl rfl ?_|refine j0v (j1D 10) rfl rfl ?_)
 all_goals (try (conv=>whnf))
 refine ⟨_,_,_,_,_,_,rfl,rfl,rfl,rfl,?_⟩
 repeat' ((conv=>whnf);first|apply gT|apply gO|refine j04 rfl rfl ?_|refine j01 (j0I _) rfl rfl ?_)
 all_goals (try (conv=>whnf))
 all_goals exact ⟨rfl,rfl⟩
theorem jkK (cs:List PV) (tot l l' e:Int) (he:¬ e=0) (b:Bool) (z:Nat) (xs:List PV) (k1 n1:Int) (s1:List UInt8) (b1:Bool) (z1:Nat) (x1:List PV) (c1:Bool) (y1:Nat) (ys1:List PV) (hfo:Pf C1 98 [.sl b z xs,.sl true 5 [.ag [iv k1,iv n1,sv s1,.sl b1 z1 x1,.sl c1 y1 ys1]]] [bv true])
  (hc:Finds C1 74 [.bp 0 0,.bp 1 0,.bp 2 0,.bp 3 0] (stC cs tot l (.sl b z xs) (.ag [iv k1,iv n1,sv s1,.sl b1 z1 x1,.sl c1 y1 ys1]) (.box 38 zLv)) fun r st=>r = .pan (j0c e)∧st=stC cs tot l' (.sl b z xs) (.ag [iv k1,iv n1,sv s1,.sl b1 z1 x1,.sl c1 y1 ys1]) (.box 38 zLv)):Finds C1 67 (byA (.sl b z xs) [.ag [iv k1,iv n1,sv s1,.sl b1 z1 x1,.sl c1 y1 ys1]] 74) (stB cs tot l (.sl b z xs) (.ag [iv k1,iv n1,sv s1,.sl b1 z1 x1,.sl c1 y1 ys1]) (.box 38 zLv)) fun r st=>r = .ret [iv e]∧st=stB cs tot l' (.sl b z xs) (.ag [iv k1,iv n1,sv s1,.sl b1 z1 x1,.sl c1 y1 ys1]) (.box 38 zLv):=by
 refine j0r Tryz.func67 rfl rfl rfl ?_
 repeat' ((conv=>whnf);first|refine j01 hfo rfl rfl ?_|refine j01 (j1d 10) rfl rfl ?_|refine j1G hc rfl rfl rfl rfl rfl rfl rfl ?_)
 all_goals (try (conv=>whnf))
 refine ⟨_,_,_,_,_,_,rfl,rfl,rfl,rfl,?_⟩
 repeat' ((conv=>whnf);first|apply gN|refine gB ?_|apply gO|refine j04 rfl rfl ?_|refine j01 (j0I _) rfl rfl ?_)
 all_goals (try (conv=>whnf))
 all_goals first|exact ⟨rfl,rfl⟩|(exfalso; omega)
theorem jkp (cs:List PV) (tot l l':Int) (k9 n9:Int) (b9:Bool) (z9:Nat) (x9:List PV) (b:Bool) (z:Nat) (xs:List PV) (k1 n1:Int) (s1:List UInt8) (b1:Bool) (z1:Nat) (x1:List PV) (c1:Bool) (y1:Nat) (ys1:List PV) (hfo:Pf C1 98 [.sl b z xs,.sl true 5 [.ag [iv k1,iv n1,sv s1,.sl b1 z1 x1,.sl c1 y1 ys1]]] [bv true])
  (hc:Finds C1 74 [.bp 0 0,.bp 1 0,.bp 2 0,.bp 3 0] (stC cs tot l (.sl b z xs) (.ag [iv k1,iv n1,sv s1,.sl b1 z1 x1,.sl c1 y1 ys1]) (.box 38 zLv)) fun r st=>r = .ret []∧st=stC cs tot l' (.sl b z xs) (.ag [iv k1,iv n1,sv s1,.sl b1 z1 x1,.sl c1 y1 ys1]) (.box 38 [iv k9,iv n9,.sl b9 z9 x9])):Finds C1 67 (byA (.sl b z xs) [.ag [iv k1,iv n1,sv s1,.sl b1 z1 x1,.sl c1 y1 ys1]] 74) (stB cs tot l (.sl b z xs) (.ag [iv k1,iv n1,sv s1,.sl b1 z1 x1,.sl c1 y1 ys1]) (.box 38 zLv)) fun r st=>r = .ret [iv 0]∧st=stB cs tot l' (.sl b z xs) (.ag [iv k1,iv n1,sv s1,.sl b1 z1 x1,.sl c1 y1 ys1]) (.box 38 [iv k9,iv n9,.sl b9 z9 x9]):=by
 refine j0r Tryz.func67 rfl rfl rfl ?_
 repeat' ((conv=>whnf);first|apply gO|refine j01 hfo rfl rfl ?_|refine j01 (j1d 10) rfl rfl ?_|refine j1G hc rfl rfl rfl rfl rfl rfl rfl ?_)
 all_goals (try (conv=>whnf))
 refine ⟨_,_,_,_,_,_,rfl,rfl,rfl,rfl,?_⟩
 repeat' ((conv=>whnf);first|apply gF|refine j04 rfl rfl ?_|refine j01 j2v rfl rfl ?_)
 all_goals (try (conv=>whnf))
 all_goals exact ⟨rfl,rfl⟩
theorem j7C (cs:List PV) (tot l l':Int) (b:Bool) (z:Nat) (xs:List PV) (k1 n1:Int) (s1:List UInt8) (b1:Bool) (z1:Nat) (x1:List PV) (c1:Bool) (y1:Nat) (ys1:List PV) (e:Int) (k9 n9:Int) (b9:Bool) (z9:Nat) (x9:List PV)
  (hb:Finds C1 67 (byA (.sl b z xs) [.ag [iv k1,iv n1,sv s1,.sl b1 z1 x1,.sl c1 y1 ys1]] 74) (stB cs tot l (.sl b z xs) (.ag [iv k1,iv n1,sv s1,.sl b1 z1 x1,.sl c1 y1 ys1]) (.box 38 zLv)) fun r st=>r = .ret [iv e]∧st=stB cs tot l' (.sl b z xs) (.ag [iv k1,iv n1,sv s1,.sl b1 z1 x1,.sl c1 y1 ys1]) (.box 38 [iv k9,iv n9,.sl b9 z9 x9])) :
  Fr 34 [.ci [.bp 0 0],.sl b z xs,.ag [iv k1,iv n1,sv s1,.sl b1 z1 x1,.sl c1 y1 ys1]] cs tot l (.ret [.ag [iv k9,iv n9,.sl b9 z9 x9],iv e]) l':=by
 refine j00 Tryz.func34 rfl rfl rfl ?_
 repeat' ((conv=>whnf);first|apply gO|refine j04 rfl rfl ?_|refine j1G hb rfl rfl rfl rfl rfl rfl rfl ?_)
 all_goals (try (conv=>whnf))
 all_goals exact ⟨rfl,rfl⟩
def errB (o:Except Int Bool):List PV:=match o with
 | .ok x=>[bv x,iv 0]
 | .error e=>[bv false,iv e]
def errL (o:Except Int Lv):List PV:=match o with
 | .ok x=>[encL x,iv 0]
 | .error e=>[.ag zLv,iv e]
theorem jid (E:Nv) (cs:List PV) (hE:NvP E (.cp cs)) (tot:Int) (ht:tot ≤ 1048576) (n:Nat) (ctx:List Tm) (b:Bool) (z:Nat) (xs:List PV) (hz:z=5∨(xs=[]∧b=true∧z=0)) (hxs:TmsP ctx xs) (hbd:ctx.length ≤ 1759218604441) (t:Tm) (v:PV) (h:TmP t v) (l:Int) (r:Except Int Bool) (l':Int) (h0:0 ≤ l) (h1:l ≤ tot) (hx:jfB E n ctx t l=some (r,l')):Fr 33 [.ci [.bp 0 0],.sl b z xs,v] cs tot l (.ret (errB r)) l':=by
 have hz':z=5∨xs=[]:=hz.imp_right fun q=>q.1
 have hfo:=j4D ctx [t] b z xs hz' hxs true 5 [v] (.inl rfl) ⟨v,[],rfl,h,rfl⟩ hbd (by simp)
 have hv:=h
 obtain ⟨k1,n1,s1,l1,t1,b1,z1,x1,c1,y1,ys1,-,rfl,-⟩:=h.open
 unfold jfB at hx
 rcases j0k hx with ⟨e,q1,rfl⟩|⟨u0,la,q1,q2⟩
 ·obtain ⟨rfl,d2⟩:=j1M q1
  rcases d2 with ⟨-,d2⟩|⟨d1,d2⟩
  ·cases d2
  ·cases d2
   rw [d1] at hfo
   exact j4z cs tot l' l' b z xs _ _ _ _ _ _ _ _ _ 10 _ (jeu cs tot l' b z xs _ _ _ _ _ _ _ _ _ hfo)
 obtain ⟨rfl,d2⟩:=j1M q1
 rcases d2 with ⟨d1,-⟩|⟨-,d2⟩
 rotate_left
 ·cases d2
 rw [d1] at hfo
 obtain ⟨hc,hsh⟩:=j2U d1 hz hxs
 have hpr:∀ (r:Except Int (Option Tm)) (lb:Int),jez (jav E n) (typF E n) ctx t la=some (r,lb)→CrP [.ci [.bp 0 0],.sl b z xs,.ag [iv k1,iv n1,sv s1,.sl b1 z1 x1,.sl c1 y1 ys1]] cs tot la r lb:=fun r lb q=>jcv ht (W_ok E cs hE tot ht n) (T_ok E cs hE tot ht n) (j1Z n) (j2Z n) ctx _ hc t _ hv (hsh t (List.mem_singleton.2 rfl)).1 la r lb h0 h1 q
 rcases j0k q2 with ⟨e,q3,rfl⟩|⟨p,lb,q3,q4⟩
 ·have hf:Fr _ _ _ _ _ (.pan (j0c e)) l':=hpr _ _ q3
  have he:¬ e=0:=fun e0=>by
   subst e0
   exact (j6I (j1Z n) (j2Z n) ctx t).nz _ _ q3
  exact j4z cs tot la l' b z xs _ _ _ _ _ _ _ _ _ e _ (jj5 cs tot la l' e he b z xs _ _ _ _ _ _ _ _ _ hfo (jm4 cs tot la l' e b z xs t _ hv hf))
 ·cases q4
  have hf:=hpr _ _ q3
  cases p with
  |none =>
   obtain ⟨k2,n2,s2,b2,z2,x2,c2,y2,ys2,hf⟩:=hf
   exact j4z cs tot la l' b z xs _ _ _ _ _ _ _ _ _ 0 _ (jaW cs tot la l' false b z xs _ _ _ _ _ _ _ _ _ hfo (jdm cs tot la l' b z xs t _ hv false _ _ _ _ _ _ _ _ _ hf))
  |some x =>
   obtain ⟨-,-,w,hw,hf⟩:=hf
   obtain ⟨k2,n2,s2,l2,t2,b2,z2,x2,c2,y2,ys2,-,rfl,-⟩:=hw.open
   exact j4z cs tot la l' b z xs _ _ _ _ _ _ _ _ _ 0 _ (jaW cs tot la l' true b z xs _ _ _ _ _ _ _ _ _ hfo (jdm cs tot la l' b z xs t _ hv true _ _ _ _ _ _ _ _ _ hf))
theorem jly (E:Nv) (cs:List PV) (hE:NvP E (.cp cs)) (tot:Int) (ht:tot ≤ 1048576) (n:Nat) (ctx:List Tm) (b:Bool) (z:Nat) (xs:List PV) (hz:z=5∨(xs=[]∧b=true∧z=0)) (hxs:TmsP ctx xs) (hbd:ctx.length ≤ 1759218604441) (t:Tm) (v:PV) (h:TmP t v) (l:Int) (r:Except Int Lv) (l':Int) (h0:0 ≤ l) (h1:l ≤ tot) (hx:jky E n ctx t l=some (r,l')):(∀ x,r = .ok x→∃ w,LvP x w)∧Fr 34 [.ci [.bp 0 0],.sl b z xs,v] cs tot l (.ret (errL r)) l':=by
 have hz':z=5∨xs=[]:=hz.imp_right fun q=>q.1
 have hfo:=j4D ctx [t] b z xs hz' hxs true 5 [v] (.inl rfl) ⟨v,[],rfl,h,rfl⟩ hbd (by simp)
 have hv:=h
 obtain ⟨k1,n1,s1,l1,t1,b1,z1,x1,c1,y1,ys1,-,rfl,-⟩:=h.open
 unfold jky at hx
 rcases j0k hx with ⟨e,q1,rfl⟩|⟨u0,la,q1,q2⟩
 ·obtain ⟨rfl,d2⟩:=j1M q1
  rcases d2 with ⟨-,d2⟩|⟨d1,d2⟩
  ·cases d2
  ·cases d2
   rw [d1] at hfo
   exact ⟨fun x hx=>(by cases hx),j7C cs tot l' l' b z xs _ _ _ _ _ _ _ _ _ 10 _ _ _ _ _ (jfW cs tot l' b z xs _ _ _ _ _ _ _ _ _ hfo)⟩
 obtain ⟨rfl,d2⟩:=j1M q1
 rcases d2 with ⟨d1,-⟩|⟨-,d2⟩
 rotate_left
 ·cases d2
 rw [d1] at hfo
 obtain ⟨hc,hsh⟩:=j2U d1 hz hxs
 have hf:=j8Q ht (W_ok E cs hE tot ht n) (T_ok E cs hE tot ht n) (j1Z n) (j2Z n) ctx _ hc t _ hv (hsh t (List.mem_singleton.2 rfl)).1 la r l' h0 h1 q2
 cases r with
 |error e =>
  have he:¬ e=0:=fun e0=>by
   subst e0
   exact (j4j (j1Z n) (j2Z n) ctx t).nz _ _ q2
  exact ⟨fun x hx=>(by cases hx),j7C cs tot la l' b z xs _ _ _ _ _ _ _ _ _ e _ _ _ _ _ (jkK cs tot la l' e he b z xs _ _ _ _ _ _ _ _ _ hfo (jmm cs tot la l' e b z xs t _ hv hf))⟩
 |ok x =>
  obtain ⟨w,hw,hf⟩:=hf
  refine ⟨fun y hy=>?_,?_⟩
  ·cases hy
   exact ⟨w,hw⟩
  ·have ho:=jmY cs tot la l' b z xs t _ hv x w hw hf
   unfold errL
   obtain ⟨k9,n9,b9,z9,x9,he9⟩:=j0z x
   dsimp only
   rw [he9] at ho ⊢
   exact j7C cs tot la l' b z xs _ _ _ _ _ _ _ _ _ 0 _ _ _ _ _ (jkp cs tot la l' _ _ _ _ _ b z xs _ _ _ _ _ _ _ _ _ hfo ho)
open Go Go.Am Go.Gw
def stC2 (cs:List PV) (tot l:Int) (cv v w:PV) (o:SO):Sto:=[.box 28 [.ci [.bp 5 0]],.box 22 [cv],.box 25 v.cells,.box 25 w.cells,o,runB cs tot l]
def stB2 (cs:List PV) (tot l:Int) (cv v w:PV) (o:SO):Sto:=[runB cs tot l,.box 28 [.ci [.bp 0 0]],.box 22 [cv],.box 25 v.cells,.box 25 w.cells,o]
def byA2 (cv:PV) (ts:List PV) (F:FuncId):List PV:=[.ci [.bp 0 0],cv,.sl true 5 ts,.fn F [] [.bp 1 0,.bp 2 0,.bp 3 0,.bp 4 0,.bp 5 0]]
theorem jmc (cs:List PV) (tot l l' e:Int) (b:Bool) (z:Nat) (xs:List PV) (t:Tm) (v:PV) (h:TmP t v) (t2:Tm) (v2:PV) (h2:TmP t2 v2) (hf:Fr 69 [.ci [.bp 0 0],.sl b z xs,v,v2] cs tot l (.pan (j0c e)) l'):Finds C1 68 [.bp 0 0,.bp 1 0,.bp 2 0,.bp 3 0,.bp 4 0] (stC2 cs tot l (.sl b z xs) v v2 (.box 4 [bv false])) fun r st=>r = .pan (j0c e)∧st=stC2 cs tot l' (.sl b z xs) v v2 (.box 4 [bv false]):=by
 obtain ⟨k1,n1,s1,l1,t1,b1,z1,x1,c1,y1,ys1,-,rfl,-⟩:=h.open
 obtain ⟨k2,n2,s2,l2,t2,b2,z2,x2,c2,y2,ys2,-,rfl,-⟩:=h2.open
 refine j00 Tryz.func68 rfl rfl rfl ?_
 repeat' ((conv=>whnf);first|refine j2K (i:=5) hf rfl rfl rfl rfl rfl rfl rfl ?_)
 all_goals (try (conv=>whnf))
 all_goals exact ⟨rfl,rfl⟩
theorem jm7 (cs:List PV) (tot l l':Int) (b:Bool) (z:Nat) (xs:List PV) (t:Tm) (v:PV) (h:TmP t v) (t2:Tm) (v2:PV) (h2:TmP t2 v2) (q:Bool) (hf:Fr 69 [.ci [.bp 0 0],.sl b z xs,v,v2] cs tot l (.ret [bv q]) l'):Finds C1 68 [.bp 0 0,.bp 1 0,.bp 2 0,.bp 3 0,.bp 4 0] (stC2 cs tot l (.sl b z xs) v v2 (.box 4 [bv false])) fun r st=>r = .ret []∧st=stC2 cs tot l' (.sl b z xs) v v2 (.box 4 [bv q]):=by
 obtain ⟨k1,n1,s1,l1,t1,b1,z1,x1,c1,y1,ys1,-,rfl,-⟩:=h.open
 obtain ⟨k2,n2,s2,l2,t2,b2,z2,x2,c2,y2,ys2,-,rfl,-⟩:=h2.open
 refine j00 Tryz.func68 rfl rfl rfl ?_
 repeat' ((conv=>whnf);first|apply gO|refine j04 rfl rfl ?_|refine j2K (i:=5) hf rfl rfl rfl rfl rfl rfl rfl ?_)
 all_goals (try (conv=>whnf))
 all_goals exact ⟨rfl,rfl⟩
theorem jf3 (cs:List PV) (tot l:Int) (b:Bool) (z:Nat) (xs:List PV) (k1 n1:Int) (s1:List UInt8) (b1:Bool) (z1:Nat) (x1:List PV) (c1:Bool) (y1:Nat) (ys1:List PV) (k2 n2:Int) (s2:List UInt8) (b2:Bool) (z2:Nat) (x2:List PV) (c2:Bool) (y2:Nat) (ys2:List PV) (hfo:Pf C1 98 [.sl b z xs,.sl true 5 [.ag [iv k1,iv n1,sv s1,.sl b1 z1 x1,.sl c1 y1 ys1],.ag [iv k2,iv n2,sv s2,.sl b2 z2 x2,.sl c2 y2 ys2]]] [bv false]):Finds C1 67 (byA2 (.sl b z xs) [.ag [iv k1,iv n1,sv s1,.sl b1 z1 x1,.sl c1 y1 ys1],.ag [iv k2,iv n2,sv s2,.sl b2 z2 x2,.sl c2 y2 ys2]] 68) (stB2 cs tot l (.sl b z xs) (.ag [iv k1,iv n1,sv s1,.sl b1 z1 x1,.sl c1 y1 ys1]) (.ag [iv k2,iv n2,sv s2,.sl b2 z2 x2,.sl c2 y2 ys2]) (.box 4 [bv false])) fun r st=>r = .ret [iv 10]∧st=stB2 cs tot l (.sl b z xs) (.ag [iv k1,iv n1,sv s1,.sl b1 z1 x1,.sl c1 y1 ys1]) (.ag [iv k2,iv n2,sv s2,.sl b2 z2 x2,.sl c2 y2 ys2]) (.box 4 [bv false]):=by
 refine j0r Tryz.func67 rfl rfl rfl ?_
 repeat' ((conv=>whnf);first|refine j01 hfo rfl rfl ?_|refine j0v (j1D 10) rfl rfl ?_)
 all_goals (try (conv=>whnf))
 refine ⟨_,_,_,_,_,_,rfl,rfl,rfl,rfl,?_⟩
 repeat' ((conv=>whnf);first|apply gT|apply gO|refine j04 rfl rfl ?_|refine j01 (j0I _) rfl rfl ?_)
 all_goals (try (conv=>whnf))
 all_goals exact ⟨rfl,rfl⟩
theorem jk4 (cs:List PV) (tot l l' e:Int) (he:¬ e=0) (b:Bool) (z:Nat) (xs:List PV) (k1 n1:Int) (s1:List UInt8) (b1:Bool) (z1:Nat) (x1:List PV) (c1:Bool) (y1:Nat) (ys1:List PV) (k2 n2:Int) (s2:List UInt8) (b2:Bool) (z2:Nat) (x2:List PV) (c2:Bool) (y2:Nat) (ys2:List PV) (hfo:Pf C1 98 [.sl b z xs,.sl true 5 [.ag [iv k1,iv n1,sv s1,.sl b1 z1 x1,.sl c1 y1 ys1],.ag [iv k2,iv n2,sv s2,.sl b2 z2 x2,.sl c2 y2 ys2]]] [bv true])
  (hc:Finds C1 68 [.bp 0 0,.bp 1 0,.bp 2 0,.bp 3 0,.bp 4 0] (stC2 cs tot l (.sl b z xs) (.ag [iv k1,iv n1,sv s1,.sl b1 z1 x1,.sl c1 y1 ys1]) (.ag [iv k2,iv n2,sv s2,.sl b2 z2 x2,.sl c2 y2 ys2]) (.box 4 [bv false])) fun r st=>r = .pan (j0c e)∧st=stC2 cs tot l' (.sl b z xs) (.ag [iv k1,iv n1,sv s1,.sl b1 z1 x1,.sl c1 y1 ys1]) (.ag [iv k2,iv n2,sv s2,.sl b2 z2 x2,.sl c2 y2 ys2]) (.box 4 [bv false])):Finds C1 67 (byA2 (.sl b z xs) [.ag [iv k1,iv n1,sv s1,.sl b1 z1 x1,.sl c1 y1 ys1],.ag [iv k2,iv n2,sv s2,.sl b2 z2 x2,.sl c2 y2 ys2]] 68) (stB2 cs tot l (.sl b z xs) (.ag [iv k1,iv n1,sv s1,.sl b1 z1 x1,.sl c1 y1 ys1]) (.ag [iv k2,iv n2,sv s2,.sl b2 z2 x2,.sl c2 y2 ys2]) (.box 4 [bv false])) fun r st=>r = .ret [iv e]∧st=stB2 cs tot l' (.sl b z xs) (.ag [iv k1,iv n1,sv s1,.sl b1 z1 x1,.sl c1 y1 ys1]) (.ag [iv k2,iv n2,sv s2,.sl b2 z2 x2,.sl c2 y2 ys2]) (.box 4 [bv false]):=by
 refine j0r Tryz.func67 rfl rfl rfl ?_
 repeat' ((conv=>whnf);first|refine j01 hfo rfl rfl ?_|refine j01 (j1d 10) rfl rfl ?_|refine j1G hc rfl rfl rfl rfl rfl rfl rfl ?_)
 all_goals (try (conv=>whnf))
 refine ⟨_,_,_,_,_,_,rfl,rfl,rfl,rfl,?_⟩
 repeat' ((conv=>whnf);first|apply gN|refine gB ?_|apply gO|refine j04 rfl rfl ?_|refine j01 (j0I _) rfl rfl ?_)
 all_goals (try (conv=>whnf))
 all_goals first|exact ⟨rfl,rfl⟩|(exfalso; omega)
theorem jlK (cs:List PV) (tot l l':Int) (q:Bool) (b:Bool) (z:Nat) (xs:List PV) (k1 n1:Int) (s1:List UInt8) (b1:Bool) (z1:Nat) (x1:List PV) (c1:Bool) (y1:Nat) (ys1:List PV) (k2 n2:Int) (s2:List UInt8) (b2:Bool) (z2:Nat) (x2:List PV) (c2:Bool) (y2:Nat) (ys2:List PV) (hfo:Pf C1 98 [.sl b z xs,.sl true 5 [.ag [iv k1,iv n1,sv s1,.sl b1 z1 x1,.sl c1 y1 ys1],.ag [iv k2,iv n2,sv s2,.sl b2 z2 x2,.sl c2 y2 ys2]]] [bv true])
  (hc:Finds C1 68 [.bp 0 0,.bp 1 0,.bp 2 0,.bp 3 0,.bp 4 0] (stC2 cs tot l (.sl b z xs) (.ag [iv k1,iv n1,sv s1,.sl b1 z1 x1,.sl c1 y1 ys1]) (.ag [iv k2,iv n2,sv s2,.sl b2 z2 x2,.sl c2 y2 ys2]) (.box 4 [bv false])) fun r st=>r = .ret []∧st=stC2 cs tot l' (.sl b z xs) (.ag [iv k1,iv n1,sv s1,.sl b1 z1 x1,.sl c1 y1 ys1]) (.ag [iv k2,iv n2,sv s2,.sl b2 z2 x2,.sl c2 y2 ys2]) (.box 4 [bv q])):Finds C1 67 (byA2 (.sl b z xs) [.ag [iv k1,iv n1,sv s1,.sl b1 z1 x1,.sl c1 y1 ys1],.ag [iv k2,iv n2,sv s2,.sl b2 z2 x2,.sl c2 y2 ys2]] 68) (stB2 cs tot l (.sl b z xs) (.ag [iv k1,iv n1,sv s1,.sl b1 z1 x1,.sl c1 y1 ys1]) (.ag [iv k2,iv n2,sv s2,.sl b2 z2 x2,.sl c2 y2 ys2]) (.box 4 [bv false])) fun r st=>r = .ret [iv 0]∧st=stB2 cs tot l' (.sl b z xs) (.ag [iv k1,iv n1,sv s1,.sl b1 z1 x1,.sl c1 y1 ys1]) (.ag [iv k2,iv n2,sv s2,.sl b2 z2 x2,.sl c2 y2 ys2]) (.box 4 [bv q]):=by
 refine j0r Tryz.func67 rfl rfl rfl ?_
 repeat' ((conv=>whnf);first|apply gO|refine j01 hfo rfl rfl ?_|refine j01 (j1d 10) rfl rfl ?_|refine j1G hc rfl rfl rfl rfl rfl rfl rfl ?_)
 all_goals (try (conv=>whnf))
 refine ⟨_,_,_,_,_,_,rfl,rfl,rfl,rfl,?_⟩
 repeat' ((conv=>whnf);first|apply gF|refine j04 rfl rfl ?_|refine j01 j2v rfl rfl ?_)
 all_goals (try (conv=>whnf))
 all_goals exact ⟨rfl,rfl⟩
theorem j7L (cs:List PV) (tot l l':Int) (b:Bool) (z:Nat) (xs:List PV) (k1 n1:Int) (s1:List UInt8) (b1:Bool) (z1:Nat) (x1:List PV) (c1:Bool) (y1:Nat) (ys1:List PV) (k2 n2:Int) (s2:List UInt8) (b2:Bool) (z2:Nat) (x2:List PV) (c2:Bool) (y2:Nat) (ys2:List PV) (e:Int) (q:Bool)
  (hb:Finds C1 67 (byA2 (.sl b z xs) [.ag [iv k1,iv n1,sv s1,.sl b1 z1 x1,.sl c1 y1 ys1],.ag [iv k2,iv n2,sv s2,.sl b2 z2 x2,.sl c2 y2 ys2]] 68) (stB2 cs tot l (.sl b z xs) (.ag [iv k1,iv n1,sv s1,.sl b1 z1 x1,.sl c1 y1 ys1]) (.ag [iv k2,iv n2,sv s2,.sl b2 z2 x2,.sl c2 y2 ys2]) (.box 4 [bv false])) fun r st=>r = .ret [iv e]∧st=stB2 cs tot l' (.sl b z xs) (.ag [iv k1,iv n1,sv s1,.sl b1 z1 x1,.sl c1 y1 ys1]) (.ag [iv k2,iv n2,sv s2,.sl b2 z2 x2,.sl c2 y2 ys2]) (.box 4 [bv q])) :
  Fr 30 [.ci [.bp 0 0],.sl b z xs,.ag [iv k1,iv n1,sv s1,.sl b1 z1 x1,.sl c1 y1 ys1],.ag [iv k2,iv n2,sv s2,.sl b2 z2 x2,.sl c2 y2 ys2]] cs tot l (.ret [bv q,iv e]) l':=by
 refine j00 Tryz.func30 rfl rfl rfl ?_
 repeat' ((conv=>whnf);first|refine j04 rfl rfl ?_|refine j1G hb rfl rfl rfl rfl rfl rfl rfl ?_)
 all_goals (try (conv=>whnf))
 all_goals exact ⟨rfl,rfl⟩
theorem j7j (E:Nv) (cs:List PV) (hE:NvP E (.cp cs)) (tot:Int) (ht:tot ≤ 1048576) (n:Nat) (ctx:List Tm) (b:Bool) (z:Nat) (xs:List PV) (hz:z=5∨(xs=[]∧b=true∧z=0)) (hxs:TmsP ctx xs) (hbd:ctx.length ≤ 1759218604441) (t:Tm) (v:PV) (h:TmP t v) (u:Tm) (w:PV) (hu:TmP u w) (l:Int) (r:Except Int Bool) (l':Int) (h0:0 ≤ l) (h1:l ≤ tot) (hx:jbs E n ctx t u l=some (r,l')):Fr 30 [.ci [.bp 0 0],.sl b z xs,v,w] cs tot l (.ret (errB r)) l':=by
 have hz':z=5∨xs=[]:=hz.imp_right fun q=>q.1
 have hfo:=j4D ctx [t,u] b z xs hz' hxs true 5 [v,w] (.inl rfl) ⟨v,[w],rfl,h,w,[],rfl,hu,rfl⟩ hbd (by simp)
 have hv:=h
 have hw:=hu
 obtain ⟨k1,n1,s1,l1,t1,b1,z1,x1,c1,y1,ys1,-,rfl,-⟩:=h.open
 obtain ⟨k2,n2,s2,l2,t2,b2,z2,x2,c2,y2,ys2,-,rfl,-⟩:=hu.open
 unfold jbs at hx
 rcases j0k hx with ⟨e,q1,rfl⟩|⟨u0,la,q1,q2⟩
 ·obtain ⟨rfl,d2⟩:=j1M q1
  rcases d2 with ⟨-,d2⟩|⟨d1,d2⟩
  ·cases d2
  ·cases d2
   rw [d1] at hfo
   exact j7L cs tot l' l' b z xs _ _ _ _ _ _ _ _ _ _ _ _ _ _ _ _ _ _ 10 _ (jf3 cs tot l' b z xs _ _ _ _ _ _ _ _ _ _ _ _ _ _ _ _ _ _ hfo)
 obtain ⟨rfl,d2⟩:=j1M q1
 rcases d2 with ⟨d1,-⟩|⟨-,d2⟩
 rotate_left
 ·cases d2
 rw [d1] at hfo
 obtain ⟨hc,hsh⟩:=j2U d1 hz hxs
 obtain ⟨i1,i2⟩:=hsh t (by simp)
 obtain ⟨j1,j2⟩:=hsh u (by simp)
 have hf:=S_ok E cs hE tot ht n ctx _ hc t _ hv i1 i2 u _ hw j1 j2 la r l' h0 h1 q2
 cases r with
 |error e =>
  have hf:Fr _ _ _ _ _ (.pan (j0c e)) l':=hf
  have he:¬ e=0:=fun e0=>by
   subst e0
   exact (ja8 n ctx t u).nz _ _ q2
  exact j7L cs tot la l' b z xs _ _ _ _ _ _ _ _ _ _ _ _ _ _ _ _ _ _ e _ (jk4 cs tot la l' e he b z xs _ _ _ _ _ _ _ _ _ _ _ _ _ _ _ _ _ _ hfo (jmc cs tot la l' e b z xs t _ hv u _ hw hf))
 |ok q =>
  have hf:Fr _ _ _ _ _ (.ret [bv q]) l':=hf
  exact j7L cs tot la l' b z xs _ _ _ _ _ _ _ _ _ _ _ _ _ _ _ _ _ _ 0 _ (jlK cs tot la l' q b z xs _ _ _ _ _ _ _ _ _ _ _ _ _ _ _ _ _ _ hfo (jm7 cs tot la l' b z xs t _ hv u _ hw q hf))
end Go.Proofs.YtljnahbgfmflaaaGreatDoor
