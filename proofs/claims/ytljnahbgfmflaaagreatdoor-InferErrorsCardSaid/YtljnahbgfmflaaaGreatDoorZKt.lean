/-
  With more rounds what was answered is answered so; something is answered at some number of rounds. No program in sight.
-/
import Derived.Test.YtljnahbgfmflaaaGreatDoorZKq
import Derived.Test.YtljnahbgfmflaaaGreatDoorZKg
set_option linter.unusedVariables false
set_option maxHeartbeats 1000000
set_option maxRecDepth 100000
set_option linter.unusedSimpArgs false
set_option linter.unnecessarySimpa false
namespace Go.Proofs.YtljnahbgfmflaaaGreatDoor
open Go Go.Am Go.Gw
section
variable {E:Nv} {W W':Tm→M Tm} {T T':List Tm→Tm→M Tm} {S S':List Tm→Tm→Tm→M Bool}
end
def Mono {α:Type} (x:Nat→M α):Prop:=∀ n m,n ≤ m→Le (x n) (x m)
def Tot {α:Type} (x:Nat→M α) (l:Int):Prop:=∃ n r l',x n l=some (r,l')
section
variable {α β:Type} {l:Int}
theorem Tot.const {x:M α} (h:∃ r l',x l=some (r,l')):Tot (fun _=>x) l:=⟨0,h⟩
theorem Tot.bnd {x:Nat→M α} {f:Nat→α→M β} (hx:Tot x l) (mx:Mono x) (hf:∀ n a l1,x n l=some (.ok a,l1)→Tot (fun n=>f n a) l1) (mf:∀ a,Mono fun n=>f n a):Tot (fun n=>Go.Proofs.YtljnahbgfmflaaaGreatDoor.bnd (x n) (f n)) l:=by
 obtain ⟨n,r,l',h⟩:=hx
 cases r with
 |error e=>exact ⟨n,.error e,l',by simp only [Go.Proofs.YtljnahbgfmflaaaGreatDoor.bnd,h]⟩
 |ok a =>
  obtain ⟨m,r2,l2,h2⟩:=hf n a l' h
  have h3:=mx n (max n m) (by omega) _ _ _ h
  have h4:=mf a m (max n m) (by omega) _ _ _ h2
  exact ⟨max n m,r2,l2,by simp only [Go.Proofs.YtljnahbgfmflaaaGreatDoor.bnd,h3,h4]⟩
theorem Tot.pre {x:M α} {f:Nat→α→M β} (hx:∃ r l',x l=some (r,l')) (hf:∀ a l1,x l=some (.ok a,l1)→Tot (fun n=>f n a) l1):Tot (fun n=>Go.Proofs.YtljnahbgfmflaaaGreatDoor.bnd x (f n)) l:=by
 obtain ⟨r,l',h⟩:=hx
 cases r with
 |error e=>exact ⟨0,.error e,l',by simp only [Go.Proofs.YtljnahbgfmflaaaGreatDoor.bnd,h]⟩
 |ok a =>
  obtain ⟨m,r2,l2,h2⟩:=hf a l' h
  exact ⟨m,r2,l2,by simp only [Go.Proofs.YtljnahbgfmflaaaGreatDoor.bnd,h,h2]⟩
theorem Tot.succ {x:Nat→M α} {y:Nat→M α} (e:∀ n,x (n + 1)=y n) (h:Tot y l):Tot x l:=by
 obtain ⟨n,r,l',h⟩:=h
 exact ⟨n + 1,r,l',by rw [e]; exact h⟩
theorem jmi (l:Int):∃ r l',j4p l=some (r,l'):=by
 unfold j4p
 split <;> exact ⟨_,_,rfl⟩
end
theorem j5u {e:En} (h:j2a e=true) (hk:e.kind=6∨e.kind=7):(0 ≤ e.fixd∧e.fixd ≤ 32)∧(0 ≤ e.idx∧e.idx ≤ 32)∧(0 ≤ e.flds∧e.flds ≤ 32):=by
 simp only [j2a,Bool.and_eq_true] at h
 have h1:=h.2.2.2.2.2.1
 unfold j3O j5Y at h1
 rw [if_pos hk] at h1
 simp only [Bool.and_eq_true,decide_eq_true_eq] at h1
 exact ⟨h1.2.2.1,h1.2.2.2.1,h1.2.2.2.2⟩
section
variable {E:Nv}
theorem j3I {t:Tm} (h:j0x t ≤ 2000):sizT t ≤ 2000:=by rw [j1X] at h; omega
def TotU {α:Type} (x:Nat→M α) (q:Int):Prop:=∀ l,0 ≤ l→l ≤ q→Tot x l
theorem TotU.bnd {α β:Type} {q:Int} {x:Nat→M α} {f:Nat→α→M β} (hx:TotU x q) (fx:∀ n,Fine (x n)) (mx:Mono x) (hf:∀ a,TotU (fun n=>f n a) q) (mf:∀ a,Mono fun n=>f n a):TotU (fun n=>Go.Proofs.YtljnahbgfmflaaaGreatDoor.bnd (x n) (f n)) q:=fun l h0 h1 =>
 Tot.bnd (hx l h0 h1) mx (fun n a l1 h=>by
  have:=(fx n).dn l _ l1 h0 h
  exact hf a l1 this.1 (by omega)) mf
theorem TotU.pre {α β:Type} {q:Int} {x:M α} {f:Nat→α→M β} (hx:∀ l,∃ r l',x l=some (r,l')) (fx:Fine x) (hf:∀ a,TotU (fun n=>f n a) q):TotU (fun n=>Go.Proofs.YtljnahbgfmflaaaGreatDoor.bnd x (f n)) q:=fun l h0 h1 =>
 Tot.pre (hx l) fun a l1 h=>by
  have:=fx.dn l _ l1 h0 h
  exact hf a l1 this.1 (by omega)
theorem TotU.tick {β:Type} {q:Int} {f:Nat→M β} (hf:TotU f (q - 1)):TotU (fun n=>Go.Proofs.YtljnahbgfmflaaaGreatDoor.bnd j4p fun _=>f n) q:=fun l h0 h1 =>
 Tot.pre (jmi l) fun a l1 h=>by
  rcases j0Z h with ⟨a1,a2,a3⟩|⟨a1,a2,a3⟩
  ·exact hf l1 (by omega) (by omega)
  ·cases a3
end
open Go Go.Am Go.Gw
def runB (cs:List PV) (tot l:Int):SO:=.box 84 [.cp cs,iv (tot - l),iv l]
def Fr (f:FuncId) (args:List PV) (cs:List PV) (tot l:Int) (r:AEnd) (l':Int):Prop:=Finds C1 f args [runB cs tot l] fun r' st'=>r'=r∧st'=[runB cs tot l']
theorem j02 {f:FuncId} {args:List PV} {cs:List PV} {tot l l':Int} {r:AEnd} {st:Sto} {K:AEnd→Sto→Prop} (h:Fr f args cs tot l r l') (hw:handed C1 f args st=some (args,st)) (hp:args.all (pur 8)=false) (hπ:(close st 64 (args.flatMap (ids 8)) []).reverse=[0]) (hi:args.all (j0g (fun i=>[0].elem i) 8)=true)
  (hf:fetch (fun i=>place i 0 [0]) (fun i=>[0].elem i) st [0]=some [runB cs tot l]) (ha:args.map (j1a (fun i=>place i 0 [0]) 8)=args) (hb:jcY (fun j=>Nat.blt j 1) r=true) (k:K (j4V (back [0] st.length) r) (st.set 0 (runB cs tot l'))):VCall C1 f args st K:=by
 refine j0A hw hp hπ hi hf ha (Finds.mono h ?_)
 rintro _ _ ⟨rfl,rfl⟩
 refine j1K ?_ ?_
 ·simp only [List.length_cons,List.length_nil,Nat.zero_add,hb,Bool.true_and]
  rfl
 ·have e:(st.set 0 (runB cs tot l')) ++ []=st.set 0 (runB cs tot l'):=List.append_nil _
  rw [← e] at k
  exact k
theorem j0v {f:FuncId} {args:List PV} {st:Sto} {v:PV} {K:AEnd→Sto→Prop} (h:Finds C1 f args [] fun r _=>r = .pan v) (hp:args.all (pur 8)=true) (hv:pur 8 v=true) (k:K (.pan v) st):VCall C1 f args st K :=
 jb4 hp (Finds.mono h fun r _ e=>by subst e; exact ⟨hv,k⟩)
theorem j0Y {f:FuncId} {args:List PV} {v:PV} {K:AEnd→Sto→Prop} (h:Finds C1 f args [] fun r _=>r = .pan v) (k:∀ st,K (.pan v) st):Finds C1 f args [] K:=Finds.mono h fun r st e=>by subst e; exact k st
def j1v (e:Int):PV:=.ifc 267 (.ag [iv e])
theorem j0R (e:Int):Pf C1 217 [bv true,iv e] []:=by
 refine j00 Tryz.func217 rfl rfl rfl ?_
 repeat' ((conv=>whnf);first|apply gF|refine j04 rfl ?_)
 all_goals (try (conv=>whnf))
 all_goals rfl
theorem j3u (e:Int):Finds C1 217 [bv false,iv e] [] fun r _=>r = .pan (j1v e):=by
 refine j00 Tryz.func217 rfl rfl rfl ?_
 repeat' ((conv=>whnf);first|refine VIf.tt rfl ?_)
 all_goals (try (conv=>whnf))
 all_goals rfl
theorem jci (cs:List PV) (tot l:Int) (h1:1 ≤ l) (h2:l ≤ tot) (h3:tot ≤ 1048576):Fr 89 [.bp 0 0,iv 1] cs tot l (.ret [bv true]) (l - 1):=by
 refine j00 Tryz.func89 rfl rfl rfl ?_
 repeat' ((conv=>whnf);first|apply gF|apply gE<;>intro h|apply gO|refine gV ?_|refine j03 rfl rfl ?_)
 all_goals (try (conv=>whnf))
 all_goals first|(exfalso; omega)|skip
 refine ⟨rfl,?_⟩
 rw [show tot - l + 1=tot - (l - 1) by omega]
 rfl
theorem jcJ (cs:List PV) (tot l:Int) (h1:l < 1):Fr 89 [.bp 0 0,iv 1] cs tot l (.ret [bv false]) l:=by
 refine j00 Tryz.func89 rfl rfl rfl ?_
 repeat' ((conv=>whnf);first|apply gF|refine gA ?_|refine j03 rfl rfl ?_)
 all_goals (try (conv=>whnf))
 all_goals first|(exfalso; omega)|exact ⟨rfl,rfl⟩
theorem jim (cs:List PV) (tot l:Int):Fr 111 [.bp 0 0] cs tot l (.ret [.cp cs]) l:=by
 refine j00 Tryz.func111 rfl rfl rfl ?_
 repeat' ((conv=>whnf);first|refine j03 rfl rfl ?_)
 all_goals (try (conv=>whnf))
 all_goals exact ⟨rfl,rfl⟩
theorem jlL (t:Tm) (v:PV) (h:TmP t v) (hn:j0x t ≤ 2000):Pf C1 251 [v] [v]:=by
 have h1:=j1A t v h
 have h2:Pf C1 217 [bv (decide (j0x t ≤ 2000)),iv 15] []:=by
  rw [decide_eq_true hn]
  exact j0R 15
 obtain ⟨k1,n1,s1,l1,t1,b1,z1,x1,c1,y1,ys1,rfl,rfl,-⟩:=h.open
 refine j00 Tryz.func251 rfl rfl rfl ?_
 repeat' ((conv=>whnf);first|apply gO|refine j04 rfl ?_|refine j01 h1 rfl rfl ?_|refine j01 h2 rfl rfl ?_)
 all_goals (try (conv=>whnf))
 all_goals rfl
theorem jjZ (t:Tm) (v:PV) (h:TmP t v) (hn:¬ j0x t ≤ 2000):Finds C1 251 [v] [] fun r _=>r = .pan (j1v 15):=by
 have h1:=j1A t v h
 have h2:Finds C1 217 [bv (decide (j0x t ≤ 2000)),iv 15] [] fun r _=>r = .pan (j1v 15):=by
  rw [decide_eq_false hn]
  exact j3u 15
 obtain ⟨k1,n1,s1,l1,t1,b1,z1,x1,c1,y1,ys1,rfl,rfl,-⟩:=h.open
 refine j00 Tryz.func251 rfl rfl rfl ?_
 repeat' ((conv=>whnf);first|refine j01 h1 rfl rfl ?_|refine j0v h2 rfl rfl ?_)
 all_goals (try (conv=>whnf))
 all_goals rfl
def OutP (o:Option Tm) (w:PV):Prop:=(∃ k n s b z xs c y ys,w = .ag [iv k,iv n,sv s,.sl b z xs,.sl c y ys])∧∀ x,o=some x→TmP x w
theorem TmsP.drop:∀ {ts:List Tm} {xs:List PV} (i:Nat),TmsP ts xs→TmsP (ts.drop i) (xs.drop i)
 |ts,xs,0,h=>h
 |[],xs,i + 1,h=>by
  simp only [TmsP] at h
  subst h
  simp [TmsP]
 |a :: r,xs,i + 1,h=>by
  simp only [TmsP] at h
  obtain ⟨v,xs',rfl,h1,h2⟩:=h
  exact TmsP.drop i h2
theorem getD_at {ts:List Tm} {i:Nat} (h:i < ts.length):ts[i]? = some (ts.getD i tz):=by
 rw [List.getD_eq_getElem?_getD,List.getElem?_eq_getElem h]
 rfl
theorem j4r (o:Option Tm):putV o=[encT (o.getD tz),bv o.isSome]:=by cases o <;> rfl
theorem j5Q {o:Option Tm} (h:∀ x,o=some x→TmW x):TmW (o.getD tz):=by
 cases o with
 |none=>exact jlT
 |some x=>exact h x rfl
theorem jc1 {o:Option Tm} {ts:List Tm} (h:∀ x,o=some x→TmW x) (hts:∀ a ∈ ts,TmW a):OutP (appO o ts) (appV (encT (o.getD tz)) ts):=by
 obtain ⟨k2,n2,s2,b2,z2,x2,c2,y2,ys2,he2⟩:=j0a (o.getD tz)
 refine ⟨?_,fun x hx=>?_⟩
 ·rw [he2]
  exact j6n _ _ _ _ _ _ _ _ _ _
 ·cases o with
  |none=>cases hx
  |some y =>
   cases hx
   exact jeW (h y rfl) hts
theorem jlF (h:Tm) (hv:PV) (hh:TmP h hv) (hs:shT h=true) (hk:h.kind=5) (args:List Tm) (b:Bool) (z:Nat) (xs:List PV) (hz:z=5∨xs=[]) (hxs:TmsP args xs) (hpos:¬ args.length=0) (hbd:args.length ≤ 2000) :
  ∃ w,OutP (appO (InstF (h.arg 1) [args.getD 0 tz]) (args.drop 1)) w∧Pf C1 294 [.cp hv.cells,.cp [.sl b z xs]] [w,bv (InstF (h.arg 1) [args.getD 0 tz]).isSome]:=by
 obtain ⟨k,n,s,ls,ts⟩:=h
 obtain ⟨a1,a2,a3,a4,a5,a6⟩:=j0q hs
 simp only [Tm.kind] at hk
 subst hk
 have hlen2:ts.length=2:=by
  have:j0T 5=2:=rfl
  omega
 obtain ⟨_,_,_,_,_,hb,hz',hxs',hc,hy,hys,⟨rfl,rfl,rfl,rfl,rfl⟩,rfl,-,-,-,-,hyz,htys,-,-,-⟩:=hh.open
 obtain ⟨v1,hv1,h1⟩:=htys.at (getD_at (ts:=ts) (i:=1) (by omega))
 obtain ⟨v0,hv0,h0⟩:=hxs.at (getD_at (ts:=args) (i:=0) (by omega))
 have hI:=j5r _ v1 h1 [args.getD 0 tz] true 5 [v0] (.inl rfl) ⟨v0,[],rfl,h0,rfl⟩ (by simp)
 have hd:TmsP (args.drop 1) ((xs.take xs.length).drop 1):=by
  rw [List.take_length]
  exact hxs.drop 1
 have hlen:=hxs.len
 have e:(Tm.mk 5 n s ls ts).arg 1=ts.getD 1 tz:=rfl
 rw [e]
 have hw:∀ x,InstF (ts.getD 1 tz) [args.getD 0 tz]=some x→TmW x:=fun x hx=>j7S (by simpa using h0.w) h1.w hx
 have ho:=jc1 hw fun a ha=>hd.ws a ha
 have ha:=j7a _ _ (j5Q hw) (args.drop 1) (b && Nat.beq xs.length xs.length) z ((xs.take xs.length).drop 1) (hz.imp id fun e=>by rw [e]; rfl) hd (by simp; omega)
 rw [j4r] at hI
 generalize InstF (ts.getD 1 tz) [args.getD 0 tz]=o at *
 obtain ⟨k2,n2,s2,b2,z2,x2,c2,y2,ys2,he2⟩:=j0a (o.getD tz)
 rw [he2] at hI ha ho
 obtain ⟨⟨k3,n3,s3,b3,z3,x3,c3,y3,ys3,he3⟩,ho2⟩:=ho
 rw [he3] at ha ho2
 refine ⟨_,⟨⟨k3,n3,s3,b3,z3,x3,c3,y3,ys3,rfl⟩,ho2⟩,?_⟩
 obtain ⟨k1,n1,s1,l1,t1,b1,z1,x1,c1,y1,ys1,-,rfl,-⟩:=h1.open
 obtain ⟨k4,n4,s4,l4,t4,b4,z4,x4,c4,y4,ys4,-,rfl,-⟩:=h0.open
 have hle:(xs.length.ble xs.length && Nat.ble 1 xs.length)=true:=by simp only [Nat.ble_eq,Bool.and_eq_true]; omega
 refine j00 Tryz.func294 rfl rfl rfl ?_
 repeat' ((conv=>whnf);first|apply gO|apply gP|apply gQ|refine j04 rfl ?_|refine VIdx.mk _ hv1 ?_|refine VIdx.mk _ hv0 ?_|refine VOk.mk (j07 rfl hyz) ?_|refine VOk.mk (j07 rfl hz) ?_|refine j05 hI (fun _=>?_)|refine VOk.mk hle ?_|refine j05 ha (fun _=>?_)|apply gK)
 all_goals (try (conv=>whnf))
 all_goals rfl
end Go.Proofs.YtljnahbgfmflaaaGreatDoor
