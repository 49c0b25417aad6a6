/-
  Declarations as plain data; what a declaration declares (deps.Names). No statement of the seat.
-/
import Derived.Test.YtehhihdahalfeaaGreatDoorZWd
import Derived.Test.YtehhihdahalfeaaGreatDoorZTc
set_option linter.unusedVariables false
set_option linter.unusedSimpArgs false
set_option linter.unnecessarySimpa false
namespace Go.Proofs.YtehhihdahalfeaaGreatDoor
open Go Go.Am Go.Gw
structure Dc where
  k:Int
  p:Int
  nm:List UInt8
  ty:Tm
  vl:Tm
  fx:Int
  cs:List (List UInt8 × Tm)
/-- a declaration, as it lies -/
def dcCells (k p:Int) (nm:List UInt8) (ty vl:List PV) (fx:Int) (cs:PV):List PV:=iv k :: iv p :: sv nm :: (ty ++ (vl ++ [iv fx,cs]))
inductive DcP:Dc→PV→Prop where
  |mk (k p:Int) (nm:List UInt8) (ty vl:Tm) (fx:Int) (cs:List (List UInt8 × Tm)) (a1 a2:Int) (a3:List UInt8) (a4:Bool) (a5:Nat) (a6:List PV) (a7:Bool) (a8:Nat) (a9:List PV) (b1 b2:Int) (b3:List UInt8) (b4:Bool) (b5:Nat) (b6:List PV) (b7:Bool) (b8:Nat) (b9:List PV) (cb:Bool) (cz:Nat) (cx:List PV)
      (hty:TmP ty (.ag [iv a1,iv a2,sv a3,.sl a4 a5 a6,.sl a7 a8 a9])) (hvl:TmP vl (.ag [iv b1,iv b2,sv b3,.sl b4 b5 b6,.sl b7 b8 b9])) (hz:cz=6∨cx=[]) (hcs:LosP cs cx) (hlen:cs.length ≤ 1466015503701) (hnm:nm.length ≤ 140737488355328) (hk:i64 k) (hp:i64 p) (hfx:i64 fx) :
      DcP ⟨k,p,nm,ty,vl,fx,cs⟩ (.ag [iv k,iv p,sv nm,iv a1,iv a2,sv a3,.sl a4 a5 a6,.sl a7 a8 a9,iv b1,iv b2,sv b3,.sl b4 b5 b6,.sl b7 b8 b9,iv fx,.sl cb cz cx])
/-- the recursor's name -/
def recF (nm:List UInt8):List UInt8:=if (nameF nm && nameF (nm ++ [46,114,101,99]))=true then nm ++ [46,114,101,99] else []
def namesD (d:Dc):List (List UInt8):=if d.k=5 then d.nm :: (d.cs.map (·.1) ++ [recF d.nm]) else [d.nm]
def wrongNP:PV:=.fn 181 [] []
set_option maxRecDepth 100000 in
theorem join1_can (s:List UInt8) (hs:s.length ≤ 140737488355328):Pf C1 181 [sv s] [bv (!nameF s)]:=by
  have h:=nameRight_can s hs
  refine run_intro Tryz.func181 rfl rfl rfl ?_
  repeat' ((conv=>whnf);first|refine gT ?_|refine gF ?_|refine VIf.not ?_|refine gA ?_|refine gB ?_|refine VIf.dec (fun h=>?_) (fun h=>?_)|refine gC ?_|refine gD ?_|refine VIf.mk (fun h=>?_) (fun h=>?_)|refine gO ?_|refine gP ?_|refine VNat.mk _ rfl ?_|refine gV ?_|refine vret_pf rfl ?_|refine vret_take rfl rfl ?_|refine vcall_pf h rfl rfl ?_|refine gK ?_)
  all_goals (try (conv=>whnf))
  all_goals rfl
set_option maxRecDepth 100000 in
theorem idxJ_can (a b:List UInt8) (ha:a.length ≤ 140737488355328) (hb:b.length ≤ 140737488355328):∃ q:Int,(decide (0 ≤ q)=(!nameF a || !nameF b))∧Pf C1 128 [.sl true 1 [sv a,sv b],wrongNP] [iv q]:=by
  have h1:=join1_can a ha
  have h2:=join1_can b hb
  suffices key:Finds C1 128 [.sl true 1 [sv a,sv b],wrongNP] [] fun r _=>∃ q:Int,(decide (0 ≤ q)=(!nameF a || !nameF b))∧r = .ret [iv q] by
    obtain ⟨r,st',⟨q,hq,rfl⟩,N,hN⟩:=key
    exact ⟨q,hq,_,st',rfl,N,hN⟩
  refine run_intro Tryz.func128 rfl rfl rfl ?_
  repeat' ((conv=>whnf);first|refine gT ?_|refine gF ?_|refine VIf.not ?_|refine gA ?_|refine gB ?_|refine VIf.dec (fun h=>?_) (fun h=>?_)|refine gC ?_|refine gD ?_|refine VIf.mk (fun h=>?_) (fun h=>?_)|refine gO ?_|refine gP ?_|refine VNat.mk _ rfl ?_|refine gV ?_|refine vret_pf rfl ?_|refine vret_take rfl rfl ?_|refine gK ?_)
  all_goals (try (conv=>whnf))
  refine loop_over (G:=Nat) (fun i=>[(8,iv i)]) (fun _=>_) (fun i=>i ≤ 2∧(1 ≤ i→nameF a=true)∧(2 ≤ i→nameF b=true)) (fun i=>2 - i) 0 ⟨by omega,by omega,by omega⟩ rfl rfl ?_
  rintro i ⟨hi,hia,hib⟩
  match i,hi with
  |0,_ =>
    repeat' ((conv=>whnf);first|refine gT ?_|refine gF ?_|refine VIf.not ?_|refine gA ?_|refine gB ?_|refine VIf.dec (fun h=>?_) (fun h=>?_)|refine gC ?_|refine gD ?_|refine VIf.mk (fun h=>?_) (fun h=>?_)|refine gO ?_|refine gP ?_|refine VNat.mk _ rfl ?_|refine gV ?_|refine vret_pf rfl ?_|refine vret_take rfl rfl ?_|refine VIdx.mk (sv a) rfl ?_|refine vcall_pf h1 rfl rfl ?_|refine gK ?_)
    all_goals (try (conv=>whnf))
    · exact VAgain.mk _ rfl _ (gc_take rfl rfl rfl) ⟨1,⟨by omega,fun _=>by simp_all,by omega⟩,by omega,rfl⟩
    · exact ⟨0,by simp_all,rfl⟩
  |1,_ =>
    repeat' ((conv=>whnf);first|refine gT ?_|refine gF ?_|refine VIf.not ?_|refine gA ?_|refine gB ?_|refine VIf.dec (fun h=>?_) (fun h=>?_)|refine gC ?_|refine gD ?_|refine VIf.mk (fun h=>?_) (fun h=>?_)|refine gO ?_|refine gP ?_|refine VNat.mk _ rfl ?_|refine gV ?_|refine vret_pf rfl ?_|refine vret_take rfl rfl ?_|refine VIdx.mk (sv b) rfl ?_|refine vcall_pf h2 rfl rfl ?_|refine gK ?_)
    all_goals (try (conv=>whnf))
    · exact VAgain.mk _ rfl _ (gc_take rfl rfl rfl) ⟨2,⟨by omega,fun _=>hia (by omega),fun _=>by simp_all⟩,by omega,rfl⟩
    · exact ⟨1,by simp_all,rfl⟩
  |2,_ =>
    repeat' ((conv=>whnf);first|refine gT ?_|refine gF ?_|refine VIf.not ?_|refine gA ?_|refine gB ?_|refine VIf.dec (fun h=>?_) (fun h=>?_)|refine gC ?_|refine gD ?_|refine VIf.mk (fun h=>?_) (fun h=>?_)|refine gO ?_|refine gP ?_|refine VNat.mk _ rfl ?_|refine gV ?_|refine vret_pf rfl ?_|refine vret_take rfl rfl ?_|refine gK ?_)
    all_goals (try (conv=>whnf))
    exact ⟨-1,by simp [hia (by omega),hib (by omega)],rfl⟩
  |n + 3,h=>exact absurd h (by omega)
theorem nameF_len {s:List UInt8} (h:nameF s=true):s.length ≤ 40:=by
  unfold nameF at h
  rw [Bool.and_eq_true] at h
  exact of_decide_eq_true h.1
set_option maxRecDepth 100000 in
theorem joinRec_can (nm:List UInt8) (hnm:nm.length ≤ 140737488355328):∃ ok,Pf C1 143 [.sl true 1 [sv nm,sv [114,101,99]]] [sv (recF nm),bv ok]:=by
  obtain ⟨q,hq,hi⟩:=idxJ_can nm [114,101,99] hnm (by simp)
  have hrec:nameF [114,101,99]=true:=by kernel_rfl
  rw [hrec,Bool.not_true,Bool.or_false] at hq
  have hc:Pf C1 82 [.sl true 1 [sv nm,sv [114,101,99]],wrongNP] [bv (!nameF nm)]:=by
    refine run_intro Tryz.func82 rfl rfl rfl ?_
    repeat' ((conv=>whnf);first|refine gT ?_|refine gF ?_|refine VIf.not ?_|refine gA ?_|refine gB ?_|refine VIf.dec (fun h=>?_) (fun h=>?_)|refine gC ?_|refine gD ?_|refine VIf.mk (fun h=>?_) (fun h=>?_)|refine gO ?_|refine gP ?_|refine VNat.mk _ rfl ?_|refine gV ?_|refine vret_pf rfl ?_|refine vret_take rfl rfl ?_|refine vcall_pf hi rfl rfl ?_|refine gK ?_)
    all_goals (try (conv=>whnf))
    rw [hq]
  suffices key:Finds C1 143 [.sl true 1 [sv nm,sv [114,101,99]]] [] fun r _=>∃ ok,r = .ret [sv (recF nm),bv ok] by
    obtain ⟨r,st',⟨q,rfl⟩,N,hN⟩:=key
    exact ⟨q,_,st',rfl,N,hN⟩
  have hlen:=fun h=>nameF_len (s:=nm) h
  have hj:=fun (h:nm.length ≤ 40)=>join_can (b:=true) (z:=1) (xs:=[nm,[114,101,99]]) (sep:=[46]) (by simp) (by simp [Lib.join]; omega)
  have hr:=fun (h:nm.length ≤ 40)=>nameRight_can (nm ++ [46,114,101,99]) (by simp; omega)
  refine run_intro Tryz.func143 rfl rfl rfl ?_
  have e:Lib.join [nm,[114,101,99]] [46]=nm ++ [46,114,101,99]:=by simp [Lib.join]
  rw [e] at hj
  repeat' ((conv=>whnf);first|refine gT ?_|refine gF ?_|refine VIf.not ?_|refine gA ?_|refine gB ?_|refine VIf.dec (fun h=>?_) (fun h=>?_)|refine gC ?_|refine gD ?_|refine VIf.mk (fun h=>?_) (fun h=>?_)|refine gO ?_|refine gP ?_|refine VNat.mk _ rfl ?_|refine gV ?_|refine vret_pf rfl ?_|refine vret_take rfl rfl ?_|refine vcall_pf hc rfl rfl ?_|refine vcall_pf (hj (hlen (by simp_all))) rfl rfl ?_|refine vcall_pf (hr (hlen (by simp_all))) rfl rfl ?_|refine gK ?_)
  all_goals (try (conv=>whnf))
  · exact ⟨_,by rw [recF,if_pos (by simp_all)]; rfl⟩
  · exact ⟨_,by rw [recF,if_neg (by simp_all)]⟩
  · exact ⟨_,by rw [recF,if_neg (by simp_all)]⟩
def nmS (c:SO) (nm:List UInt8) (cs:List (List UInt8 × Tm)):Nat→Sto
  |0=>[c]
  |i + 1=>[c,.dead,.row false 9 1 (sv nm :: svs ((cs.take (i + 1)).map (·.1)))]
def nmV (nm:List UInt8):Nat→PV
  |0=>.sl true 1 [sv nm]
  |i + 1=>.ms 2 (i + 2)
set_option maxHeartbeats 2000000 in
set_option maxRecDepth 100000 in
theorem namesD_can (d:Dc) (v:PV) (h:DcP d v) (hcs:d.cs.length ≤ 1000000):∃ b,Pf C1 99 [v] [.sl b 1 (svs (namesD d))]:=by
  suffices key:Finds C1 99 [v] [] fun r _=>∃ b,r = .ret [.sl b 1 (svs (namesD d))] by
    obtain ⟨r,st',⟨q,rfl⟩,N,hN⟩:=key
    exact ⟨q,_,st',rfl,N,hN⟩
  obtain ⟨k,p,nm,ty,vl,fx,cs,a1,a2,a3,a4,a5,a6,a7,a8,a9,b1,b2,b3,b4,b5,b6,b7,b8,b9,cb,cz,cx,hty,hvl,hz,hxs,hlen,hnm,hk,hp,hfx⟩:=h
  obtain ⟨ok,hj⟩:=joinRec_can nm hnm
  have hcx:=hxs.len
  dsimp only at hcs
  refine run_intro Tryz.func99 rfl rfl rfl ?_
  repeat' ((conv=>whnf);first|refine gT ?_|refine gF ?_|refine VIf.not ?_|refine gA ?_|refine gB ?_|refine VIf.dec (fun h=>?_) (fun h=>?_)|refine gC ?_|refine gD ?_|refine VIf.mk (fun h=>?_) (fun h=>?_)|refine gO ?_|refine gP ?_|refine VNat.mk _ rfl ?_|refine gV ?_|refine vret_pf rfl ?_|refine vret_take rfl rfl ?_|refine gK ?_)
  all_goals (try (conv=>whnf))
  · refine loop_over (G:=Nat) (fun i=>[(18,iv i),(3,nmV nm i)]) (fun i=>nmS (.box 46 [iv k,iv p,sv nm,iv a1,iv a2,sv a3,.sl a4 a5 a6,.sl a7 a8 a9,iv b1,iv b2,sv b3,.sl b4 b5 b6,.sl b7 b8 b9,iv fx,.sl cb cz cx]) nm cs i) (fun i=>i ≤ cs.length) (fun i=>cs.length - i) 0 (by omega) rfl rfl ?_
    intro i hi
    have hnext:i < cs.length→∃ c x cc,cs[i]? = some (c,x)∧cx[i]? = some (.ag (sv c :: cc))∧∃ q1 q2 q3 q4 q5 q6 q7 q8 q9,cc=[iv q1,iv q2,sv q3,.sl q4 q5 q6,.sl q7 q8 q9]:=fun hi=>by
      obtain ⟨c,hc⟩:∃ c,cs[i]? = some c:=⟨_,List.getElem?_eq_getElem hi⟩
      obtain ⟨v,hv,hl⟩:=hxs.at hc
      obtain ⟨s,q1,q2,q3,q4,q5,q6,q7,q8,q9,t,rfl,rfl,-⟩:=hl.open
      exact ⟨s,t,_,hc,hv,q1,q2,q3,q4,q5,q6,q7,q8,q9,rfl⟩
    have hall:¬ i < cs.length→namesD ⟨k,p,nm,ty,vl,fx,cs⟩=nm :: ((cs.take i).map (·.1) ++ [recF nm]):=fun hi=>by
      rw [namesD,if_pos (by assumption),List.take_of_length_le (by omega)]
    cases i with
    |zero =>
      simp only [nmS,nmV]
      repeat' ((conv=>whnf);first|refine gT ?_|refine gF ?_|refine VIf.not ?_|refine gA ?_|refine gB ?_|refine VIf.dec (fun h=>?_) (fun h=>?_)|refine gC ?_|refine gD ?_|refine VIf.mk (fun h=>?_) (fun h=>?_)|refine gO ?_|refine gP ?_|refine VNat.mk _ rfl ?_|refine gV ?_|refine vret_pf rfl ?_|refine vret_take rfl rfl ?_|refine vcall_pf hj rfl rfl ?_|refine gK ?_)
      all_goals (try (conv=>whnf))
      · obtain ⟨c,x,cc,hc,hv,q1,q2,q3,q4,q5,q6,q7,q8,q9,rfl⟩:=hnext (by omega)
        repeat' ((conv=>whnf);first|refine gT ?_|refine gF ?_|refine VIf.not ?_|refine gA ?_|refine gB ?_|refine VIf.dec (fun h=>?_) (fun h=>?_)|refine gC ?_|refine gD ?_|refine VIf.mk (fun h=>?_) (fun h=>?_)|refine gO ?_|refine gP ?_|refine VNat.mk _ rfl ?_|refine gV ?_|refine vret_pf rfl ?_|refine vret_take rfl rfl ?_|refine VIdx.mk _ hv ?_|refine VOk.mk (szOk_of rfl hz) ?_|refine gK ?_)
        all_goals (try (conv=>whnf))
        have e:(cs.take 1).map (·.1)=[c]:=by
          cases cs with
          |nil=>simp at hc
          |cons d r=>simp at hc; subst hc; rfl
        refine VAgain.mk _ rfl _ (gc_sh (.cons (sh_box rfl rfl) (.cons (sh_box rfl rfl) (.cons (sh_row rfl) .nil))) (.cons (sh_box rfl rfl) (.cons sh_dead (.cons (sh_row rfl) .nil))) rfl rfl rfl rfl rfl) ⟨1,by omega,by omega,?_⟩
        dsimp only [nmS,nmV]
        rw [e]
        rfl
      · refine vret_pub rfl (mapS_cons (pubV_row rfl (by simp) rfl) mapS_nil) rfl ?_
        exact ⟨_,by rw [hall (by omega)]; rfl⟩
    |succ i =>
      simp only [nmS,nmV]
      have hp8:(sv nm :: svs ((cs.take (i + 1)).map (·.1))).all (pur 8)=true:=by
        rw [show sv nm :: svs ((cs.take (i + 1)).map (·.1))=svs (nm :: (cs.take (i + 1)).map (·.1)) from rfl]
        exact svs_pure _
      have hl8:(sv nm :: svs ((cs.take (i + 1)).map (·.1))).length=i + 2:=by simp; omega
      repeat' ((conv=>whnf);first|refine gT ?_|refine gF ?_|refine VIf.not ?_|refine gA ?_|refine gB ?_|refine VIf.dec (fun h=>?_) (fun h=>?_)|refine gC ?_|refine gD ?_|refine VIf.mk (fun h=>?_) (fun h=>?_)|refine gO ?_|refine gP ?_|refine VNat.mk _ rfl ?_|refine gV ?_|refine vret_pf rfl ?_|refine vret_take rfl rfl ?_|refine vcall_pf hj rfl rfl ?_|refine VOk.mk (grow_ok (w:=16) (r:=140737488355328) hl8 rfl rfl rfl rfl (by simp only [List.length_cons,List.length_nil]; omega) (by simp only [List.length_cons,List.length_nil]; omega)) ?_|refine gK ?_)
      all_goals (try (conv=>whnf))
      · obtain ⟨c,x,cc,hc,hv,q1,q2,q3,q4,q5,q6,q7,q8,q9,rfl⟩:=hnext (by omega)
        repeat' ((conv=>whnf);first|refine gT ?_|refine gF ?_|refine VIf.not ?_|refine gA ?_|refine gB ?_|refine VIf.dec (fun h=>?_) (fun h=>?_)|refine gC ?_|refine gD ?_|refine VIf.mk (fun h=>?_) (fun h=>?_)|refine gO ?_|refine gP ?_|refine VNat.mk _ rfl ?_|refine gV ?_|refine vret_pf rfl ?_|refine vret_take rfl rfl ?_|refine VIdx.mk _ hv ?_|refine VOk.mk (szOk_of rfl hz) ?_|refine VOk.mk (grow_ok (w:=16) (r:=140737488355328) hl8 rfl rfl rfl rfl (by simp only [List.length_cons,List.length_nil]; omega) (by simp only [List.length_cons,List.length_nil]; omega)) ?_|refine gK ?_)
        all_goals (try (conv=>whnf))
        have e:svs ((cs.take (i + 1 + 1)).map (·.1))=svs ((cs.take (i + 1)).map (·.1)) ++ [sv c]:=by
          rw [take_snoc' hc,List.map_append,svs,List.map_append]
          rfl
        have hp8:(sv nm :: svs ((cs.take (i + 1)).map (·.1)) ++ [sv c]).all (pur 8)=true:=by
          rw [List.cons_append,← e,show sv nm :: svs ((cs.take (i + 1 + 1)).map (·.1))=svs (nm :: (cs.take (i + 1 + 1)).map (·.1)) from rfl]
          exact svs_pure _
        refine VAgain.mk _ rfl _ (gc_sh (.cons (sh_box rfl rfl) (.cons sh_dead (.cons (sh_row hp8) (.cons (sh_box rfl rfl) .nil)))) (.cons (sh_box rfl rfl) (.cons sh_dead (.cons (sh_row hp8) .nil))) rfl rfl rfl rfl rfl) ⟨i + 1 + 1,by omega,by omega,?_⟩
        dsimp only [nmS,nmV]
        rw [e]
        rfl
      · have e:sv nm :: svs ((cs.take (i + 1)).map (·.1)) ++ [sv (recF nm)]=svs (nm :: ((cs.take (i + 1)).map (·.1) ++ [recF nm])):=by simp [svs]
        refine vret_pub rfl (mapS_cons (pubV_row rfl (by simp; omega) (by rw [e]; exact svs_pure6 _)) mapS_nil) rfl ?_
        exact ⟨_,by rw [hall (by omega),← e]⟩
  · exact ⟨_,by rw [namesD,if_neg (by assumption)]; rfl⟩
end Go.Proofs.YtehhihdahalfeaaGreatDoor
namespace Go.Proofs.YtehhihdahalfeaaGreatDoor
open Go Go.Am Go.Gw
theorem tz_P:TmP tz (.ag zTm):=tmW_tz
set_option maxRecDepth 100000 in
theorem empty_can (t:Tm) (v:PV) (h:TmP t v):Pf C1 140 [v] [bv (eqTm t tz)]:=by
  have hs:=Same_can t v h tz _ tz_P
  obtain ⟨k0,nn0,s0,ls0,ts0,b0,z0,xs0,c0,y0,ys0,rfl,rfl,-⟩:=h.open
  refine run_intro Tryz.func140 rfl rfl rfl ?_
  repeat' ((conv=>whnf);first|refine gT ?_|refine gF ?_|refine VIf.not ?_|refine gA ?_|refine gB ?_|refine VIf.dec (fun h=>?_) (fun h=>?_)|refine gC ?_|refine gD ?_|refine VIf.mk (fun h=>?_) (fun h=>?_)|refine gO ?_|refine gP ?_|refine VNat.mk _ rfl ?_|refine gV ?_|refine vret_pf rfl ?_|refine vret_take rfl rfl ?_|refine vcall_pf hs rfl rfl ?_|refine gK ?_)
  all_goals (try (conv=>whnf))
  all_goals rfl
set_option maxRecDepth 100000 in
theorem valued_can (k:Int):Pf C1 142 [iv k] [bv (decide (2 ≤ k) && decide (k ≤ 4))]:=by
  refine run_intro Tryz.func142 rfl rfl rfl ?_
  repeat' ((conv=>whnf);first|refine gT ?_|refine gF ?_|refine VIf.not ?_|refine gA ?_|refine gB ?_|refine VIf.dec (fun h=>?_) (fun h=>?_)|refine gC ?_|refine gD ?_|refine VIf.mk (fun h=>?_) (fun h=>?_)|refine gO ?_|refine gP ?_|refine VNat.mk _ rfl ?_|refine gV ?_|refine vret_pf rfl ?_|refine vret_take rfl rfl ?_|refine gK ?_)
  all_goals (try (conv=>whnf))
  all_goals (simp_all; try omega)
def dcB (k p:Int) (r:List PV):SO:=.box 46 (iv k :: iv p :: r)
def clV (i:Nat):PV:=.fn 138 [] [.bp i 0]
set_option maxRecDepth 100000 in
theorem formed1_can (k p:Int) (r:List PV) (hr:r.all (pur 8)=true) (t:Tm) (v:PV) (h:TmP t v):Finds C1 138 [v,.bp 0 0] [dcB k p r] fun q st=>q = .ret [bv (rightT t p 0)]∧st=[dcB k p r]:=by
  have hs:=termRight_can t v h p 0
  obtain ⟨k0,nn0,s0,ls0,ts0,b0,z0,xs0,c0,y0,ys0,rfl,rfl,-⟩:=h.open
  refine run_intro Tryz.func138 rfl rfl rfl ?_
  unfold dcB
  repeat' ((conv=>whnf);first|refine gT ?_|refine gF ?_|refine VIf.not ?_|refine gA ?_|refine gB ?_|refine VIf.dec (fun h=>?_) (fun h=>?_)|refine gC ?_|refine gD ?_|refine VIf.mk (fun h=>?_) (fun h=>?_)|refine gO ?_|refine gP ?_|refine VNat.mk _ rfl ?_|refine gV ?_|refine vret_pf rfl ?_|refine vret_take rfl rfl ?_|refine vcall_pf hs rfl rfl ?_|refine gK ?_)
  all_goals (try (conv=>whnf))
  have hp:(iv k :: iv p :: r).all (pur 8)=true:=by rw [List.all_cons,List.all_cons,hr]; rfl
  exact vret_take_shr rfl rfl (.cons (shr_boxp hp) .nil) rfl ⟨rfl,rfl⟩
def wrongC (p:Int) (c:List UInt8 × Tm):Bool:=!nameF c.1 || !rightT c.2 p 0
def fmS (k p:Int) (r:List PV):Sto:=[.box 27 [clV 1],.box 46 (iv k :: iv p :: r)]
def wrP:PV:=.fn 139 [] [.bp 0 0]
theorem boxp_all {k p:Int} {r:List PV} (hr:r.all (pur 8)=true):(iv k :: iv p :: r).all (pur 8)=true:=by rw [List.all_cons,List.all_cons,hr]; rfl
theorem fm_shr {k p:Int} {r:List PV} (hr:r.all (pur 8)=true):ShrL (fmS k p r) [[1],[]] [fun g=>.box 27 [.fn 138 [] [.bp (g 1) 0]],fun _=>.box 46 (iv k :: iv p :: r)]:=.cons (shr_box rfl rfl) (.cons (shr_boxp (boxp_all hr)) .nil)
set_option maxRecDepth 100000 in
theorem formed2_can (k p:Int) (r:List PV) (hr:r.all (pur 8)=true) (c:List UInt8 × Tm) (v:PV) (h:LoP c v):Finds C1 139 [v,.bp 0 0] (fmS k p r) fun q st=>q = .ret [bv (wrongC p c)]∧st=fmS k p r:=by
  obtain ⟨s,q1,q2,q3,q4,q5,q6,q7,q8,q9,t,rfl,rfl,ht,hs⟩:=h.open
  have hn:=nameRight_can s hs
  have h1:=formed1_can k p r hr t _ ht
  have hp:=boxp_all (k:=k) (p:=p) hr
  refine run_intro Tryz.func139 rfl rfl rfl ?_
  unfold fmS clV
  repeat' ((conv=>whnf);first|refine gT ?_|refine gF ?_|refine VIf.not ?_|refine gA ?_|refine gB ?_|refine VIf.dec (fun h=>?_) (fun h=>?_)|refine gC ?_|refine gD ?_|refine VIf.mk (fun h=>?_) (fun h=>?_)|refine gO ?_|refine gP ?_|refine VNat.mk _ rfl ?_|refine gV ?_|refine vret_pf rfl ?_|refine vret_take rfl rfl ?_|refine vcall_pf hn rfl rfl ?_|refine gK ?_)
  all_goals (try (conv=>whnf))
  · refine vcall_shr rfl rfl (.cons (shr_box rfl rfl) (.cons (shr_boxp hp) (.cons (shr_box rfl rfl) .nil))) rfl rfl rfl rfl (Finds.mono h1 ?_)
    rintro _ _ ⟨rfl,rfl⟩
    unfold dcB
    refine vback_to (st':=fmS k p r ++ [.box 72 [sv s,iv q1,iv q2,sv q3,.sl q4 q5 q6,.sl q7 q8 q9]]) (.cons (shr_boxp hp) .nil) rfl rfl rfl ?_
    unfold fmS clV
    repeat' ((conv=>whnf);first|refine gT ?_|refine gF ?_|refine VIf.not ?_|refine gA ?_|refine gB ?_|refine VIf.dec (fun h=>?_) (fun h=>?_)|refine gC ?_|refine gD ?_|refine VIf.mk (fun h=>?_) (fun h=>?_)|refine gO ?_|refine gP ?_|refine VNat.mk _ rfl ?_|refine gV ?_|refine vret_pf rfl ?_|refine vret_take rfl rfl ?_|refine gK ?_)
    all_goals (try (conv=>whnf))
    refine vret_take_shr rfl rfl (fm_shr hr) rfl ⟨?_,rfl⟩
    simp_all [wrongC]
  · refine vret_take_shr rfl rfl (fm_shr hr) rfl ⟨?_,rfl⟩
    simp_all [wrongC]
def idxW (q:List UInt8 × Tm→Bool):List (List UInt8 × Tm)→Nat→Int
  |[],_=>-1
  |t :: r,i=>if q t=true then i else idxW q r (i + 1)
theorem idxW_any (q:List UInt8 × Tm→Bool):∀ (ts:List (List UInt8 × Tm)) (i:Nat),decide (0 ≤ idxW q ts i)=ts.any q
  |[],i=>by simp [idxW]
  |t :: r,i=>by
    rw [idxW,List.any_cons]
    by_cases h:q t=true
    · rw [if_pos h,h]
      simp
    · rw [if_neg h,idxW_any q r,Bool.eq_false_iff.2 h]
      simp
set_option maxHeartbeats 1000000 in
set_option maxRecDepth 100000 in
theorem idxC_can (k p:Int) (r:List PV) (hr:r.all (pur 8)=true) (cs:List (List UInt8 × Tm)) (cb:Bool) (cz:Nat) (cx:List PV) (hz:cz=6∨cx=[]) (hxs:LosP cs cx) (hlen:cs.length ≤ 1466015503701) :
    Finds C1 180 [.sl cb cz cx,wrP] (fmS k p r) fun q st=>q = .ret [iv (idxW (wrongC p) cs 0)]∧st=fmS k p r:=by
  have hcl:=hxs.len
  have hp:=boxp_all (k:=k) (p:=p) hr
  refine run_intro Tryz.func180 rfl rfl rfl ?_
  unfold fmS clV
  repeat' ((conv=>whnf);first|refine gT ?_|refine gF ?_|refine VIf.not ?_|refine gA ?_|refine gB ?_|refine VIf.dec (fun h=>?_) (fun h=>?_)|refine gC ?_|refine gD ?_|refine VIf.mk (fun h=>?_) (fun h=>?_)|refine gO ?_|refine gP ?_|refine VNat.mk _ rfl ?_|refine gV ?_|refine vret_pf rfl ?_|refine vret_take rfl rfl ?_|refine gK ?_)
  all_goals (try (conv=>whnf))
  refine loop_over (G:=Nat) (fun i=>[(8,iv i)]) (fun _=>fmS k p r) (fun i=>i ≤ cs.length∧idxW (wrongC p) (cs.drop i) i=idxW (wrongC p) cs 0) (fun i=>cs.length - i) 0 ⟨by omega,rfl⟩ rfl rfl ?_
  rintro i ⟨hi,hall⟩
  dsimp only at hi hall ⊢
  unfold fmS clV
  repeat' ((conv=>whnf);first|refine gT ?_|refine gF ?_|refine VIf.not ?_|refine gA ?_|refine gB ?_|refine VIf.dec (fun h=>?_) (fun h=>?_)|refine gC ?_|refine gD ?_|refine VIf.mk (fun h=>?_) (fun h=>?_)|refine gO ?_|refine gP ?_|refine VNat.mk _ rfl ?_|refine gV ?_|refine vret_pf rfl ?_|refine vret_take rfl rfl ?_|refine gK ?_)
  all_goals (try (conv=>whnf))
  · have hi':i < cs.length:=by omega
    obtain ⟨c,hc⟩:∃ c,cs[i]? = some c:=⟨_,List.getElem?_eq_getElem hi'⟩
    obtain ⟨v,hv,hl⟩:=hxs.at hc
    have h2:=formed2_can k p r hr c v hl
    obtain ⟨s,q1,q2,q3,q4,q5,q6,q7,q8,q9,t,rfl,rfl,-⟩:=hl.open
    rw [drop_at hc,idxW] at hall
    repeat' ((conv=>whnf);first|refine gT ?_|refine gF ?_|refine VIf.not ?_|refine gA ?_|refine gB ?_|refine VIf.dec (fun h=>?_) (fun h=>?_)|refine gC ?_|refine gD ?_|refine VIf.mk (fun h=>?_) (fun h=>?_)|refine gO ?_|refine gP ?_|refine VNat.mk _ rfl ?_|refine gV ?_|refine vret_pf rfl ?_|refine vret_take rfl rfl ?_|refine VIdx.mk _ hv ?_|refine VOk.mk (szOk_of rfl hz) ?_|refine gK ?_)
    all_goals (try (conv=>whnf))
    refine vcall_shr rfl rfl (fm_shr hr) rfl rfl rfl rfl (Finds.mono h2 ?_)
    rintro _ _ ⟨rfl,rfl⟩
    refine vback_to (st':=fmS k p r) (fm_shr hr) rfl rfl rfl ?_
    unfold fmS clV
    repeat' ((conv=>whnf);first|refine gT ?_|refine gF ?_|refine VIf.not ?_|refine gA ?_|refine gB ?_|refine VIf.dec (fun h=>?_) (fun h=>?_)|refine gC ?_|refine gD ?_|refine VIf.mk (fun h=>?_) (fun h=>?_)|refine gO ?_|refine gP ?_|refine VNat.mk _ rfl ?_|refine gV ?_|refine vret_pf rfl ?_|refine vret_take rfl rfl ?_|refine gK ?_)
    all_goals (try (conv=>whnf))
    · rw [if_pos (by assumption)] at hall
      rw [← hall]
      exact vret_take_shr rfl rfl (fm_shr hr) rfl ⟨rfl,rfl⟩
    · rw [if_neg (by simp_all)] at hall
      exact VAgain.mk _ rfl _ (gc_same rfl) ⟨i + 1,⟨hi',hall⟩,by omega,rfl⟩
  · rw [List.drop_of_length_le (by omega),idxW] at hall
    rw [← hall]
    exact vret_take_shr rfl rfl (fm_shr hr) rfl ⟨rfl,rfl⟩
set_option maxHeartbeats 1000000 in
set_option maxRecDepth 100000 in
theorem anyC_can (k p:Int) (r:List PV) (hr:r.all (pur 8)=true) (cs:List (List UInt8 × Tm)) (cb:Bool) (cz:Nat) (cx:List PV) (hz:cz=6∨cx=[]) (hxs:LosP cs cx) (hlen:cs.length ≤ 1466015503701) :
    Finds C1 141 [.sl cb cz cx,wrP] (fmS k p r) fun q st=>q = .ret [bv (cs.any (wrongC p))]∧st=fmS k p r:=by
  have hi:=idxC_can k p r hr cs cb cz cx hz hxs hlen
  have e:=idxW_any (wrongC p) cs 0
  refine run_intro Tryz.func141 rfl rfl rfl ?_
  repeat' ((conv=>whnf);first|refine gT ?_|refine gF ?_|refine VIf.not ?_|refine gA ?_|refine gB ?_|refine VIf.dec (fun h=>?_) (fun h=>?_)|refine gC ?_|refine gD ?_|refine VIf.mk (fun h=>?_) (fun h=>?_)|refine gO ?_|refine gP ?_|refine VNat.mk _ rfl ?_|refine gV ?_|refine vret_pf rfl ?_|refine vret_take rfl rfl ?_|refine gK ?_)
  all_goals (try (conv=>whnf))
  refine vcall_shr rfl rfl (fm_shr hr) rfl rfl rfl rfl (Finds.mono hi ?_)
  rintro _ _ ⟨rfl,rfl⟩
  refine vback_to (st':=fmS k p r) (fm_shr hr) rfl rfl rfl ?_
  repeat' ((conv=>whnf);first|refine gT ?_|refine gF ?_|refine VIf.not ?_|refine gA ?_|refine gB ?_|refine VIf.dec (fun h=>?_) (fun h=>?_)|refine gC ?_|refine gD ?_|refine VIf.mk (fun h=>?_) (fun h=>?_)|refine gO ?_|refine gP ?_|refine VNat.mk _ rfl ?_|refine gV ?_|refine vret_pf rfl ?_|refine vret_take rfl rfl ?_|refine gK ?_)
  all_goals (try (conv=>whnf))
  exact vret_take_shr rfl rfl (fm_shr hr) rfl ⟨by rw [← e],rfl⟩
def formedF (d:Dc):Bool :=
  if (decide (1 ≤ d.k∧d.k ≤ 5) && (nameF d.nm && rightT d.ty d.p 0))=true then
    (if d.k=5 then eqTm d.vl tz && (decide (0 ≤ d.fx) && (decide (d.fx ≤ 16) && (decide (d.cs.length ≤ 8) && !d.cs.any (wrongC d.p))))
    else if d.fx ≠ 0∨d.cs.length ≠ 0 then false
    else if 2 ≤ d.k∧d.k ≤ 4 then rightT d.vl d.p 0
    else eqTm d.vl tz)
  else false
set_option maxHeartbeats 2000000 in
set_option maxRecDepth 100000 in
theorem Formed_can (d:Dc) (v:PV) (h:DcP d v):Pf C1 97 [v] [bv (formedF d)]:=by
  obtain ⟨k,p,nm,ty,vl,fx,cs,a1,a2,a3,a4,a5,a6,a7,a8,a9,b1,b2,b3,b4,b5,b6,b7,b8,b9,cb,cz,cx,hty,hvl,hz,hxs,hlen,hnm,hk,hp,hfx⟩:=h
  have hnr:=nameRight_can nm hnm
  have he:=empty_can vl _ hvl
  have hv:=valued_can k
  have h1:=formed1_can k p [sv nm,iv a1,iv a2,sv a3,.sl a4 a5 a6,.sl a7 a8 a9,iv b1,iv b2,sv b3,.sl b4 b5 b6,.sl b7 b8 b9,iv fx,.sl cb cz cx] rfl ty _ hty
  have h2:=formed1_can k p [sv nm,iv a1,iv a2,sv a3,.sl a4 a5 a6,.sl a7 a8 a9,iv b1,iv b2,sv b3,.sl b4 b5 b6,.sl b7 b8 b9,iv fx,.sl cb cz cx] rfl vl _ hvl
  have hcl:=hxs.len
  refine run_intro Tryz.func97 rfl rfl rfl ?_
  repeat' ((conv=>whnf);first|refine gT ?_|refine gF ?_|refine VIf.not ?_|refine gA ?_|refine gB ?_|refine VIf.dec (fun h=>?_) (fun h=>?_)|refine gC ?_|refine gD ?_|refine VIf.mk (fun h=>?_) (fun h=>?_)|refine gO ?_|refine gP ?_|refine VNat.mk _ rfl ?_|refine gV ?_|refine vret_pf rfl ?_|refine vret_take rfl rfl ?_|refine vcall_pf hnr rfl rfl ?_|refine vcall_pf he rfl rfl ?_|refine vcall_pf hv rfl rfl ?_|refine gK ?_)
  all_goals (try (conv=>whnf))
  · rw [formedF,if_neg (by simp; omega)]
  · rw [formedF,if_neg (by simp; omega)]
  · refine vcall_shr rfl rfl (.cons (shr_box rfl rfl) (.cons (shr_box rfl rfl) .nil)) rfl rfl rfl rfl (Finds.mono h1 ?_)
    rintro _ _ ⟨rfl,rfl⟩
    unfold dcB
    refine vback_f (.cons (shr_box rfl rfl) .nil) rfl ?_
    have hF:1 ≤ k∧k ≤ 5→nameF nm=true→rightT ty p 0=true→formedF ⟨k,p,nm,ty,vl,fx,cs⟩=(if k=5 then eqTm vl tz && (decide (0 ≤ fx) && (decide (fx ≤ 16) && (decide (cs.length ≤ 8) && !cs.any (wrongC p))))
        else if fx ≠ 0∨cs.length ≠ 0 then false
        else if 2 ≤ k∧k ≤ 4 then rightT vl p 0
        else eqTm vl tz):=fun e1 e2 e3=>by rw [formedF,if_pos (by simp [e1,e2,e3])]
    repeat' ((conv=>whnf);first|refine gT ?_|refine gF ?_|refine VIf.not ?_|refine gA ?_|refine gB ?_|refine VIf.dec (fun h=>?_) (fun h=>?_)|refine gC ?_|refine gD ?_|refine VIf.mk (fun h=>?_) (fun h=>?_)|refine gO ?_|refine gP ?_|refine VNat.mk _ rfl ?_|refine gV ?_|refine vret_pf rfl ?_|refine vret_take rfl rfl ?_|refine vcall_pf he rfl rfl ?_|refine vcall_pf hv rfl rfl ?_|refine gK ?_)
    all_goals (try (conv=>whnf))
    · have h3:=anyC_can k p [sv nm,iv a1,iv a2,sv a3,.sl a4 a5 a6,.sl a7 a8 a9,iv b1,iv b2,sv b3,.sl b4 b5 b6,.sl b7 b8 b9,iv fx,.sl cb cz cx] rfl cs cb cz cx hz hxs hlen
      refine vcall_shr rfl rfl (.cons (shr_box rfl rfl) (.cons (shr_box rfl rfl) .nil)) rfl rfl rfl rfl (Finds.mono h3 ?_)
      rintro _ _ ⟨rfl,rfl⟩
      refine vback_f (fm_shr rfl) rfl ?_
      repeat' ((conv=>whnf);first|refine gT ?_|refine gF ?_|refine VIf.not ?_|refine gA ?_|refine gB ?_|refine VIf.dec (fun h=>?_) (fun h=>?_)|refine gC ?_|refine gD ?_|refine VIf.mk (fun h=>?_) (fun h=>?_)|refine gO ?_|refine gP ?_|refine VNat.mk _ rfl ?_|refine gV ?_|refine vret_pf rfl ?_|refine vret_take rfl rfl ?_|refine gK ?_)
      all_goals (try (conv=>whnf))
      rw [hF (by omega) (by assumption) (by assumption)]
      simp_all
      try (intros; omega)
    all_goals try (rw [hF (by omega) (by assumption) (by assumption)]; simp_all [retV]; done)
    all_goals try (rw [hF (by omega) (by assumption) (by assumption)]; simp_all [retV]; omega)
    all_goals try (rw [hF (by omega) (by assumption) (by assumption)]; simp_all [retV]; intros; omega)
    all_goals try (rw [hF (by omega) (by assumption) (by assumption),if_neg (by omega),if_neg (by omega),if_neg (by simp_all)]; rfl)
    all_goals try (rw [formedF,if_neg (by simp_all)]; done)
    refine vcall_shr rfl rfl (.cons (shr_box rfl rfl) (.cons (shr_box rfl rfl) .nil)) rfl rfl rfl rfl (Finds.mono h2 ?_)
    rintro _ _ ⟨rfl,rfl⟩
    unfold dcB
    refine vback_f (.cons (shr_box rfl rfl) .nil) rfl ?_
    repeat' ((conv=>whnf);first|refine gT ?_|refine gF ?_|refine VIf.not ?_|refine gA ?_|refine gB ?_|refine VIf.dec (fun h=>?_) (fun h=>?_)|refine gC ?_|refine gD ?_|refine VIf.mk (fun h=>?_) (fun h=>?_)|refine gO ?_|refine gP ?_|refine VNat.mk _ rfl ?_|refine gV ?_|refine vret_pf rfl ?_|refine vret_take rfl rfl ?_|refine gK ?_)
    all_goals (try (conv=>whnf))
    rw [hF (by omega) (by assumption) (by assumption)]
    simp_all [retV]
  · rw [formedF,if_neg (by simp_all)]
end Go.Proofs.YtehhihdahalfeaaGreatDoor
namespace Go.Proofs.YtehhihdahalfeaaGreatDoor
open Go Go.Am Go.Gw
set_option maxHeartbeats 2000000 in
set_option maxRecDepth 100000 in
theorem DeclNodes_can (d:Dc) (v:PV) (h:DcP d v) (q:Int) (hq:0 ≤ q∧q ≤ 100000):∃ n,Pf C1 55 [v,iv q] [iv n]:=by
  suffices key:Finds C1 55 [v,iv q] [] fun r _=>∃ n,r = .ret [iv n] by
    obtain ⟨r,st',⟨n,rfl⟩,N,hN⟩:=key
    exact ⟨n,_,st',rfl,N,hN⟩
  obtain ⟨k,p,nm,ty,vl,fx,cs,a1,a2,a3,a4,a5,a6,a7,a8,a9,b1,b2,b3,b4,b5,b6,b7,b8,b9,cb,cz,cx,hty,hvl,hz,hxs,hlen,hnm,hk,hp,hfx⟩:=h
  have h1:=useNodes_can ty _ hty q hq.1 (by omega)
  have h2:=useNodes_can vl _ hvl q hq.1 (by omega)
  have u1:=useN_bd ty q hq.1
  have u2:=useN_bd vl q hq.1
  have hcl:=hxs.len
  have hnl:nm.length / 16 ≤ nm.length:=Nat.div_le_self _ _
  have hsz:(⟨nm.toArray⟩:ByteArray).size=nm.length:=by show nm.toArray.size=_; simp
  refine run_intro Tryz.func55 rfl rfl rfl ?_
  repeat' ((conv=>whnf);first|refine gT ?_|refine gF ?_|refine VIf.not ?_|refine gA ?_|refine gB ?_|refine VIf.dec (fun h=>?_) (fun h=>?_)|refine gC ?_|refine gD ?_|refine VIf.mk (fun h=>?_) (fun h=>?_)|refine gO ?_|refine gP ?_|refine VNat.mk _ rfl ?_|refine gV ?_|refine vret_pf rfl ?_|refine vret_take rfl rfl ?_|refine finds_pf h1 (fun _=>?_)|refine finds_pf h2 (fun _=>?_)|refine vcall_pf h1 rfl rfl ?_|refine vcall_pf h2 rfl rfl ?_|refine VRes.mk _ (squo16 (by rw [hsz]; exact hnm)) ?_|refine gK ?_)
  all_goals (try (conv=>whnf))
  · exact ⟨_,rfl⟩
  rw [hsz]
  repeat' ((conv=>whnf);first|refine gT ?_|refine gF ?_|refine VIf.not ?_|refine gA ?_|refine gB ?_|refine VIf.dec (fun h=>?_) (fun h=>?_)|refine gC ?_|refine gD ?_|refine VIf.mk (fun h=>?_) (fun h=>?_)|refine gO ?_|refine gP ?_|refine VNat.mk _ rfl ?_|refine gV ?_|refine vret_pf rfl ?_|refine vret_take rfl rfl ?_|refine VRes.mk _ (squo16 (by rw [hsz]; exact hnm)) ?_|refine finds_pf h1 (fun _=>?_)|refine finds_pf h2 (fun _=>?_)|refine gK ?_)
  all_goals (try (conv=>whnf))
  refine loop_over (G:=Nat × Int) (fun g=>[(6,iv g.1),(5,iv g.2)]) (fun _=>_) (fun g=>g.1 ≤ cs.length∧0 ≤ g.2∧g.2 ≤ 20000000000000) (fun g=>cs.length - g.1) (0,useN ty q + useN vl q + ((nm.length / 16:Nat):Int)) ⟨by omega,by dsimp only; omega,by dsimp only; omega⟩ rfl rfl ?_
  rintro ⟨i,acc⟩ ⟨hi,ha0,ha1⟩
  dsimp only at hi ha0 ha1 ⊢
  have hcx:∀ {i:Nat},((i:Int) < cx.length)→i < cs.length:=fun h=>by omega
  repeat' ((conv=>whnf);first|refine gT ?_|refine gF ?_|refine VIf.not ?_|refine gA ?_|refine gB ?_|refine VIf.dec (fun h=>?_) (fun h=>?_)|refine gC ?_|refine gD ?_|refine VIf.mk (fun h=>?_) (fun h=>?_)|refine gO ?_|refine gP ?_|refine VNat.mk _ rfl ?_|refine gV ?_|refine vret_pf rfl ?_|refine vret_take rfl rfl ?_|refine gK ?_)
  all_goals (try (conv=>whnf))
  · have hlt:=hcx (by assumption)
    obtain ⟨c,hc⟩:∃ c,cs[i]? = some c:=⟨_,List.getElem?_eq_getElem hlt⟩
    obtain ⟨z,hz1,hz2⟩:=hxs.at hc
    obtain ⟨s,q1,q2,q3,q4,q5,q6,q7,q8,q9,t,rfl,rfl,ht,hsl⟩:=hz2.open
    have h3:=useNodes_can t _ ht q hq.1 (by omega)
    have u3:=useN_bd t q hq.1
    have hs16:s.length / 16 ≤ s.length:=Nat.div_le_self _ _
    have hs17:s.length / 16 ≤ 8796093022208:=by omega
    have hszs:(⟨s.toArray⟩:ByteArray).size=s.length:=by show s.toArray.size=_; simp
    repeat' ((conv=>whnf);first|refine gT ?_|refine gF ?_|refine VIf.not ?_|refine gA ?_|refine gB ?_|refine VIf.dec (fun h=>?_) (fun h=>?_)|refine gC ?_|refine gD ?_|refine VIf.mk (fun h=>?_) (fun h=>?_)|refine gO ?_|refine gP ?_|refine VNat.mk _ rfl ?_|refine gV ?_|refine vret_pf rfl ?_|refine vret_take rfl rfl ?_|refine VIdx.mk _ hz1 ?_|refine VOk.mk (szOk_of rfl hz) ?_|refine vcall_pf h3 rfl rfl ?_|refine finds_pf h3 (fun _=>?_)|refine VRes.mk _ (squo16 (by rw [hszs]; exact hsl)) ?_|refine gK ?_)
    all_goals (try (conv=>whnf))
    rw [hszs]
    repeat' ((conv=>whnf);first|refine gT ?_|refine gF ?_|refine VIf.not ?_|refine gA ?_|refine gB ?_|refine VIf.dec (fun h=>?_) (fun h=>?_)|refine gC ?_|refine gD ?_|refine VIf.mk (fun h=>?_) (fun h=>?_)|refine gO ?_|refine gP ?_|refine VNat.mk _ rfl ?_|refine gV ?_|refine vret_pf rfl ?_|refine vret_take rfl rfl ?_|refine gK ?_)
    all_goals (try (conv=>whnf))
    exact VAgain.mk _ rfl _ (gc_take rfl rfl rfl) ⟨(i + 1,_),⟨hlt,by dsimp only; omega,by dsimp only; omega⟩,by dsimp only; omega,rfl⟩
  · exact ⟨_,rfl⟩
  · exact ⟨_,rfl⟩
set_option maxRecDepth 100000 in
theorem GreatD_can (d:Dc) (v:PV) (h:DcP d v):∃ b,(b=false→d.cs.length ≤ 20)∧Pf C1 20 [v] [bv b]:=by
  obtain ⟨n,hn⟩:=DeclNodes_can d v h 4000 (by omega)
  suffices key:Finds C1 20 [v] [] fun r _=>∃ b,(b=false→d.cs.length ≤ 20)∧r = .ret [bv b] by
    obtain ⟨r,st',⟨b,hb,rfl⟩,N,hN⟩:=key
    exact ⟨b,hb,_,st',rfl,N,hN⟩
  obtain ⟨k,p,nm,ty,vl,fx,cs,a1,a2,a3,a4,a5,a6,a7,a8,a9,b1,b2,b3,b4,b5,b6,b7,b8,b9,cb,cz,cx,hty,hvl,hz,hxs,hlen,hnm,hk,hp,hfx⟩:=h
  have hcl:=hxs.len
  refine run_intro Tryz.func20 rfl rfl rfl ?_
  repeat' ((conv=>whnf);first|refine gT ?_|refine gF ?_|refine VIf.not ?_|refine gA ?_|refine gB ?_|refine VIf.dec (fun h=>?_) (fun h=>?_)|refine gC ?_|refine gD ?_|refine VIf.mk (fun h=>?_) (fun h=>?_)|refine gO ?_|refine gP ?_|refine VNat.mk _ rfl ?_|refine gV ?_|refine vret_pf rfl ?_|refine vret_take rfl rfl ?_|refine vcall_pf hn rfl rfl ?_|refine gK ?_)
  all_goals (try (conv=>whnf))
  · exact ⟨true,fun e=>(by cases e),rfl⟩
  · exact ⟨_,fun _=>by dsimp only; omega,rfl⟩
end Go.Proofs.YtehhihdahalfeaaGreatDoor
