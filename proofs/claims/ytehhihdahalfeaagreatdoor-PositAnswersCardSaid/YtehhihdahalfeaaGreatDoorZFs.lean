/-
  What the document's layer 18 asks of a head and of what it is applied to (plain law). No statement of the seat.
-/
import Derived.Test.YtehhihdahalfeaaGreatDoorZFk
set_option linter.unusedVariables false
set_option linter.unusedSimpArgs false
set_option linter.unnecessarySimpa false
namespace Go.Proofs.YtehhihdahalfeaaGreatDoor
open Go Go.Am Go.Gw
/-- is the i-th of what a head is applied to as it must be? -/
def okA (nm:List UInt8) (fx:Nat) (deep:Int) (i:Nat) (a:Tm):Bool:=if i < fx then (decide (a.kind=1) && decide (a.num=deep - 1 - (i:Int))) else !stF nm a
def okAll (nm:List UInt8) (fx:Nat) (deep:Int):List Tm→Nat→Bool
  |[],_=>true
  |a :: r,i=>okA nm fx deep i a && okAll nm fx deep r (i + 1)
theorem okAll_eq (nm:List UInt8) (fx:Nat) (deep:Int):∀ (l:List Tm) (i:Nat),okAll nm fx deep l i=(ownsF deep (l.take (fx - i)) i && !(l.drop (fx - i)).any (stF nm))
  |[],i=>by simp [okAll,ownsF]
  |a :: r,i=>by
    rw [okAll,okAll_eq nm fx deep r (i + 1),okA]
    by_cases h:i < fx
    · obtain ⟨m,hm⟩:∃ m,fx - i=m + 1:=⟨fx - i - 1,by omega⟩
      rw [if_pos h,hm,show fx - (i + 1)=m by omega,List.take_succ_cons,List.drop_succ_cons,ownsF,Bool.and_assoc,Bool.and_assoc,Bool.and_assoc]
      rfl
    · rw [if_neg h,show fx - i=0 by omega,show fx - (i + 1)=0 by omega]
      simp [ownsF]
/-- are these the parameters' levels? -/
def lvAll:List Lv→Nat→Bool
  |[],_=>true
  |l :: r,i=>eqLv l (.mk 2 (i:Int) []) && lvAll r (i + 1)
theorem lvAll_eq:∀ (ls:List Lv) (i:Nat),lvAll ls i=true↔ls=(List.range ls.length).map fun (j:Nat)=>Lv.mk 2 ((i + j:Nat):Int) []
  |[],i=>by simp [lvAll]
  |l :: r,i=>by
    rw [lvAll,Bool.and_eq_true,eqLv_eq,lvAll_eq r (i + 1),List.length_cons,List.range_succ_eq_map,List.map_cons,List.map_map,List.cons.injEq]
    have e:((fun (j:Nat)=>Lv.mk 2 ((i + j:Nat):Int) []) ∘ Nat.succ)=fun (j:Nat)=>Lv.mk 2 ((i + 1 + j:Nat):Int) []:=by
      funext j
      simp only [Function.comp]
      rw [show i + Nat.succ j=i + 1 + j by omega]
    rw [e]
    rfl
/-- is a head the family's own? -/
def hdOk (d:Dc) (k:Int) (s:List UInt8) (ls:List Lv):Bool:=decide (k=3) && (decide (s=d.nm) && (decide ((ls.length:Int)=d.p) && lvAll ls 0))
theorem self_eq {d:Dc} (hp:0 ≤ d.p) {k n:Int} {s:List UInt8} {ls:List Lv} {ts:List Tm} {p kk:Int} (h:allT (.mk k n s ls ts) p kk=true):eqTm (.mk k n s ls ts) (selfD d)=hdOk d k s ls:=by
  rw [Bool.eq_iff_iff,eqTm_eq]
  unfold hdOk
  simp only [Bool.and_eq_true,decide_eq_true_eq]
  obtain ⟨-,hlen,hnode,-,-⟩:=allT_parts h
  constructor
  · intro e
    rw [selfD] at e
    injection e with e1 e2 e3 e4 e5
    refine ⟨e1,e3,?_,?_⟩
    · rw [e4,parL]
      simp
      omega
    · rw [lvAll_eq,e4,parL]
      simp
  · rintro ⟨rfl,rfl,hl,hv⟩
    have h3:((3:Int)=1)=False:=by simp
    simp only [nodeT,h3,if_false,if_true,Bool.and_eq_true,decide_eq_true_eq] at hnode
    have e5:shArgs 3=0:=by decide
    rw [e5] at hlen
    have e6:ts=[]:=List.eq_nil_of_length_eq_zero (by omega)
    rw [lvAll_eq] at hv
    have e7:ls.length=d.p.toNat:=by omega
    rw [selfD,parL,← e7,hnode.1,e6]
    congr 1
    rw [hv]
    simp
/-- what the document's end answers -/
theorem end_ok {d:Dc} (hp:0 ≤ d.p) {fx:Nat} {idx deep:Int} {t:Tm} {p kk:Int} (h:allT t p kk=true) {k n:Int} {s:List UInt8} {ls:List Lv} {ts:List Tm} (ht:(spF t).1 = .mk k n s ls ts) (hfx:0 ≤ idx) :
    (endF d.nm (selfD d) fx idx deep t).2=(hdOk d k s ls && (decide (((argsF t).length:Int)=fx + idx) && okAll d.nm fx deep (argsF t) 0))∧((endF d.nm (selfD d) fx idx deep t).2=true→(endF d.nm (selfD d) fx idx deep t).1=(argsF t).drop fx):=by
  have hh:=(spF_all t p kk h).2
  rw [ht] at hh
  unfold endF
  rw [ht,self_eq hp hh,Int.toNat_natCast,okAll_eq,Nat.sub_zero]
  split
  · rename_i h1
    simp only [Bool.and_eq_true] at h1
    obtain ⟨h1,h2,h3⟩:=h1
    refine ⟨?_,fun _=>rfl⟩
    rw [h1,h2]
    simp only [Bool.true_and]
    have h3':ownsF deep (List.take fx (argsF t)) ((0:Nat):Int)=true:=h3
    rw [h3',Bool.true_and]
  · rename_i h1
    refine ⟨?_,fun e=>by cases e⟩
    cases e1:hdOk d k s ls with
    |false=>rfl
    |true =>
      cases e2:decide (((argsF t).length:Int)=fx + idx) with
      |false=>rfl
      |true =>
        rw [e1,e2] at h1
        have h3:ownsF deep (List.take fx (argsF t)) ((0:Nat):Int)=false:=Bool.eq_false_iff.2 fun e=>h1 (by simpa using e)
        rw [h3]
        rfl
end Go.Proofs.YtehhihdahalfeaaGreatDoor
namespace Go.Proofs.YtehhihdahalfeaaGreatDoor
open Go Go.Am Go.Gw
theorem lvAll_drop {ls:List Lv} {i:Nat} {l:Lv} (h:ls[i]? = some l):lvAll (ls.drop i) i=(eqLv l (.mk 2 (i:Int) []) && lvAll (ls.drop (i + 1)) (i + 1)):=by
  rw [drop_at h,lvAll]
theorem okAll_drop {nm:List UInt8} {fx:Nat} {deep:Int} {l:List Tm} {i:Nat} {a:Tm} (h:l[i]? = some a):okAll nm fx deep (l.drop i) i=(okA nm fx deep i a && okAll nm fx deep (l.drop (i + 1)) (i + 1)):=by
  rw [drop_at h,okAll]
theorem sliceP_from {f:Bool} {sz q:Nat} {xs:List PV} (h:q ≤ xs.length):sliceP f sz xs (some (iv (q:Int))) none none=some (.sl (f && Nat.beq xs.length xs.length) sz ((xs.take xs.length).drop q)):=by
  have h1:optN 0 (some (iv (q:Int)))=some q:=rfl
  have h2:optN xs.length none=some xs.length:=rfl
  unfold sliceP
  rw [h1,h2]
  have h3:(Nat.ble xs.length xs.length && Nat.ble q xs.length)=true:=by simp [h]
  simp only [h3]
theorem vcActs_slice {C:Cfg} {ρ:AEnv} {st:Sto} {T:TypeId} {x:Operand} {lo hi mx:Option Operand} {K:AR→Prop} {id len:Nat} {p:Bool} {e:TypeId} {sz:Nat} {xs:List PV} {lo' hi' mx':Option PV} {v:PV}
    (hx:aval ρ x=some (.ms id len)) (hst:st[id]? = some (.row p e sz xs)) (hl:Nat.beq len xs.length=true) (hp:xs.all (pur 6)=true) (h1:optV ρ lo=some lo') (h2:optV ρ hi=some hi') (h3:optV ρ mx=some mx') (hz:szOk C.P T sz xs=true)
    (hv:sliceP false sz xs lo' hi' mx'=some v) (k:K (.val v (st.set id (.row true e sz xs)))):vcActs C ρ st (.slice T x lo hi mx) K:=by
  have hpub:pubRow id len st=(.sl false sz xs,st.set id (.row true e sz xs)):=by
    unfold pubRow
    rw [hst]
    simp only [hl,hp,Bool.and_self]
  have ha:aS C ev0 ρ st (.slice T x lo hi mx)=some (.val v (st.set id (.row true e sz xs))):=by
    simp only [aS,sSlice,hx,hpub,h1,h2,h3,hz,hv,Option.map_some]
  have hk:aK C.P ρ st (.slice T x lo hi mx)=none:=rfl
  simp only [vcActs,acts,hk,ha]
  exact k
theorem lvP_par (i:Nat):LvP (.mk 2 (i:Int) []) (.ag [iv 2,iv i,.sl true 0 []]):=by
  simp only [LvP]
  exact ⟨_,_,_,rfl,.inr rfl,by simp only [LvsP],by simp⟩
set_option maxHeartbeats 4000000 in
set_option maxRecDepth 100000 in
theorem end18_can (d:Dc) (v:PV) (h:DcP d v) (t:Tm) (w:PV) (hT:TmP t w) (deep idx:Int) (hfx:0 ≤ d.fx∧d.fx ≤ 16) (hidx:0 ≤ idx∧idx ≤ 16) (hd:0 ≤ deep∧deep ≤ 1000000) (hp:0 ≤ d.p∧d.p ≤ 4) {p kk:Int} (hall:allT t p kk=true) (hl:(spF t).2.length ≤ 2000) (hst:∀ a ∈ argsF t,anyT a=true) :
    ∃ b z xs,(z=5∨xs=[])∧((endF d.nm (selfD d) d.fx idx deep t).2=true→TmsP (endF d.nm (selfD d) d.fx idx deep t).1 xs)∧Pf C4 105 [v,w,iv deep,iv idx] [.sl b z xs,bv (endF d.nm (selfD d) d.fx idx deep t).2]:=by
  suffices key:Finds C4 105 [v,w,iv deep,iv idx] [] fun r _=>∃ b z xs,(z=5∨xs=[])∧((endF d.nm (selfD d) d.fx idx deep t).2=true→TmsP (endF d.nm (selfD d) d.fx idx deep t).1 xs)∧r = .ret [.sl b z xs,bv (endF d.nm (selfD d) d.fx idx deep t).2] by
    obtain ⟨r,st',⟨b,z,xs,h1,h2,rfl⟩,N,hN⟩:=key
    exact ⟨b,z,xs,h1,h2,_,st',rfl,N,hN⟩
  obtain ⟨fx,hfn⟩:=Int.eq_ofNat_of_zero_le hfx.1
  have hw:=spF_w t hT.w
  have hsp:=Spine4_can t w hT hl
  have hst18:∀ a ∈ argsF t,TmW a∧Pf C4 109 [v,encT a] [bv (stF d.nm a)]:=fun a ha=>by
    have h1:=hw.1 a (by simpa [argsF] using ha)
    rw [stF_18 (hst a ha)]
    exact ⟨h1,up4 rfl (stands18_can a (encT a) h1 d v h)⟩
  rcases hH:(spF t).1 with ⟨k,n,s,ls,ts⟩
  rw [hfn]
  obtain ⟨hE2,hE1⟩:=end_ok hp.1 (fx:=fx) (deep:=deep) hall hH hidx.1
  generalize endF d.nm (selfD d) fx idx deep t=E at hE2 hE1 ⊢
  obtain ⟨el,eb⟩:=E
  dsimp only at hE2 hE1 ⊢
  have hbad:eb=false→∃ b z xs,(z=5∨xs=[])∧(eb=true→TmsP el xs)∧AEnd.ret [.sl true 0 [],bv false] = .ret [.sl b z xs,bv eb]:=fun e=>⟨true,0,[],.inr rfl,(fun e'=>by rw [e] at e'; cases e'),by rw [e]⟩
  have hhw:=hw.2
  rw [hH] at hsp hhw
  obtain ⟨e1,e2,e3,e4,e5,e6,e7,e8,e9,he⟩:=encT_open (.mk k n s ls ts)
  unfold TmW at hhw
  rw [he] at hsp hhw
  obtain ⟨_,_,_,_,_,b,z,xs,c,y,ys,⟨rfl,rfl,rfl,rfl,rfl⟩,hag,hz,hxs,hlen,hbd,hy,hys,hlen2,hbd2,hsl⟩:=hhw.open
  injection hag with hag
  injection hag with g1 hag
  injection hag with g2 hag
  injection hag with g3 hag
  injection hag with g4 hag
  injection hag with g5 hag
  rw [g1,g2,g3,g4,g5] at hsp
  have hal:(argsF t).length ≤ 2000:=by simpa [argsF] using hl
  have hxl:=hxs.len
  obtain ⟨a1,a2,a3,a4,a5,a6,a7,a8,a9,b1,b2,b3,b4,b5,b6,b7,b8,b9,cb,cz,cx,rfl,hty,hvl,hz',hxs',hlen'⟩:=h.parts
  obtain ⟨k0,nn0,s0,ls0,ts0,b0,z0,xs0,c0,y0,ys0,rfl,rfl,-⟩:=hT.open
  generalize argsF (.mk k0 nn0 s0 ls0 ts0)=A at hsp hst18 hE1 hE2 hal hst
  rw [hfn]
  cases A with
  |nil =>
    dsimp only [spO] at hsp
    refine run_intro Tryz.func105 rfl rfl rfl ?_
    repeat' ((conv=>whnf);first|refine gT ?_|refine gF ?_|refine VIf.not ?_|refine gA ?_|refine gB ?_|refine VIf.dec (fun h=>?_) (fun h=>?_)|refine gC ?_|refine gD ?_|refine VIf.mk (fun h=>?_) (fun h=>?_)|refine gO ?_|refine gP ?_|refine VNat.mk _ rfl ?_|refine gV ?_|refine vret_pf rfl ?_|refine vret_take rfl rfl ?_|refine vcall_pure rfl (Finds.mono hsp fun r st h=>?_)|refine gK ?_)
    all_goals (try (conv=>whnf))
    obtain ⟨rfl,rfl⟩:=h
    refine ⟨rfl,?_⟩
    repeat' ((conv=>whnf);first|refine gT ?_|refine gF ?_|refine VIf.not ?_|refine gA ?_|refine gB ?_|refine VIf.dec (fun h=>?_) (fun h=>?_)|refine gC ?_|refine gD ?_|refine VIf.mk (fun h=>?_) (fun h=>?_)|refine gO ?_|refine gP ?_|refine VNat.mk _ rfl ?_|refine gV ?_|refine vret_pf rfl ?_|refine vret_take rfl rfl ?_|refine vres_str ?_|refine gK ?_)
    all_goals (try (conv=>whnf))
    · refine loop_over (G:=Nat) (fun i=>[(12,iv i)]) (fun _=>_) (fun i=>i ≤ d.p.toNat∧(ls.length:Int)=d.p∧lvAll (ls.drop i) i=lvAll ls 0) (fun i=>d.p.toNat - i) 0 ⟨by omega,by omega,rfl⟩ rfl rfl ?_
      rintro i ⟨hi,hlp,hall1⟩
      dsimp only at hi hall1 ⊢
      repeat' ((conv=>whnf);first|refine gT ?_|refine gF ?_|refine VIf.not ?_|refine gA ?_|refine gB ?_|refine VIf.dec (fun h=>?_) (fun h=>?_)|refine gC ?_|refine gD ?_|refine VIf.mk (fun h=>?_) (fun h=>?_)|refine gO ?_|refine gP ?_|refine VNat.mk _ rfl ?_|refine gV ?_|refine vret_pf rfl ?_|refine vret_take rfl rfl ?_|refine gK ?_)
      all_goals (try (conv=>whnf))
      · have hi':i < ls.length:=by omega
        obtain ⟨lc,hlc⟩:∃ lc,ls[i]? = some lc:=⟨_,List.getElem?_eq_getElem hi'⟩
        obtain ⟨lv,hlv,hll⟩:=hxs.at hlc
        have hsl:=up4 rfl (SameLevel_can lc lv hll _ _ (lvP_par i))
        rw [lvAll_drop hlc] at hall1
        obtain ⟨q1,q2,q3,q4,q5,q6,rfl,rfl,-⟩:=hll.open
        repeat' ((conv=>whnf);first|refine gT ?_|refine gF ?_|refine VIf.not ?_|refine gA ?_|refine gB ?_|refine VIf.dec (fun h=>?_) (fun h=>?_)|refine gC ?_|refine gD ?_|refine VIf.mk (fun h=>?_) (fun h=>?_)|refine gO ?_|refine gP ?_|refine VNat.mk _ rfl ?_|refine gV ?_|refine vret_pf rfl ?_|refine vret_take rfl rfl ?_|refine VIdx.mk _ hlv ?_|refine VOk.mk (szOk_of rfl hz) ?_|refine vcall_pf hsl rfl rfl ?_|refine finds_pf hsl (fun _=>?_)|refine gK ?_)
        all_goals (try (conv=>whnf))
        · exact VAgain.mk _ rfl _ (gc_same rfl) ⟨i + 1,⟨by omega,hlp,by rw [← hall1]; simp_all⟩,by omega,rfl⟩
        · exact hbad (by rw [hE2]; unfold hdOk; rw [← hall1]; simp_all)
      have hlv1:lvAll ls 0=true:=by rw [← hall1,List.drop_of_length_le (by omega),lvAll]
      refine loop_over (G:=Unit) (fun _=>[(13,iv (0:Nat))]) (fun _=>_) (fun _=>True) (fun _=>0) () trivial rfl rfl ?_
      rintro ⟨⟩ -
      have hfx0:fx=0:=by simp only [List.length_nil] at *; omega
      subst hfx0
      repeat' ((conv=>whnf);first|refine gT ?_|refine gF ?_|refine VIf.not ?_|refine gA ?_|refine gB ?_|refine VIf.dec (fun h=>?_) (fun h=>?_)|refine gC ?_|refine gD ?_|refine VIf.mk (fun h=>?_) (fun h=>?_)|refine gO ?_|refine gP ?_|refine VNat.mk _ rfl ?_|refine gV ?_|refine vret_pf rfl ?_|refine vret_take rfl rfl ?_|refine gK ?_)
      all_goals (try (conv=>whnf))
      have hidx0:idx=0:=by simp only [List.length_nil] at h; omega
      clear h
      subst hidx0
      have heb:eb=true:=by rw [hE2]; unfold hdOk okAll; simp_all
      subst heb
      exact ⟨true,5,[],.inl rfl,fun e=>by rw [hE1 e]; simp only [List.drop_nil,TmsP],rfl⟩
    all_goals exact hbad (by rw [hE2]; unfold hdOk; simp_all)
  |cons x r =>
    dsimp only [spO] at hsp
    refine run_intro Tryz.func105 rfl rfl rfl ?_
    repeat' ((conv=>whnf);first|refine gT ?_|refine gF ?_|refine VIf.not ?_|refine gA ?_|refine gB ?_|refine VIf.dec (fun h=>?_) (fun h=>?_)|refine gC ?_|refine gD ?_|refine VIf.mk (fun h=>?_) (fun h=>?_)|refine gO ?_|refine gP ?_|refine VNat.mk _ rfl ?_|refine gV ?_|refine vret_pf rfl ?_|refine vret_take rfl rfl ?_|refine vcall_made rfl (Finds.mono hsp fun r st h=>?_)|refine gK ?_)
    all_goals (try (conv=>whnf))
    obtain ⟨rfl,rfl⟩:=h
    refine ⟨rfl,?_⟩
    refine vback_f (.cons (shr_row (encTs_pure _ 6)) .nil) rfl ?_
    have hrl:Nat.beq (r.length + 1) (List.map encT (x :: r)).length=true:=by simp
    repeat' ((conv=>whnf);first|refine gT ?_|refine gF ?_|refine VIf.not ?_|refine gA ?_|refine gB ?_|refine VIf.dec (fun h=>?_) (fun h=>?_)|refine gC ?_|refine gD ?_|refine VIf.mk (fun h=>?_) (fun h=>?_)|refine gO ?_|refine gP ?_|refine VNat.mk _ rfl ?_|refine gV ?_|refine vret_pf rfl ?_|refine vret_take rfl rfl ?_|refine vres_str ?_|refine VOk.mk hrl ?_|refine gK ?_)
    all_goals (try (conv=>whnf))
    · refine loop_over (G:=Nat) (fun i=>[(12,iv i)]) (fun _=>_) (fun i=>i ≤ d.p.toNat∧(ls.length:Int)=d.p∧lvAll (ls.drop i) i=lvAll ls 0) (fun i=>d.p.toNat - i) 0 ⟨by omega,by omega,rfl⟩ rfl rfl ?_
      rintro i ⟨hi,hlp,hall1⟩
      dsimp only at hi hall1 ⊢
      repeat' ((conv=>whnf);first|refine gT ?_|refine gF ?_|refine VIf.not ?_|refine gA ?_|refine gB ?_|refine VIf.dec (fun h=>?_) (fun h=>?_)|refine gC ?_|refine gD ?_|refine VIf.mk (fun h=>?_) (fun h=>?_)|refine gO ?_|refine gP ?_|refine VNat.mk _ rfl ?_|refine gV ?_|refine vret_pf rfl ?_|refine vret_take rfl rfl ?_|refine gK ?_)
      all_goals (try (conv=>whnf))
      · have hi':i < ls.length:=by omega
        obtain ⟨lc,hlc⟩:∃ lc,ls[i]? = some lc:=⟨_,List.getElem?_eq_getElem hi'⟩
        obtain ⟨lv,hlv,hll⟩:=hxs.at hlc
        have hsl:=up4 rfl (SameLevel_can lc lv hll _ _ (lvP_par i))
        rw [lvAll_drop hlc] at hall1
        obtain ⟨q1,q2,q3,q4,q5,q6,rfl,rfl,-⟩:=hll.open
        repeat' ((conv=>whnf);first|refine gT ?_|refine gF ?_|refine VIf.not ?_|refine gA ?_|refine gB ?_|refine VIf.dec (fun h=>?_) (fun h=>?_)|refine gC ?_|refine gD ?_|refine VIf.mk (fun h=>?_) (fun h=>?_)|refine gO ?_|refine gP ?_|refine VNat.mk _ rfl ?_|refine gV ?_|refine vret_pf rfl ?_|refine vret_take rfl rfl ?_|refine VIdx.mk _ hlv ?_|refine VOk.mk (szOk_of rfl hz) ?_|refine vcall_pf hsl rfl rfl ?_|refine finds_pf hsl (fun _=>?_)|refine gK ?_)
        all_goals (try (conv=>whnf))
        · exact VAgain.mk _ rfl _ (gc_same rfl) ⟨i + 1,⟨by omega,hlp,by rw [← hall1]; simp_all⟩,by omega,rfl⟩
        · exact hbad (by rw [hE2]; unfold hdOk; rw [← hall1]; simp_all)
      have hlv1:lvAll ls 0=true:=by rw [← hall1,List.drop_of_length_le (by omega),lvAll]
      refine loop_over (G:=Nat) (fun j=>[(13,iv j)]) (fun _=>_) (fun j=>j ≤ r.length + 1∧okAll d.nm fx deep ((x :: r).drop j) j=okAll d.nm fx deep (x :: r) 0) (fun j=>r.length + 1 - j) 0 ⟨by omega,rfl⟩ rfl rfl ?_
      rintro j ⟨hj,hall2⟩
      dsimp only at hj hall2 ⊢
      by_cases hj':j < (x :: r).length
      · obtain ⟨tc,htc⟩:∃ tc,(x :: r)[j]? = some tc:=⟨_,List.getElem?_eq_getElem hj'⟩
        have hv:(List.map encT (x :: r))[j]? = some (encT tc):=by rw [List.getElem?_map,htc]; rfl
        have hs:=(hst18 tc (List.mem_of_getElem? htc)).2
        rw [hfn] at hs
        obtain ⟨k3,n3,s3,b3,z3,x3,c3,y3,ys3,he3⟩:=encT_open tc
        rw [he3] at hv hs
        rw [okAll_drop htc,okA] at hall2
        have hk3:tc.kind=k3∧tc.num=n3:=by
          cases tc with
          |mk q1 q2 q3 q4 q5 =>
            unfold encT at he3
            injection he3 with he3
            injection he3 with he4 he5
            injection he5 with he5 he6
            exact ⟨show q1=k3 by simpa [iv] using he4,show q2=n3 by simpa [iv] using he5⟩
        have hno:(if j < fx then (decide (tc.kind=1) && decide (tc.num=deep - 1 - (j:Int))) else !stF d.nm tc)=false→eb=false:=fun e=>by rw [hE2,← hall2,e]; simp
        have hon:(if j < fx then (decide (tc.kind=1) && decide (tc.num=deep - 1 - (j:Int))) else !stF d.nm tc)=true→okAll d.nm fx deep ((x :: r).drop (j + 1)) (j + 1)=okAll d.nm fx deep (x :: r) 0:=fun e=>by rw [← hall2,e]; simp
        have hjb:Nat.blt j (r.length + 1)=true:=by simpa [Nat.blt_eq] using hj'
        have hj2:j + 1 ≤ r.length + 1:=hj'
        repeat' ((conv=>whnf);first|refine gT ?_|refine gF ?_|refine VIf.not ?_|refine gA ?_|refine gB ?_|refine VIf.dec (fun h=>?_) (fun h=>?_)|refine gC ?_|refine gD ?_|refine VIf.mk (fun h=>?_) (fun h=>?_)|refine gO ?_|refine gP ?_|refine VNat.mk _ rfl ?_|refine gV ?_|refine vret_pf rfl ?_|refine vret_take rfl rfl ?_|refine VOk.mk hrl ?_|refine VOk.mk (by rw [hrl,hjb]; rfl) ?_|refine VIdx.mk _ hv ?_|refine vcall_pf hs rfl rfl ?_|refine finds_pf hs (fun _=>?_)|refine gK ?_)
        all_goals (try (conv=>whnf))
        all_goals try (exfalso; omega)
        all_goals first
          |exact hbad (hno (by rw [if_pos (by omega)]; simp_all))
          |exact hbad (hno (by rw [if_neg (by omega)]; simp_all [stF]))
          |exact VAgain.mk _ rfl _ (gc_same rfl) ⟨j + 1,⟨hj2,hon (by rw [if_pos (by omega)]; simp_all)⟩,by omega,rfl⟩
          |exact VAgain.mk _ rfl _ (gc_same rfl) ⟨j + 1,⟨hj2,hon (by rw [if_neg (by omega)]; simp_all [stF])⟩,by omega,rfl⟩
      · have hj3:¬ j < r.length + 1:=hj'
        repeat' ((conv=>whnf);first|refine gT ?_|refine gF ?_|refine VIf.not ?_|refine gA ?_|refine gB ?_|refine VIf.dec (fun h=>?_) (fun h=>?_)|refine gC ?_|refine gD ?_|refine VIf.mk (fun h=>?_) (fun h=>?_)|refine gO ?_|refine gP ?_|refine VNat.mk _ rfl ?_|refine gV ?_|refine vret_pf rfl ?_|refine vret_take rfl rfl ?_|refine VOk.mk hrl ?_|refine gK ?_)
        all_goals (try (conv=>whnf))
        all_goals try (exfalso; omega)
        have heb:eb=true:=by
          rw [hE2,← hall2,List.drop_of_length_le (by simp only [List.length_cons]; omega)]
          unfold hdOk okAll
          simp_all
        subst heb
        have hfl:fx ≤ (List.map encT (x :: r)).length:=by simp only [List.length_map,List.length_cons]; omega
        refine vcActs_slice (C:=C4) (T:=23) (id:=2) (lo':=some (iv (fx:Int))) (hi':=none) (mx':=none) rfl rfl hrl (encTs_pure _ _) rfl rfl rfl (szOk_of rfl (.inl rfl)) (sliceP_from hfl) ?_
        conv=>whnf
        repeat' ((conv=>whnf);first|refine gT ?_|refine gF ?_|refine VIf.not ?_|refine gA ?_|refine gB ?_|refine VIf.dec (fun h=>?_) (fun h=>?_)|refine gC ?_|refine gD ?_|refine VIf.mk (fun h=>?_) (fun h=>?_)|refine gO ?_|refine gP ?_|refine VNat.mk _ rfl ?_|refine gV ?_|refine vret_pf rfl ?_|refine vret_take rfl rfl ?_|refine gK ?_)
        all_goals (try (conv=>whnf))
        refine ⟨_,_,_,.inl rfl,fun e=>?_,rfl⟩
        rw [hE1 e,List.take_length,← List.map_drop]
        exact tmsP_enc fun a ha=>(hst18 a (List.mem_of_mem_drop ha)).1
    all_goals exact hbad (by rw [hE2]; unfold hdOk; simp_all)
end Go.Proofs.YtehhihdahalfeaaGreatDoor
namespace Go.Proofs.YtehhihdahalfeaaGreatDoor
open Go Go.Am Go.Gw
theorem spF_siz (t:Tm):∀ a ∈ (spF t).2,sizT a ≤ sizT t:=by
  induction t using Tm.ind with
  |_ k n s ls ts ih =>
  unfold spF
  split
  · rename_i f a
    split
    · have h1:=ih f (by simp)
      intro b hb
      simp only [sizT,sizTs]
      rcases List.mem_cons.1 hb with rfl|hb
      · omega
      · have:=h1 b hb
        omega
    · intro b hb
      simp at hb
  · intro b hb
    simp at hb
theorem args_any {t:Tm} {p kk:Int} (h:allT t p kk=true) (hp:p ≤ 4) (hk:kk ≤ 1125899906842624) (hs:sizT t ≤ 2000):∀ a ∈ argsF t,anyT a=true:=fun a ha=>by
  have ha':a ∈ (spF t).2:=by simpa [argsF] using ha
  exact any_of ((spF_all t p kk h).1 a ha') hp hk (Nat.le_trans (spF_siz t a ha') hs)
set_option maxHeartbeats 2000000 in
set_option maxRecDepth 100000 in
theorem arms18_can (d:Dc) (v:PV) (h:DcP d v) (t:Tm) (w:PV) (hT:TmP t w) (deep idx:Int) (hfx:0 ≤ d.fx∧d.fx ≤ 16) (hidx:0 ≤ idx∧idx ≤ 16) (hd:0 ≤ deep∧deep ≤ 1000) (hp:0 ≤ d.p∧d.p ≤ 4) {p kk:Int} (hall:allT t p kk=true) (hp4:p ≤ 4) (hkk:kk + depT t ≤ 1125899906842624) (hsz:sizT t ≤ 2000) :
    Pf C4 64 [v,w,iv deep,iv idx] [iv (armsF d.nm (selfD d) d.fx idx deep t).1,bv (armsF d.nm (selfD d) d.fx idx deep t).2]:=by
  have hst:∀ (a:Tm) (u:PV),TmP a u→anyT a=true→Pf C4 109 [v,u] [bv (stF d.nm a)]:=fun a u ha h1=>by
    rw [stF_18 h1]
    exact up4 rfl (stands18_can a u ha d v h)
  have hdz:=dep_siz t
  have hs0:=hst t w hT (any_of hall hp4 (by omega) hsz)
  have hen:=fun (a:Tm) (u:PV) (q:Int) (ha:TmP a u) (hq:0 ≤ q∧q ≤ 1000000) (kk:Int) (h1:allT a p kk=true) (h2:kk ≤ 1125899906842624) (h3:sizT a ≤ 2000)=>end18_can d v h a u ha q idx hfx hidx hq hp h1 (by have:=spF_dep a; have:=dep_siz a; omega) (args_any h1 hp4 h2 h3)
  obtain ⟨a1,a2,a3,a4,a5,a6,a7,a8,a9,b1,b2,b3,b4,b5,b6,b7,b8,b9,cb,cz,cx,rfl,hty,hvl,hz',hxs',hlen'⟩:=h.parts
  obtain ⟨k0,nn0,s0,ls0,ts0,b0,z0,xs0,c0,y0,ys0,rfl,rfl,-⟩:=hT.open
  refine run_intro Tryz.func64 rfl rfl rfl ?_
  repeat' ((conv=>whnf);first|refine gT ?_|refine gF ?_|refine VIf.not ?_|refine gA ?_|refine gB ?_|refine VIf.dec (fun h=>?_) (fun h=>?_)|refine gC ?_|refine gD ?_|refine VIf.mk (fun h=>?_) (fun h=>?_)|refine gO ?_|refine gP ?_|refine VNat.mk _ rfl ?_|refine gV ?_|refine vret_pf rfl ?_|refine vret_take rfl rfl ?_|refine vcall_pf hs0 rfl rfl ?_|refine finds_pf hs0 (fun _=>?_)|refine gK ?_)
  all_goals (try (conv=>whnf))
  · have hsT:stF d.nm (.mk k0 nn0 s0 ls0 ts0)=true:=by simp_all [stF]
    have hF:armsF d.nm (selfD d) d.fx idx deep (.mk k0 nn0 s0 ls0 ts0)=armsL d.nm (selfD d) d.fx idx deep (.mk k0 nn0 s0 ls0 ts0) 0:=by rw [armsF,if_pos hsT]
    refine loop_over (G:=Tm × PV × Nat) (fun g=>[(10,iv g.2.2)]) (fun g=>[.box 46 [iv d.k,iv d.p,sv d.nm,iv a1,iv a2,sv a3,.sl a4 a5 a6,.sl a7 a8 a9,iv b1,iv b2,sv b3,.sl b4 b5 b6,.sl b7 b8 b9,iv d.fx,.sl cb cz cx],.box 25 g.2.1.cells]) (fun g=>TmP g.1 g.2.1∧(∃ kk,allT g.1 p kk=true∧kk + depT g.1 ≤ 1125899906842624)∧sizT g.1 ≤ 2000∧g.2.2 + depT g.1 ≤ 2000∧armsL d.nm (selfD d) d.fx idx deep g.1 g.2.2=armsL d.nm (selfD d) d.fx idx deep (.mk k0 nn0 s0 ls0 ts0) 0) (fun g=>sizT g.1) (.mk k0 nn0 s0 ls0 ts0,.ag [iv k0,iv nn0,sv s0,.sl b0 z0 xs0,.sl c0 y0 ys0],0) ⟨hT,⟨_,hall,hkk⟩,hsz,by dsimp only; omega,rfl⟩ rfl rfl ?_
    rintro ⟨u,w,q⟩ ⟨hu,⟨kk,hall1,hk1⟩,hsz1,hdq,heq⟩
    dsimp only at hu hall1 hk1 hsz1 hdq heq ⊢
    obtain ⟨be,ze,xe,-,-,he⟩:=hen u w (deep + q) hu ⟨by omega,by omega⟩ kk hall1 (by omega) hsz1
    obtain ⟨k1,nn,s,ls,ts,b,z,xs,c,y,ys,rfl,rfl,hz,hxs,hlen,hbd1,hy,hys,hlen2,hbd2,hsl⟩:=hu.open
    simp only [PV.cells]
    repeat' ((conv=>whnf);first|refine gT ?_|refine gF ?_|refine VIf.not ?_|refine gA ?_|refine gB ?_|refine VIf.dec (fun h=>?_) (fun h=>?_)|refine gC ?_|refine gD ?_|refine VIf.mk (fun h=>?_) (fun h=>?_)|refine gO ?_|refine gP ?_|refine VNat.mk _ rfl ?_|refine gV ?_|refine vret_pf rfl ?_|refine vret_take rfl rfl ?_|refine vcall_pf he rfl rfl ?_|refine finds_pf he (fun _=>?_)|refine gK ?_)
    all_goals (try (conv=>whnf))
    · obtain rfl:k1=6:=h
      obtain ⟨a',b',rfl,ha',hb'⟩:=allT_two hall1 rfl
      obtain ⟨va,hva,hla⟩:=hys.at (by rfl:[a',b'][0]? = some a')
      obtain ⟨vb,hvb,hlb⟩:=hys.at (by rfl:[a',b'][1]? = some b')
      simp only [sizT,sizTs] at hsz1
      simp only [depT,depTs] at hdq hk1
      have hsa:=hst a' va hla (any_of ha' hp4 (by omega) (by omega))
      obtain ⟨k6,n6,s6,l6,t6,b6,z6,x6,c6,y6,ys6,rfl,rfl,-⟩:=hla.open
      obtain ⟨k2,n2,s2,l2,t2,b2,z2,x2,c2,y2,ys2,rfl,rfl,-⟩:=hlb.open
      simp only [depT] at hk1 hdq
      simp only [sizT] at hsz1
      rw [armsL_pi] at heq
      repeat' ((conv=>whnf);first|refine gT ?_|refine gF ?_|refine VIf.not ?_|refine gA ?_|refine gB ?_|refine VIf.dec (fun h=>?_) (fun h=>?_)|refine gC ?_|refine gD ?_|refine VIf.mk (fun h=>?_) (fun h=>?_)|refine gO ?_|refine gP ?_|refine VNat.mk _ rfl ?_|refine gV ?_|refine vret_pf rfl ?_|refine vret_take rfl rfl ?_|refine VIdx.mk _ hva ?_|refine VIdx.mk _ hvb ?_|refine VOk.mk (szOk_of rfl hy) ?_|refine vcall_pf hsa rfl rfl ?_|refine finds_pf hsa (fun _=>?_)|refine gK ?_)
      all_goals (try (conv=>whnf))
      · rw [hF,← heq,if_pos (by simpa [stF] using (by assumption:_ ∈ ConstsF _))]
      · rw [if_neg (by simpa [stF] using (by assumption:¬ _ ∈ ConstsF _))] at heq
        exact VAgain.mk _ rfl _ (gc_take rfl rfl rfl) ⟨(.mk k2 n2 s2 l2 t2,.ag [iv k2,iv n2,sv s2,.sl b2 z2 x2,.sl c2 y2 ys2],q + 1),⟨hlb,⟨_,hb',by simp only [depT]; omega⟩,by simp only [sizT]; omega,by simp only [depT]; omega,heq⟩,by simp only [sizT,sizTs]; omega,rfl⟩
    all_goals rw [armsL_end (by assumption)] at heq
    · rw [hF,← heq,if_pos (by simp_all)]
    · rw [hF,← heq,if_neg (by simp_all)]
  · rw [armsF,if_neg (by simp_all [stF])]
end Go.Proofs.YtehhihdahalfeaaGreatDoor
