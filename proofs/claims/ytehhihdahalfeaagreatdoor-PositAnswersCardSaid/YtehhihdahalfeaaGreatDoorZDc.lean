/-
  What is known of a family ahead of its constructors (posit.begin). No statement of the seat.
-/
import Derived.Test.YtehhihdahalfeaaGreatDoorZDi
import Derived.Test.YtehhihdahalfeaaGreatDoorZLj
set_option linter.unusedVariables false
set_option linter.unusedSimpArgs false
set_option linter.unnecessarySimpa false
namespace Go.Proofs.YtehhihdahalfeaaGreatDoor
open Go Go.Am Go.Gw
/-- the types that a term's first Pis bind, and what is behind them -/
def piF:Tm→List Tm × Tm
  | .mk k n s ls ts=>match ts with
    |[a,b]=>if k=6 then (a :: (piF b).1,(piF b).2) else ([],.mk k n s ls [a,b])
    |ts=>([],.mk k n s ls ts)
theorem piF_pi {n:Int} {s:List UInt8} {ls:List Lv} {a b:Tm}:piF (.mk 6 n s ls [a,b])=(a :: (piF b).1,(piF b).2):=by rw [piF,if_pos rfl]
theorem piF_off {k n:Int} {s:List UInt8} {ls:List Lv} {ts:List Tm} (h:¬ k=6):piF (.mk k n s ls ts)=([],.mk k n s ls ts):=by
  unfold piF
  split
  · rw [if_neg h]
  · rfl
theorem allT_two {k n:Int} {s:List UInt8} {ls:List Lv} {ts:List Tm} {p kk:Int} (h:allT (.mk k n s ls ts) p kk=true) (hk:k=6):∃ a b,ts=[a,b]∧allT a p kk=true∧allT b p (kk + 1)=true:=by
  subst hk
  obtain ⟨hk17,hlenk,hnode,-,hats⟩:=allT_parts h
  rw [shArgs,if_pos (by omega)] at hlenk
  match ts,hlenk,hats with
  |[a,b],_,hats =>
    have ha:=allTs_at hats (by rfl:[a,b][0]? = some a)
    have hb:=allTs_at hats (by rfl:[a,b][1]? = some b)
    refine ⟨a,b,rfl,?_,?_⟩
    · simpa [innerF,shBinds] using ha
    · simpa [innerF,shBinds] using hb
  |[],h,_=>simp at h
  |[_],h,_=>simp at h
  |_ :: _ :: _ :: _,h,_=>simp at h; omega
theorem piF_split:∀ (t:Tm),splitF 6 (piF t).1.length t=some (piF t)
  | .mk k n s ls ts=>by
    by_cases hk:k=6
    · subst hk
      match ts with
      |[a,b] =>
        rw [piF_pi,List.length_cons,splitF,if_pos rfl,piF_split b]
        rfl
      |[]=>rfl
      |[_]=>rfl
      |_ :: _ :: _ :: _=>rfl
    · rw [piF_off hk]
      rfl
theorem piF_count:∀ (t:Tm) (p kk:Int),allT t p kk=true→p ≤ 4→kk + depT t ≤ 1125899906842624→sizT t ≤ 2000→countR 6 t=(piF t).1.length
  | .mk k n s ls ts,p,kk,h,hp,hkk,hnd=>by
    have hany:anyT (.mk k n s ls ts)=true:=by
      have h5:=allT_more hp (Int.le_refl _) _ _ h
      have h6:=allT_mono _ 4 _ 1125899906842624 h5 (by omega)
      have h7:nodesT (.mk k n s ls ts) ≤ 2000:=by rw [nodesT_eq]; omega
      simp [anyT,rightT,h6,h7]
    by_cases hk:k=6
    · obtain ⟨a,b,rfl,ha,hb⟩:=allT_two h hk
      subst hk
      simp only [depT,depTs] at hkk
      simp only [sizT,sizTs] at hnd
      rw [piF_pi,countR,if_pos (by rw [hany]; rfl),piF_count b p (kk + 1) hb hp (by omega) (by omega)]
      rfl
    · rw [piF_off hk,countR_off]
      · rfl
      · rw [hany]
        simp [hk,Tm.kind]
theorem piF_body:∀ (t:Tm) (p kk:Int),allT t p kk=true→allT (piF t).2 p (kk + (piF t).1.length)=true∧¬ (piF t).2.kind=6
  | .mk k n s ls ts,p,kk,h=>by
    by_cases hk:k=6
    · obtain ⟨a,b,rfl,ha,hb⟩:=allT_two h hk
      subst hk
      have:=piF_body b p (kk + 1) hb
      rw [piF_pi]
      refine ⟨?_,this.2⟩
      have e:kk + ((a :: (piF b).1).length:Int)=kk + 1 + (piF b).1.length:=by simp; omega
      rw [e]
      exact this.1
    · rw [piF_off hk]
      exact ⟨by simpa using h,hk⟩
theorem piF_siz:∀ (t:Tm),sizT (piF t).2 + (piF t).1.length ≤ sizT t∧(∀ a ∈ (piF t).1,sizT a ≤ sizT t)
  | .mk k n s ls ts=>by
    by_cases hk:k=6
    · subst hk
      match ts with
      |[a,b] =>
        have:=piF_siz b
        rw [piF_pi]
        simp only [sizT,sizTs,List.length_cons]
        refine ⟨by omega,fun c hc=>?_⟩
        rcases List.mem_cons.1 hc with rfl|hc
        · omega
        · have:=this.2 c hc
          omega
      |[]=>simp [piF]
      |[_]=>simp [piF]
      |_ :: _ :: _ :: _=>simp [piF]
    · rw [piF_off hk]
      simp
theorem piF_w:∀ (t:Tm),TmW t→TmW (piF t).2∧∀ a ∈ (piF t).1,TmW a
  | .mk k n s ls ts,h=>by
    by_cases hk:k=6
    · subst hk
      match ts with
      |[a,b] =>
        have:=piF_w b ((TmW.args h).1 b (by simp))
        rw [piF_pi]
        refine ⟨this.1,fun c hc=>?_⟩
        rcases List.mem_cons.1 hc with rfl|hc
        · exact (TmW.args h).1 _ (by simp)
        · exact this.2 c hc
      |[]=>simpa [piF] using h
      |[_]=>simpa [piF] using h
      |_ :: _ :: _ :: _=>simpa [piF] using h
    · rw [piF_off hk]
      exact ⟨h,fun a ha=>by simp at ha⟩
def Tm.levels:Tm→List Lv
  | .mk _ _ _ ls _=>ls
theorem sort_level {t:Tm} {p kk:Int} (h:allT t p kk=true) (hk:t.kind=2):∃ l,Tm.levels t=[l]:=by
  obtain ⟨k,n,s,ls,ts⟩:=t
  obtain ⟨-,-,hnode,-,-⟩:=allT_parts h
  have hk:k=2:=hk
  subst hk
  simp [nodeT,shLevels] at hnode
  match ls,hnode with
  |[l],_=>exact ⟨l,rfl⟩
  |[],h=>simp at h
  |_ :: _ :: _,h=>simp at h; omega
/-- the family at its own parameters -/
def parL (p:Nat):List Lv:=(List.range p).map fun (i:Nat)=>.mk 2 (i:Int) []
def selfD (d:Dc):Tm:=.mk 3 0 d.nm (parL d.p.toNat) []
def idxD (d:Dc):Int:=((piF d.ty).1.length:Int) - d.fx
def lvD (d:Dc):Lv:=(Tm.levels (piF d.ty).2).headD (.mk 0 0 [])
/-- what is wrong with a family ahead of its constructors; 0: nothing -/
def frontD (d:Dc):Int :=
  if ¬ (formedF d=true∧d.k=5) then 10
  else if 4 ≤ d.p∨16 < (piF d.ty).1.length then 15
  else if aptGo [] (namesD d)=false then 14
  else if ((piF d.ty).1.length:Int) < d.fx∨¬ (piF d.ty).2.kind=2 then 19
  else 0
def famZ0:PV:=.ag [iv 0,iv 0,iv 0,.sl true 0 [],.sl true 0 []]
def famV (d:Dc):PV:=.ag (iv (idxD d) :: ((encL (lvD d)).cells ++ [.sl true 0 []]))
def beginV (d:Dc) (M:PV):List PV:=if frontD d=0 then [M,famV d,iv 0] else [.sc (.pointer none),famZ0,iv (frontD d)]
set_option maxRecDepth 100000 in
theorem param_can (i:Int):Pf C1 100 [iv i] [encL (.mk 2 i [])]:=by
  refine run_intro Tryz.func100 rfl rfl rfl ?_
  repeat' ((conv=>whnf);first|refine gT ?_|refine gF ?_|refine VIf.not ?_|refine gA ?_|refine gB ?_|refine VIf.dec (fun h=>?_) (fun h=>?_)|refine gC ?_|refine gD ?_|refine VIf.mk (fun h=>?_) (fun h=>?_)|refine gO ?_|refine gP ?_|refine VNat.mk _ rfl ?_|refine gV ?_|refine vret_pf rfl ?_|refine vret_take rfl rfl ?_|refine gK ?_)
  all_goals (try (conv=>whnf))
  rfl
theorem pubV_fz {C:Cfg} {n id:Nat} {T T':TypeId} {cs cs' cs'':List PV} {st st':Sto} (hst:st[id]? = some (.box T cs)) (hf:C.fz T=true) (h:mapS (pubV C n) cs st=some (cs',st')) (ho:st'[id]? = some (.box T' cs'')):pubV C (n + 1) (.bp id 0) st=some (frzV cs',st'.set id (.frz cs')):=by
  simp only [pubV,hst,hf,h,ho]
theorem parL_P:∀ n:Nat,∀ l:List Nat,(∀ i ∈ l,i ≤ n)→n ≤ 1000→LvsP (l.map fun (i:Nat)=>Lv.mk 2 (i:Int) []) ((l.map fun (i:Nat)=>Lv.mk 2 (i:Int) []).map encL)
  |n,[],_,_=>by simp only [List.map_nil,LvsP]
  |n,i :: r,h,hn=>by
    simp only [List.map_cons,LvsP]
    refine ⟨_,_,rfl,?_,parL_P n r (fun j hj=>h j (by simp [hj])) hn⟩
    have:=h i (by simp)
    simp only [LvP,encL]
    exact ⟨_,_,_,rfl,.inr rfl,by simp only [LvsP],by simp⟩
theorem self_P (nm:List UInt8) (n:Nat) (hn:n ≤ 100) (hnm:nm.length ≤ 140737488355328) (b:Bool) (z:Nat) (xs:List PV) (h:encLv (parL n) = .sl b z xs):TmP (.mk 3 0 nm (parL n) []) (.ag [iv 3,iv 0,sv nm,.sl b z xs,.sl true 0 []]):=by
  have hp:=parL_P n (List.range n) (fun i hi=>by have:=List.mem_range.1 hi; omega) (by omega)
  have hx:xs=(parL n).map encL∧(z=3∨xs=[]):=by
    cases hl:parL n with
    |nil =>
      rw [hl] at h
      injection h with h1 h2 h3
      exact ⟨h3.symm,.inr h3.symm⟩
    |cons d r =>
      rw [hl] at h
      have h:PV.sl false 3 (encLs (d :: r)) = .sl b z xs:=h
      injection h with h1 h2 h3
      exact ⟨by rw [← h3,encLs_eq],.inl h2.symm⟩
  simp only [TmP]
  refine ⟨_,_,_,_,_,_,rfl,hx.2,?_,by simp [parL]; omega,.inr rfl,by simp only [TmsP],by simp,hnm,by unfold i64; omega⟩
  rw [hx.1]
  exact hp
/-- the store while the family's parameters are put -/
def paS (c x:SO) (nm:List UInt8):Nat→Sto
  |0=>[c,.box 53 [iv 0,iv 0,iv 0,.sl true 0 [],.sl true 0 []],x,.box 25 [iv 3,iv 0,sv nm,.sl true 0 [],.sl true 0 []]]
  |i + 1=>[c,.box 53 [iv 0,iv 0,iv 0,.sl true 0 [],.sl true 0 []],x,.box 25 [iv 3,iv 0,sv nm,.ms 4 (i + 1),.sl true 0 []],.row false 50 3 ((parL (i + 1)).map encL)]
theorem formedD {d:Dc} (h:formedF d=true):(nameF d.nm=true∧rightT d.ty d.p 0=true)∧(d.k=5→(0 ≤ d.fx∧d.fx ≤ 16)∧d.cs.length ≤ 8∧∀ c ∈ d.cs,nameF c.1=true∧rightT c.2 d.p 0=true):=by
  unfold formedF at h
  split at h
  · rename_i hc
    simp only [Bool.and_eq_true,decide_eq_true_eq] at hc
    refine ⟨hc.2,fun hk=>?_⟩
    rw [if_pos hk] at h
    simp only [Bool.and_eq_true,decide_eq_true_eq,Bool.not_eq_true',List.any_eq_false] at h
    obtain ⟨-,h1,h2,h3,h4⟩:=h
    refine ⟨⟨h1,h2⟩,h3,fun c hc=>?_⟩
    have:=h4 c hc
    simpa [wrongC] using this
  · cases h
theorem apart_can (b:Bool) (l:List (List UInt8)) (h1:l.length ≤ 1000) (h2:∀ s ∈ l,s.length ≤ 1000):Pf C1 98 [.sl b 1 (svs l)] [bv (aptGo [] l)]:=pf_nat (F:=apartF) rfl (by
  have e:(l.map fun s=>(⟨s.toArray⟩:ByteArray)).map bl=l:=by
    rw [List.map_map]
    exact (List.map_congr_left (fun s _=>by simp [bl])).trans (List.map_id l)
  unfold apartF
  simp only [mapO_svs]
  have c1:Nat.ble (l.map fun s=>(⟨s.toArray⟩:ByteArray)).length 1000000000=true:=Nat.ble_eq_true_of_le (by simp; omega)
  have c2:((l.map fun s=>(⟨s.toArray⟩:ByteArray)).all fun s=>Nat.ble (bl s).length 1000000000)=true:=by
    rw [List.all_eq_true]
    intro s hs
    obtain ⟨t,ht,rfl⟩:=List.mem_map.1 hs
    exact Nat.ble_eq_true_of_le (by have:=h2 t ht; simp [bl]; omega)
  rw [c1,c2,e]
  rfl)
theorem namesD_small {d:Dc} (hn:nameF d.nm=true) (hc:d.cs.length ≤ 8) (hcs:∀ c ∈ d.cs,nameF c.1=true):(namesD d).length ≤ 1000∧∀ s ∈ namesD d,s.length ≤ 1000:=by
  have h1:=nameF_len hn
  have hrec:(recF d.nm).length ≤ 1000:=by
    unfold recF
    split
    · simp; omega
    · simp
  unfold namesD
  split
  · refine ⟨by simp; omega,fun s hs=>?_⟩
    rcases List.mem_cons.1 hs with rfl|hs
    · omega
    · rcases List.mem_append.1 hs with hs|hs
      · obtain ⟨c,hc1,rfl⟩:=List.mem_map.1 hs
        have:=nameF_len (hcs c hc1)
        omega
      · rw [List.mem_singleton] at hs
        subst hs
        exact hrec
  · exact ⟨by simp,fun s hs=>by rw [List.mem_singleton] at hs; subst hs; omega⟩
set_option maxHeartbeats 4000000 in
set_option maxRecDepth 100000 in
theorem begin_can (d:Dc) (v:PV) (h:DcP d v) (hcs:d.cs.length ≤ 1000000):∃ M,(frontD d=0→MkP d.nm d.p d.fx (idxD d) (selfD d) M)∧Pf C1 58 [v] (beginV d M):=by
  suffices key:Finds C1 58 [v] [] fun r _=>∃ M,(frontD d=0→MkP d.nm d.p d.fx (idxD d) (selfD d) M)∧r = .ret (beginV d M) by
    obtain ⟨r,st',⟨M,hM,rfl⟩,N,hN⟩:=key
    exact ⟨M,hM,_,st',rfl,N,hN⟩
  have hfo:=Formed_can d v h
  obtain ⟨nb,hnn⟩:=namesD_can d v h hcs
  have hfd:=fun e=>formedD (d:=d) e
  have hv0:∀ e,frontD d=e→e ≠ 0→∃ M,(frontD d=0→MkP d.nm d.p d.fx (idxD d) (selfD d) M)∧AEnd.ret [.sc (.pointer none),famZ0,iv e] = .ret (beginV d M):=fun e he h0=>by
    subst he
    exact ⟨default,fun e=>absurd e h0,by rw [beginV,if_neg h0]⟩
  obtain ⟨k,p,nm,ty,vl,fx,cs,a1,a2,a3,a4,a5,a6,a7,a8,a9,b1,b2,b3,b4,b5,b6,b7,b8,b9,cb,cz,cx,hty,hvl,hz,hxs,hlen,hnm,hk,hp,hfx⟩:=h
  have hcn:=Count_can ty _ hty 6
  have hsp:=fun n=>Split_can ty _ hty 6 n
  have hco:=Const_can nm true 0
  by_cases hc:¬ (formedF ⟨k,p,nm,ty,vl,fx,cs⟩=true∧k=5)
  · have hr:=hv0 10 (by rw [frontD,if_pos hc]) (by omega)
    refine run_intro Tryz.func58 rfl rfl rfl ?_
    repeat' ((conv=>whnf);first|refine gT ?_|refine gF ?_|refine VIf.not ?_|refine gA ?_|refine gB ?_|refine VIf.dec (fun h=>?_) (fun h=>?_)|refine gC ?_|refine gD ?_|refine VIf.mk (fun h=>?_) (fun h=>?_)|refine gO ?_|refine gP ?_|refine VNat.mk _ rfl ?_|refine gV ?_|refine vret_pf rfl ?_|refine vret_take rfl rfl ?_|refine vcall_pf hfo rfl rfl ?_|refine gK ?_)
    all_goals (try (conv=>whnf))
    · exact absurd ⟨by assumption,by omega⟩ hc
    · exact hr
    · exact hr
  · obtain ⟨hf,rfl⟩:=Decidable.not_not.1 hc
    obtain ⟨⟨hnr,hrt⟩,hk5⟩:=hfd hf
    obtain ⟨⟨hf0,hf1⟩,hcs8,hcsr⟩:=hk5 rfl
    have hap:=apart_can nb _ (namesD_small (d:=⟨5,p,nm,ty,vl,fx,cs⟩) hnr hcs8 (fun c hc=>(hcsr c hc).1)).1 (namesD_small (d:=⟨5,p,nm,ty,vl,fx,cs⟩) hnr hcs8 (fun c hc=>(hcsr c hc).1)).2
    dsimp only at hnr hrt hf0 hf1
    obtain ⟨hp4,-,hnd,hall⟩:=rightT_parts hrt
    rw [show min (0:Int) 1125899906842624=0 by omega] at hall
    have hany:=rightT_any hrt
    have hsz:=any_siz hany
    have hdp:=any_dep hany
    have hcnt:=piF_count ty p 0 hall hp4.2 (by omega) hsz
    have hbody:=piF_body ty p 0 hall
    have hsiz:=piF_siz ty
    have hspl:SplitF ty 6 ((piF ty).1.length:Int)=some (piF ty):=by
      rw [SplitF,if_pos (by rw [hany]; simp [binderB]),Int.toNat_natCast,piF_split]
    have hs1:=hsp ((piF ty).1.length:Int)
    rw [hspl] at hs1
    rw [hcnt] at hcn
    rw [hf] at hfo
    have hlv:lvD ⟨5,p,nm,ty,vl,fx,cs⟩=(Tm.levels (piF ty).2).headD (.mk 0 0 []):=rfl
    have hix:idxD ⟨5,p,nm,ty,vl,fx,cs⟩=((piF ty).1.length:Int) - fx:=rfl
    have hfr:frontD ⟨5,p,nm,ty,vl,fx,cs⟩=(if 4 ≤ p∨16 < (piF ty).1.length then 15
        else if aptGo [] (namesD ⟨5,p,nm,ty,vl,fx,cs⟩)=false then 14
        else if ((piF ty).1.length:Int) < fx∨¬ (piF ty).2.kind=2 then 19
        else 0):=by rw [frontD,if_neg (by simp [hf])]
    have hlv1:(piF ty).2.kind=2→∃ l,Tm.levels (piF ty).2=[l]:=sort_level hbody.1
    generalize piF ty=P at hcn hs1 hfr hbody hsiz hlv hix hlv1
    obtain ⟨l,body⟩:=P
    dsimp only at hcn hs1 hfr hbody hsiz hlv hix hlv1
    simp only [splitV] at hs1
    obtain ⟨bq,zq,hq,hzq⟩:=encTv_opn l
    obtain ⟨kb,nb1,sb,lb,tb⟩:=body
    obtain ⟨bl,zl,xl,hlb⟩:=encLv_open lb
    obtain ⟨bt,zt,xt,htb⟩:=encTv_open tb
    have heb:encT (.mk kb nb1 sb lb tb) = .ag [iv kb,iv nb1,sv sb,.sl bl zl xl,.sl bt zt xt]:=by rw [encT_mk,hlb,htb]
    rw [hq,heb] at hs1
    refine run_intro Tryz.func58 rfl rfl rfl ?_
    repeat' ((conv=>whnf);first|refine gT ?_|refine gF ?_|refine VIf.not ?_|refine gA ?_|refine gB ?_|refine VIf.dec (fun h=>?_) (fun h=>?_)|refine gC ?_|refine gD ?_|refine VIf.mk (fun h=>?_) (fun h=>?_)|refine gO ?_|refine gP ?_|refine VNat.mk _ rfl ?_|refine gV ?_|refine vret_pf rfl ?_|refine vret_take rfl rfl ?_|refine vcall_pf hfo rfl rfl ?_|refine vcall_pf hcn rfl rfl ?_|refine vcall_pf hs1 rfl rfl ?_|refine vcall_pf hnn rfl rfl ?_|refine vcall_pf hap rfl rfl ?_|refine vcall_pf hco rfl rfl ?_|refine gK ?_)
    all_goals (try (conv=>whnf))
    all_goals try exact hv0 15 (by rw [hfr,if_pos (by omega)]) (by omega)
    all_goals try exact hv0 14 (by rw [hfr,if_neg (by omega),if_pos (by assumption)]) (by omega)
    all_goals try exact hv0 19 (by rw [hfr,if_neg (by omega),if_neg (by simp_all),if_pos (by simp only [Tm.kind]; omega)]) (by omega)
    · obtain rfl:kb=2:=by omega
      obtain ⟨l0,hl0⟩:=hlv1 rfl
      simp only [Tm.levels] at hl0 hlv
      subst hl0
      rw [List.headD_cons] at hlv
      have hfr0:frontD ⟨5,p,nm,ty,vl,fx,cs⟩=0:=by rw [hfr,if_neg (by omega),if_neg (by simp_all),if_neg (by rintro (e|e); (· omega); exact e rfl)]
      refine loop_over (G:=Nat) (fun i=>[(62,iv i)]) (paS (.box 46 [iv 5,iv p,sv nm,iv a1,iv a2,sv a3,.sl a4 a5 a6,.sl a7 a8 a9,iv b1,iv b2,sv b3,.sl b4 b5 b6,.sl b7 b8 b9,iv fx,.sl cb cz cx]) (.box 25 [iv 2,iv nb1,sv sb,.sl bl zl xl,.sl bt zt xt]) nm) (fun i=>(i:Int) ≤ p) (fun i=>p.toNat - i) 0 (by omega) rfl rfl ?_
      intro i hi
      have hpa:=param_can i
      obtain ⟨q1,q2,q3,q4,q5,hq5⟩:∃ q1 q2 q3 q4 q5,encL (.mk 2 (i:Int) []) = .ag [iv q1,iv q2,.sl q3 q4 q5]:=⟨_,_,_,_,_,rfl⟩
      rw [hq5] at hpa
      have hsn:(parL (i + 1)).map encL=(parL i).map encL ++ [.ag [iv q1,iv q2,.sl q3 q4 q5]]:=by rw [← hq5]; simp [parL,List.range_succ]
      obtain ⟨rfl,rfl,rfl⟩:bl=false∧zl=3∧xl=[encL l0]:=by
        have:PV.sl false 3 [encL l0] = .sl bl zl xl:=hlb
        injection this with h1 h2 h3
        exact ⟨h1.symm,h2.symm,h3.symm⟩
      obtain ⟨r1,r2,r3,r4,r5,hr5⟩:=encL_open l0
      cases i with
      |zero =>
        simp only [paS]
        repeat' ((conv=>whnf);first|refine gT ?_|refine gF ?_|refine VIf.not ?_|refine gA ?_|refine gB ?_|refine VIf.dec (fun h=>?_) (fun h=>?_)|refine gC ?_|refine gD ?_|refine VIf.mk (fun h=>?_) (fun h=>?_)|refine gO ?_|refine gP ?_|refine VNat.mk _ rfl ?_|refine gV ?_|refine vret_pf rfl ?_|refine vret_take rfl rfl ?_|refine vcall_pf hpa rfl rfl ?_|refine finds_pf hpa (fun _=>?_)|refine VIdx.mk _ (show [encL l0][0]? = some (.ag [iv r1,iv r2,.sl r3 r4 r5]) by rw [hr5]; rfl) ?_|refine gK ?_)
        all_goals (try (conv=>whnf))
        · refine VAgain.mk _ rfl _ (gc_sh (.cons (sh_box rfl rfl) (.cons (sh_box rfl rfl) (.cons (sh_box rfl rfl) (.cons (sh_box rfl rfl) (.cons (sh_row rfl) .nil))))) (.cons (sh_box rfl rfl) (.cons (sh_box rfl rfl) (.cons (sh_box rfl rfl) (.cons (sh_box rfl rfl) (.cons (sh_row rfl) .nil))))) rfl rfl rfl rfl rfl) ⟨1,by omega,by omega,?_⟩
          dsimp only [paS]
          rw [hsn]
          rfl
        · obtain rfl:p=0:=by omega
          refine vret_pub rfl (mapS_cons rfl (mapS_cons rfl (mapS_cons rfl mapS_nil))) rfl ?_
          refine ⟨_,fun _=>.mk 5 (iv a1) (iv a2) (sv a3) (.sl a4 a5 a6) (.sl a7 a8 a9) (iv b1) (iv b2) (sv b3) (.sl b4 b5 b6) (.sl b7 b8 b9) (.sl cb cz cx) 3 0 nm true 0 [] true 0 [] (self_P nm 0 (by omega) hnm true 0 [] rfl),?_⟩
          rw [beginV,if_pos hfr0,famV,hix,hlv,hr5]
          rfl
      |succ i =>
        simp only [paS]
        have hl8:((parL (i + 1)).map encL).length=i + 1:=by simp [parL]
        have hp8:((parL (i + 1)).map encL ++ [PV.ag [iv q1,iv q2,.sl q3 q4 q5]]).all (pur 8)=true:=by
          rw [← hsn]
          exact encLs_pure _ 6
        repeat' ((conv=>whnf);first|refine gT ?_|refine gF ?_|refine VIf.not ?_|refine gA ?_|refine gB ?_|refine VIf.dec (fun h=>?_) (fun h=>?_)|refine gC ?_|refine gD ?_|refine VIf.mk (fun h=>?_) (fun h=>?_)|refine gO ?_|refine gP ?_|refine VNat.mk _ rfl ?_|refine gV ?_|refine vret_pf rfl ?_|refine vret_take rfl rfl ?_|refine vcall_pf hpa rfl rfl ?_|refine finds_pf hpa (fun _=>?_)|refine VIdx.mk _ (show [encL l0][0]? = some (.ag [iv r1,iv r2,.sl r3 r4 r5]) by rw [hr5]; rfl) ?_|refine VOk.mk (grow_ok (w:=40) (r:=140737488355328) hl8 rfl rfl rfl rfl (by simp only [List.length_cons,List.length_nil]; omega) (by simp only [List.length_cons,List.length_nil]; omega)) ?_|refine gK ?_)
        all_goals (try (conv=>whnf))
        · refine VAgain.mk _ rfl _ (gc_sh (.cons (sh_box rfl rfl) (.cons (sh_box rfl rfl) (.cons (sh_box rfl rfl) (.cons (sh_box rfl rfl) (.cons (sh_row hp8) .nil))))) (.cons (sh_box rfl rfl) (.cons (sh_box rfl rfl) (.cons (sh_box rfl rfl) (.cons (sh_box rfl rfl) (.cons (sh_row hp8) .nil))))) rfl rfl rfl rfl rfl) ⟨i + 1 + 1,by omega,by omega,?_⟩
          dsimp only [paS]
          rw [hsn]
          rfl
        · obtain rfl:p=((i + 1:Nat):Int):=by omega
          have hpar:(PV.sl false 3 ((parL (i + 1)).map encL))=encLv (parL (i + 1)):=by
            have:parL (i + 1) = .mk 2 0 [] :: (List.range i).map (fun (j:Nat)=>Lv.mk 2 ((j + 1:Nat):Int) []):=by simp [parL,List.range_succ_eq_map]
            rw [this,encLv,encLs_eq]
          refine vret_pub rfl (mapS_cons (pubV_fz rfl rfl (mapS_cons rfl (mapS_cons rfl (mapS_cons rfl (mapS_cons rfl (mapS_cons rfl (mapS_cons rfl (mapS_cons rfl (mapS_cons rfl (mapS_cons rfl (mapS_cons rfl (mapS_cons rfl (mapS_cons rfl (mapS_cons rfl (mapS_cons rfl (mapS_cons rfl (mapS_cons rfl (mapS_cons rfl (mapS_cons rfl (mapS_cons (pubV_row rfl (by simp [parL]) (encLs_pure _ 4)) (mapS_cons rfl (mapS_cons rfl mapS_nil))))))))))))))))))))) rfl) (mapS_cons rfl (mapS_cons rfl mapS_nil))) rfl ?_
          refine ⟨_,fun _=>.mk 5 (iv a1) (iv a2) (sv a3) (.sl a4 a5 a6) (.sl a7 a8 a9) (iv b1) (iv b2) (sv b3) (.sl b4 b5 b6) (.sl b7 b8 b9) (.sl cb cz cx) 3 0 nm false 3 ((parL (i + 1)).map encL) true 0 [] (self_P nm (i + 1) (by omega) hnm false 3 _ hpar.symm),?_⟩
          rw [beginV,if_pos hfr0,famV,hix,hlv,hr5]
          rfl
end Go.Proofs.YtehhihdahalfeaaGreatDoor
