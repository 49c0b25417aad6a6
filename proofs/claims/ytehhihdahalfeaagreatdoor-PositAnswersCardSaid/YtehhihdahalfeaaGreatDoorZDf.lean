/-
  A constructor's form (posit.maker.ctor), for any family. No statement of the seat.
-/
import Derived.Test.YtehhihdahalfeaaGreatDoorZDc
set_option linter.unusedVariables false
set_option linter.unusedSimpArgs false
set_option linter.unnecessarySimpa false
namespace Go.Proofs.YtehhihdahalfeaaGreatDoor
open Go Go.Am Go.Gw
/-- a constructor's form -/
structure Co where
  fs:List Tm
  tg:List Tm
  ar:List Int
def ints (l:List Int):List PV:=l.map fun n=>iv n
def CoP (c:Co) (v:PV):Prop:=∃ b z xs b' z' xs' b'' z'',v = .ag [.sl b z xs,.sl b' z' xs',.sl b'' z'' (ints c.ar)]∧(z=5∨xs=[])∧TmsP c.fs xs∧(z'=5∨xs'=[])∧TmsP c.tg xs'∧(z''=1∨c.ar=[])
/-- the arms of fields -/
def armsA (nm:List UInt8) (self:Tm) (fx idx:Int):List Tm→Int→Option (List Int)
  |[],_=>some []
  |t :: r,deep=>if (armsF nm self fx idx deep t).2=true then (armsA nm self fx idx r (deep + 1)).map fun l=>(armsF nm self fx idx deep t).1 :: l else none
def ctorF (nm:List UInt8) (self:Tm) (fx idx:Int) (t:Tm):Int × Co :=
  let P:=piF t
  let e:=endF nm self fx idx P.1.length P.2
  if (P.1.length:Int) < fx∨e.2=false then (18,⟨[],[],[]⟩)
  else if 16 < (P.1.drop fx.toNat).length then (15,⟨[],[],[]⟩)
  else match armsA nm self fx idx (P.1.drop fx.toNat) fx with
    |none=>(21,⟨[],[],[]⟩)
    |some l=>(0,⟨P.1.drop fx.toNat,e.1,l⟩)
mutual
theorem dep_siz:∀ t:Tm,depT t ≤ sizT t
  | .mk _ _ _ ls ts=>by
    have:=dep_sizs ts
    simp only [depT,sizT]
    omega
theorem dep_sizs:∀ ts:List Tm,depTs ts ≤ sizTs ts
  |[]=>by simp [depTs]
  |t :: r=>by
    have h1:=dep_siz t
    have h2:=dep_sizs r
    simp only [depTs,sizTs]
    omega
end
theorem any_of {t:Tm} {p kk:Int} (h:allT t p kk=true) (hp:p ≤ 4) (hk:kk ≤ 1125899906842624) (hs:sizT t ≤ 2000):anyT t=true:=by
  have h5:=allT_more hp (Int.le_refl _) _ _ h
  have h6:=allT_mono _ 4 _ 1125899906842624 h5 hk
  have h7:nodesT t ≤ 2000:=by rw [nodesT_eq]; omega
  simp [anyT,rightT,h6,h7]
theorem piF_dom:∀ (t:Tm) (p kk:Int),allT t p kk=true→p ≤ 4→kk + depT t ≤ 1125899906842624→sizT t ≤ 2000→∀ a ∈ (piF t).1,anyT a=true
  | .mk k n s ls ts,p,kk,h,hp,hk,hs=>by
    by_cases hk6:k=6
    · obtain ⟨a,b,rfl,ha,hb⟩:=allT_two h hk6
      subst hk6
      simp only [depT,depTs] at hk
      simp only [sizT,sizTs] at hs
      rw [piF_pi]
      intro c hc
      rcases List.mem_cons.1 hc with rfl|hc
      · exact any_of ha hp (by omega) (by omega)
      · exact piF_dom b p (kk + 1) hb hp (by omega) (by omega) c hc
    · rw [piF_off hk6]
      intro c hc
      simp at hc
theorem ctorF_eq {nm:List UInt8} {fx idx:Int} {self t:Tm}:ctorF nm self fx idx t=(if ((piF t).1.length:Int) < fx∨(endF nm self fx idx (piF t).1.length (piF t).2).2=false then ((18:Int),(⟨[],[],[]⟩:Co))
  else if 16 < ((piF t).1.drop fx.toNat).length then ((15:Int),(⟨[],[],[]⟩:Co))
  else match armsA nm self fx idx ((piF t).1.drop fx.toNat) fx with
    |none=>((21:Int),(⟨[],[],[]⟩:Co))
    |some l=>((0:Int),(⟨(piF t).1.drop fx.toNat,(endF nm self fx idx (piF t).1.length (piF t).2).1,l⟩:Co))):=rfl
theorem co_zero:CoP ⟨[],[],[]⟩ (.ag [.sl true 0 [],.sl true 0 [],.sl true 0 []]):=⟨_,_,_,_,_,_,_,_,rfl,.inr rfl,by simp only [TmsP],.inr rfl,by simp only [TmsP],.inr rfl⟩
def ctS (x y z:SO) (f g:PV):List Int→Sto
  |[]=>[x,y,z,.box 71 [f,g,.sl true 0 []]]
  |a :: r=>[x,y,z,.box 71 [f,g,.ms 5 (r.length + 1)],.dead,.row false 3 1 (ints (a :: r))]
theorem ints_pure (l:List Int) (n:Nat):(ints l).all (pur (n + 1))=true:=by
  rw [List.all_eq_true]
  intro x hx
  obtain ⟨y,-,rfl⟩:=List.mem_map.1 hx
  rfl
section
variable {nm:List UInt8} {p fx idx:Int} {self:Tm} {M:PV}
set_option maxHeartbeats 4000000 in
set_option maxRecDepth 100000 in
theorem ctor_can (hM:MkP nm p fx idx self M) (hfx:0 ≤ fx∧fx ≤ 16) (hidx:0 ≤ idx∧idx ≤ 16) (hp:p ≤ 4) (t:Tm) (v:PV) (hT:TmP t v) (hr:rightT t p 0=true) :
    ∃ w,CoP (ctorF nm self fx idx t).2 w∧Pf C1 59 [M,v] [w,iv (ctorF nm self fx idx t).1]:=by
  suffices key:Finds C1 59 [M,v] [] fun r _=>∃ w,CoP (ctorF nm self fx idx t).2 w∧r = .ret [w,iv (ctorF nm self fx idx t).1] by
    obtain ⟨r,st',⟨w,h1,rfl⟩,N,hN⟩:=key
    exact ⟨w,h1,_,st',rfl,N,hN⟩
  obtain ⟨hp4,-,hnd,hall⟩:=rightT_parts hr
  rw [show min (0:Int) 1125899906842624=0 by omega] at hall
  have hany:=rightT_any hr
  have hsz:=any_siz hany
  have hdp:=any_dep hany
  have hcnt:=piF_count t p 0 hall hp4.2 (by omega) hsz
  have hbody:=piF_body t p 0 hall
  have hsiz:=piF_siz t
  have hpw:=piF_w t hT.w
  have hspl:SplitF t 6 ((piF t).1.length:Int)=some (piF t):=by
    rw [SplitF,if_pos (by rw [hany]; simp [binderB]),Int.toNat_natCast,piF_split]
  have hs1:=Split_can t v hT 6 ((piF t).1.length:Int)
  have hcn:=Count_can t v hT 6
  rw [hspl] at hs1
  rw [hcnt] at hcn
  have hln:(piF t).1.length ≤ 2000:=by omega
  have hsw:=spF_w (piF t).2 hpw.1
  have hsd:=spF_dep (piF t).2
  have hdz:=dep_siz (piF t).2
  have hdom:=piF_dom t p 0 hall hp4.2 (by omega) hsz
  obtain ⟨eb,ez,ex,hez,hex,hen⟩:=end_can hM hfx hidx (piF t).1.length ⟨by omega,by omega⟩ (piF t).2 _ hpw.1 (fun a ha=>hsw.1 a (by simpa [argsF] using ha)) hsw.2 (by omega)
  have har:=fun (deep:Int) (h1:0 ≤ deep∧deep ≤ 1000) (a:Tm) (ha:a ∈ (piF t).1)=>arms_can hM hfx hidx deep h1 a (encT a) (hpw.2 a ha) (hdom a ha)
  have hcf:=ctorF_eq (nm:=nm) (fx:=fx) (idx:=idx) (self:=self) (t:=t)
  obtain ⟨k,a1,a2,a3,a4,a5,v1,v2,v3,v4,v5,cs,j1,j2,js,j3,j4,j5,j6,j7,j8,-⟩:=hM
  obtain ⟨f,rfl⟩:=Int.eq_ofNat_of_zero_le hfx.1
  rw [Int.toNat_natCast] at hcf
  generalize endF nm self (f:Int) idx (piF t).1.length (piF t).2=E at hex hen hcf
  obtain ⟨etg,eok⟩:=E
  have hpl:∀ a ∈ (piF t).1,TmW a:=hpw.2
  generalize piF t=P at hs1 hcn hen hcf har hln hdom hpl
  obtain ⟨l,body⟩:=P
  dsimp only at hs1 hcn hen hcf har hln hdom hex hpl
  simp only [splitV] at hs1
  obtain ⟨bq,zq,hq,hzq⟩:=encTv_opn l
  obtain ⟨kb,nb,sb,bb,zb,xb,cb,yb,yb2,heb⟩:=encT_open body
  rw [hq,heb] at hs1
  rw [heb] at hen
  have hql:(l.map encT).length=l.length:=by simp
  rw [← hql] at hen
  obtain ⟨k0,nn0,s0,ls0,ts0,b0,z0,xs0,c0,y0,ys0,rfl,rfl,-⟩:=hT.open
  refine run_intro Tryz.func59 rfl rfl rfl ?_
  repeat' ((conv=>whnf);first|refine gT ?_|refine gF ?_|refine VIf.not ?_|refine gA ?_|refine gB ?_|refine VIf.dec (fun h=>?_) (fun h=>?_)|refine gC ?_|refine gD ?_|refine VIf.mk (fun h=>?_) (fun h=>?_)|refine gO ?_|refine gP ?_|refine VNat.mk _ rfl ?_|refine gV ?_|refine vret_pf rfl ?_|refine vret_take rfl rfl ?_|refine vcall_pf hcn rfl rfl ?_|refine vcall_pf hs1 rfl rfl ?_|refine finds_pf hcn (fun _=>?_)|refine finds_pf hs1 (fun _=>?_)|refine vcall_pf hen rfl rfl ?_|refine VOk.mk (szOk_of rfl hzq) ?_|refine VNat.mk f rfl ?_|refine VOk.mk (show (Nat.ble (l.map encT).length (l.map encT).length && Nat.ble f (l.map encT).length)=true by simp; omega) ?_|refine gK ?_)
  all_goals (try (conv=>whnf))
  all_goals try exact ⟨_,by rw [hcf,if_pos (by simp only; omega)]; exact co_zero,by rw [hcf,if_pos (by simp only; omega)]; rfl⟩
  all_goals try exact ⟨_,by rw [hcf,if_pos (by simp_all)]; exact co_zero,by rw [hcf,if_pos (by simp_all)]; rfl⟩
  · have hl1:(List.drop f (List.take (l.map encT).length (l.map encT))).length=(l.drop f).length:=by simp
    have hgt:16 < (l.drop f).length:=by omega
    have hok:eok=true:=by assumption
    have hno:¬ (((l.length:Int) < f)∨eok=false):=by
      rintro (e|e)
      · omega
      · simp_all
    exact ⟨_,by rw [hcf,if_neg hno,if_pos hgt]; exact co_zero,by rw [hcf,if_neg hno,if_pos hgt]; rfl⟩
  · have hXl:(List.drop f (List.take (l.map encT).length (l.map encT))).length=(l.drop f).length:=by simp
    have hXe:List.drop f (List.take (l.map encT).length (l.map encT))=(l.drop f).map encT:=by rw [List.take_length,List.map_drop]
    have hle:(l.drop f).length ≤ 16:=by omega
    have hfl:f ≤ l.length:=by omega
    obtain rfl:eok=true:=by assumption
    have hcf1:ctorF nm self f idx (.mk k0 nn0 s0 ls0 ts0)=(match armsA nm self f idx (l.drop f) f with
        |none=>((21:Int),(⟨[],[],[]⟩:Co))
        |some q=>((0:Int),(⟨l.drop f,etg,q⟩:Co))):=by
      have hno:¬ (((l.length:Int) < f)∨true=false):=by
        rintro (e|e)
        · omega
        · simp_all
      rw [hcf,if_neg hno,if_neg (by omega)]
    have hXP:TmsP (l.drop f) (List.drop f (List.take (l.map encT).length (l.map encT))):=by
      rw [hXe]
      exact tmsP_enc fun a ha=>hpl a (List.mem_of_mem_drop ha)
    have hXz:zq=5∨List.drop f (List.take (l.map encT).length (l.map encT))=[]:=by
      rcases hzq with e|e
      · exact .inl e
      · rw [e]; exact .inr (by simp)
    have hmem:∀ a ∈ l.drop f,a ∈ l:=fun a ha=>List.mem_of_mem_drop ha
    generalize hFd:l.drop f=F at hXl hXe hle hcf1 hXP hmem
    generalize List.drop f (List.take (l.map encT).length (l.map encT))=X at hXl hXe hXP hXz ⊢
    refine loop_over (G:=List Int) (fun g=>[(62,iv g.length)]) (ctS (.box 25 [iv k0,iv nn0,sv s0,.sl b0 z0 xs0,.sl c0 y0 ys0]) (.box 71 [.sl true 0 [],.sl true 0 [],.sl true 0 []]) (.box 25 [iv kb,iv nb,sv sb,.sl bb zb xb,.sl cb yb yb2]) (.sl (bq && Nat.beq (l.map encT).length (l.map encT).length) zq X) (.sl eb ez ex)) (fun g=>g.length ≤ F.length∧(armsA nm self f idx (F.drop g.length) (f + g.length)).map (g ++ ·)=armsA nm self f idx F f) (fun g=>F.length - g.length) [] ⟨by simp,by simp⟩ rfl rfl ?_
    rintro g ⟨hi,hall⟩
    have hgl:g.length ≤ 16:=by omega
    have hstep:∀ a,F[g.length]? = some a→(armsF nm self f idx (f + g.length) a).2=true→(armsA nm self f idx (F.drop (g.length + 1)) (f + (g.length + 1))).map (fun q=>(g ++ [(armsF nm self f idx (f + g.length) a).1]) ++ q)=armsA nm self f idx F f:=fun a ha ht=>by
      rw [drop_at ha,armsA,if_pos ht,Option.map_map] at hall
      rw [← hall,show (f:Int) + g.length + 1=f + (g.length + 1) by omega]
      congr 1
      funext q
      simp
    have hfail:∀ a,F[g.length]? = some a→¬ (armsF nm self f idx (f + g.length) a).2=true→ctorF nm self f idx (.mk k0 nn0 s0 ls0 ts0)=(21,⟨[],[],[]⟩):=fun a ha ht=>by
      rw [drop_at ha,armsA,if_neg ht] at hall
      rw [hcf1,← hall]
      rfl
    have hdone:¬ g.length < F.length→ctorF nm self f idx (.mk k0 nn0 s0 ls0 ts0)=(0,⟨F,etg,g⟩):=fun hn=>by
      rw [List.drop_of_length_le (by omega),armsA] at hall
      rw [hcf1,← hall]
      simp
    have hbad:∀ {w:PV},ctorF nm self f idx (.mk k0 nn0 s0 ls0 ts0)=(21,⟨[],[],[]⟩)→∃ w,CoP (ctorF nm self f idx (.mk k0 nn0 s0 ls0 ts0)).2 w∧AEnd.ret [.ag [.sl true 0 [],.sl true 0 [],.sl true 0 []],iv 21] = .ret [w,iv (ctorF nm self f idx (.mk k0 nn0 s0 ls0 ts0)).1]:=fun {w} e=>⟨_,by rw [e]; exact co_zero,by rw [e]⟩
    cases g with
    |nil =>
      simp only [ctS]
      repeat' ((conv=>whnf);first|refine gT ?_|refine gF ?_|refine VIf.not ?_|refine gA ?_|refine gB ?_|refine VIf.dec (fun h=>?_) (fun h=>?_)|refine gC ?_|refine gD ?_|refine VIf.mk (fun h=>?_) (fun h=>?_)|refine gO ?_|refine gP ?_|refine VNat.mk _ rfl ?_|refine gV ?_|refine vret_pf rfl ?_|refine vret_take rfl rfl ?_|refine gK ?_)
      all_goals (try (conv=>whnf))
      · have h0:0 < F.length:=by
          rename_i h
          have h:(0:Int) < X.length:=h
          omega
        obtain ⟨a,ha⟩:∃ a,F[0]? = some a:=⟨_,List.getElem?_eq_getElem h0⟩
        have hx:X[0]? = some (encT a):=by rw [hXe,List.getElem?_map,ha]; rfl
        have hA:=har (f + (0:Nat)) ⟨by omega,by omega⟩ a (hmem a (List.mem_of_getElem? ha))
        have hst:=hstep a ha
        have hfa:=hfail a ha
        obtain ⟨kk,n9,s9,b9,z9,x9,c9,y9,ys9,he9⟩:=encT_open a
        rw [he9] at hx hA
        simp only [List.length_nil] at hst hfa
        generalize armsF nm self (f:Int) idx (f + ((0:Nat):Int)) a=R at hA hst hfa
        obtain ⟨rn,rb⟩:=R
        repeat' ((conv=>whnf);first|refine gT ?_|refine gF ?_|refine VIf.not ?_|refine gA ?_|refine gB ?_|refine VIf.dec (fun h=>?_) (fun h=>?_)|refine gC ?_|refine gD ?_|refine VIf.mk (fun h=>?_) (fun h=>?_)|refine gO ?_|refine gP ?_|refine VNat.mk _ rfl ?_|refine gV ?_|refine vret_pf rfl ?_|refine vret_take rfl rfl ?_|refine VIdx.mk _ hx ?_|refine VOk.mk (szOk_of rfl hXz) ?_|refine vcall_pf hA rfl rfl ?_|refine finds_pf hA (fun _=>?_)|refine gK ?_)
        all_goals (try (conv=>whnf))
        · refine VAgain.mk _ rfl _ (gc_sh (.cons (sh_box rfl rfl) (.cons (sh_box rfl rfl) (.cons (sh_box rfl rfl) (.cons (sh_box rfl rfl) (.cons (sh_box rfl rfl) (.cons (sh_row rfl) .nil)))))) (.cons (sh_box rfl rfl) (.cons (sh_box rfl rfl) (.cons (sh_box rfl rfl) (.cons (sh_box rfl rfl) (.cons sh_dead (.cons (sh_row rfl) .nil)))))) rfl rfl rfl rfl rfl) ⟨[rn],⟨by simp only [List.length_cons,List.length_nil]; omega,?_⟩,by simp only [List.length_cons,List.length_nil]; omega,rfl⟩
          exact hst (by assumption)
        · exact hbad (w:=default) (hfa (by intro e; first|contradiction|(rename_i h; exact absurd (e.symm.trans h) (by decide))))
      · have h0:¬ 0 < F.length:=by
          rename_i h
          have h:¬ (0:Int) < X.length:=h
          omega
        have hd:=hdone h0
        refine ⟨(.ag [.sl (bq && Nat.beq (l.map encT).length (l.map encT).length) zq X,.sl eb ez ex,.sl true 0 []]),?_,by rw [hd]; rfl⟩
        rw [hd]
        exact ⟨_,_,_,_,_,_,_,_,rfl,hXz,hXP,hez,hex,.inr rfl⟩
    |cons q r =>
      have hgl1:r.length + 1 ≤ 16:=hgl
      simp only [ctS]
      repeat' ((conv=>whnf);first|refine gT ?_|refine gF ?_|refine VIf.not ?_|refine gA ?_|refine gB ?_|refine VIf.dec (fun h=>?_) (fun h=>?_)|refine gC ?_|refine gD ?_|refine VIf.mk (fun h=>?_) (fun h=>?_)|refine gO ?_|refine gP ?_|refine VNat.mk _ rfl ?_|refine gV ?_|refine vret_pf rfl ?_|refine vret_take rfl rfl ?_|refine gK ?_)
      all_goals (try (conv=>whnf))
      · have h0:(q :: r).length < F.length:=by
          rename_i h
          have h:(((q :: r).length:Nat):Int) < X.length:=h
          omega
        obtain ⟨a,ha⟩:∃ a,F[(q :: r).length]? = some a:=⟨_,List.getElem?_eq_getElem h0⟩
        have hx:X[(q :: r).length]? = some (encT a):=by rw [hXe,List.getElem?_map,ha]; rfl
        have hA:=har (f + ((q :: r).length:Nat)) ⟨by omega,by omega⟩ a (hmem a (List.mem_of_getElem? ha))
        have hst:=hstep a ha
        have hfa:=hfail a ha
        obtain ⟨kk,n9,s9,b9,z9,x9,c9,y9,ys9,he9⟩:=encT_open a
        rw [he9] at hx hA
        generalize armsF nm self (f:Int) idx (f + (((q :: r).length:Nat):Int)) a=R at hA hst hfa
        obtain ⟨rn,rb⟩:=R
        have hil:(ints (q :: r)).length=r.length + 1:=by simp [ints]
        have hp8:(ints (q :: r) ++ [iv rn]).all (pur 8)=true:=by
          rw [show ints (q :: r) ++ [iv rn]=ints (q :: r ++ [rn]) by simp [ints]]
          exact ints_pure _ 7
        repeat' ((conv=>whnf);first|refine gT ?_|refine gF ?_|refine VIf.not ?_|refine gA ?_|refine gB ?_|refine VIf.dec (fun h=>?_) (fun h=>?_)|refine gC ?_|refine gD ?_|refine VIf.mk (fun h=>?_) (fun h=>?_)|refine gO ?_|refine gP ?_|refine VNat.mk _ rfl ?_|refine gV ?_|refine vret_pf rfl ?_|refine vret_take rfl rfl ?_|refine VIdx.mk _ hx ?_|refine VOk.mk (szOk_of rfl hXz) ?_|refine vcall_pf hA rfl rfl ?_|refine finds_pf hA (fun _=>?_)|refine VOk.mk (grow_ok (w:=8) (r:=140737488355328) hil rfl rfl rfl rfl (by simp only [List.length_cons,List.length_nil]; omega) (by simp only [List.length_cons,List.length_nil]; omega)) ?_|refine gK ?_)
        all_goals (try (conv=>whnf))
        · refine VAgain.mk _ rfl _ (gc_sh (.cons (sh_box rfl rfl) (.cons (sh_box rfl rfl) (.cons (sh_box rfl rfl) (.cons (sh_box rfl rfl) (.cons sh_dead (.cons (sh_row hp8) (.cons (sh_box rfl rfl) .nil))))))) (.cons (sh_box rfl rfl) (.cons (sh_box rfl rfl) (.cons (sh_box rfl rfl) (.cons (sh_box rfl rfl) (.cons sh_dead (.cons (sh_row hp8) .nil)))))) rfl rfl rfl rfl rfl) ⟨q :: r ++ [rn],⟨by simp only [List.length_cons,List.length_append,List.length_nil] at h0 ⊢; omega,?_⟩,by simp only [List.length_cons,List.length_append,List.length_nil] at h0 ⊢; omega,?_⟩
          · have:=hst (by assumption)
            simp only [List.length_cons,List.length_append,List.length_nil] at this ⊢
            exact this
          · have e1:ints (q :: (r ++ [rn]))=ints (q :: r) ++ [iv rn]:=by simp [ints]
            have e2:(r ++ [rn]).length + 1=r.length + 1 + 1:=by simp
            have e3:(((q :: r ++ [rn]).length:Nat):Int)=((q :: r).length:Int) + 1:=by simp
            dsimp only [ctS,List.cons_append]
            rw [e1,e2]
            simp only [List.cons_append] at e3
            rw [e3]
            rfl
        · exact hbad (w:=default) (hfa (by intro e; first|contradiction|(rename_i h; exact absurd (e.symm.trans h) (by decide))))
      · have h0:¬ (q :: r).length < F.length:=by
          rename_i h
          have h:¬ (((q :: r).length:Nat):Int) < X.length:=h
          omega
        have hd:=hdone h0
        refine vret_pub rfl (mapS_cons (pubV_ag (mapS_cons rfl (mapS_cons rfl (mapS_cons (pubV_row rfl (by simp [ints]) (ints_pure _ 5)) mapS_nil)))) (mapS_cons rfl mapS_nil)) rfl ?_
        refine ⟨(.ag [.sl (bq && Nat.beq (l.map encT).length (l.map encT).length) zq X,.sl eb ez ex,.sl false 1 (ints (q :: r))]),?_,by rw [hd]⟩
        rw [hd]
        exact ⟨_,_,_,_,_,_,_,_,rfl,hXz,hXP,hez,hex,.inl rfl⟩
end
end Go.Proofs.YtehhihdahalfeaaGreatDoor
namespace Go.Proofs.YtehhihdahalfeaaGreatDoor
open Go Go.Am Go.Gw
def CosP:List Co→List PV→Prop
  |[],xs=>xs=[]
  |c :: r,xs=>∃ v xs',xs=v :: xs'∧CoP c v∧CosP r xs'
theorem CosP.len:∀ {cs:List Co} {xs:List PV},CosP cs xs→xs.length=cs.length
  |[],xs,h=>by simp only [CosP] at h; simp [h]
  |c :: r,xs,h=>by
    simp only [CosP] at h
    obtain ⟨v,xs',rfl,_,h⟩:=h
    simp [CosP.len h]
theorem CosP.at:∀ {cs:List Co} {xs:List PV} {i:Nat} {c:Co},CosP cs xs→cs[i]? = some c→∃ v,xs[i]? = some v∧CoP c v
  |[],xs,i,c,_,h=>by simp at h
  |x :: r,xs,i,c,h,e=>by
    simp only [CosP] at h
    obtain ⟨v,xs',rfl,h1,h2⟩:=h
    cases i with
    |zero=>simp at e; subst e; exact ⟨v,rfl,h1⟩
    |succ i=>simpa using CosP.at h2 (by simpa using e)
theorem CosP.snoc:∀ {cs:List Co} {xs:List PV} {c:Co} {v:PV},CosP cs xs→CoP c v→CosP (cs ++ [c]) (xs ++ [v])
  |[],xs,c,v,h,hv=>by
    simp only [CosP] at h
    subst h
    simp only [List.nil_append,CosP]
    exact ⟨v,[],rfl,hv,rfl⟩
  |x :: r,xs,c,v,h,hv=>by
    simp only [CosP] at h
    obtain ⟨y,xs',rfl,h1,h2⟩:=h
    simp only [List.cons_append,CosP]
    exact ⟨y,_,rfl,h1,CosP.snoc h2 hv⟩
theorem CosP.pure:∀ {cs:List Co} {xs:List PV} (n:Nat),CosP cs xs→xs.all (pur (n + 2))=true
  |[],xs,n,h=>by simp only [CosP] at h; subst h; rfl
  |c :: r,xs,n,h=>by
    simp only [CosP] at h
    obtain ⟨v,xs',rfl,⟨b,z,ys,b',z',ys',b'',z'',rfl,-⟩,h2⟩:=h
    rw [List.all_cons,CosP.pure n h2]
    rfl
/-- the forms of constructors; the first error -/
def shapeL (nm:List UInt8) (self:Tm) (fx idx:Int):List (List UInt8 × Tm)→Int × List Co
  |[]=>(0,[])
  |c :: r=>if (ctorF nm self fx idx c.2).1=0 then (if (shapeL nm self fx idx r).1=0 then (0,(ctorF nm self fx idx c.2).2 :: (shapeL nm self fx idx r).2) else ((shapeL nm self fx idx r).1,[])) else ((ctorF nm self fx idx c.2).1,[])
def joinS (g:List Co) (r:Int × List Co):Int × List Co:=if r.1=0 then (0,g ++ r.2) else (r.1,[])
theorem joinS_nil {nm:List UInt8} {self:Tm} {fx idx:Int}:∀ cs,joinS [] (shapeL nm self fx idx cs)=shapeL nm self fx idx cs
  |[]=>rfl
  |c :: r=>by
    unfold joinS shapeL
    by_cases h1:(ctorF nm self fx idx c.2).1=0
    · rw [if_pos h1]
      by_cases h2:(shapeL nm self fx idx r).1=0
      · rw [if_pos h2,if_pos rfl]
        rfl
      · rw [if_neg h2,if_neg h2]
    · rw [if_neg h1,if_neg h1]
theorem joinS_ok {nm:List UInt8} {self:Tm} {fx idx:Int} {g:List Co} {c:List UInt8 × Tm} {r:List (List UInt8 × Tm)} (h:(ctorF nm self fx idx c.2).1=0):joinS g (shapeL nm self fx idx (c :: r))=joinS (g ++ [(ctorF nm self fx idx c.2).2]) (shapeL nm self fx idx r):=by
  rw [shapeL,if_pos h]
  unfold joinS
  by_cases h2:(shapeL nm self fx idx r).1=0
  · rw [if_pos h2,if_pos rfl,if_pos h2]
    simp
  · rw [if_neg h2,if_neg h2,if_neg h2]
theorem joinS_bad {nm:List UInt8} {self:Tm} {fx idx:Int} {g:List Co} {c:List UInt8 × Tm} {r:List (List UInt8 × Tm)} (h:¬ (ctorF nm self fx idx c.2).1=0):joinS g (shapeL nm self fx idx (c :: r))=((ctorF nm self fx idx c.2).1,[]):=by
  rw [shapeL,if_neg h]
  unfold joinS
  rw [if_neg h]
def shapeE (d:Dc):Int:=if frontD d=0 then (shapeL d.nm (selfD d) d.fx (idxD d) d.cs).1 else frontD d
def shapeC (d:Dc):List Co:=(shapeL d.nm (selfD d) d.fx (idxD d) d.cs).2
/-- a family's form, as it lies -/
def FamP (idx:Int) (l:Lv) (cs:List Co) (v:PV):Prop:=∃ b z xs,v = .ag (iv idx :: ((encL l).cells ++ [.sl b z xs]))∧(z=3∨xs=[])∧CosP cs xs
theorem fam_in {idx:Int} {l:Lv} {cs:List Co} {w:PV} (h:FamP idx l cs w):if (0:Int)=0 then FamP idx l cs w else w=famZ0:=by
  rw [if_pos rfl]
  exact h
def shS (x y:SO) (fc:List PV):List PV→Sto
  |[]=>[x,y,.box 53 (fc ++ [.sl true 0 []])]
  |v :: r=>[x,y,.box 53 (fc ++ [.ms 5 (r.length + 1)]),.dead,.dead,.row false 71 3 (v :: r)]
theorem frontD_ok {d:Dc} (h:frontD d=0):formedF d=true∧d.k=5∧d.p < 4∧(piF d.ty).1.length ≤ 16∧aptGo [] (namesD d)=true∧d.fx ≤ (piF d.ty).1.length∧(piF d.ty).2.kind=2:=by
  unfold frontD at h
  split at h
  · omega
  · rename_i h1
    obtain ⟨h1,h2⟩:=Decidable.not_not.1 h1
    split at h
    · omega
    · split at h
      · omega
      · rename_i h3 h4
        split at h
        · omega
        · rename_i h5
          refine ⟨h1,h2,by omega,by omega,by simpa using h4,by omega,?_⟩
          exact Decidable.not_not.1 fun e=>h5 (.inr e)
set_option maxHeartbeats 4000000 in
set_option maxRecDepth 100000 in
theorem Shape_can (d:Dc) (v:PV) (h:DcP d v) (hcs:d.cs.length ≤ 1000000):∃ w,(if shapeE d=0 then FamP (idxD d) (lvD d) (shapeC d) w else w=famZ0)∧Pf C1 23 [v] [w,iv (shapeE d)]:=by
  suffices key:Finds C1 23 [v] [] fun r _=>∃ w,(if shapeE d=0 then FamP (idxD d) (lvD d) (shapeC d) w else w=famZ0)∧r = .ret [w,iv (shapeE d)] by
    obtain ⟨r,st',⟨w,h1,rfl⟩,N,hN⟩:=key
    exact ⟨w,h1,_,st',rfl,N,hN⟩
  obtain ⟨M,hM,hb⟩:=begin_can d v h hcs
  have hfd:=fun e=>formedD (d:=d) e
  have hbad:∀ e,shapeE d=e→e ≠ 0→∃ w,(if shapeE d=0 then FamP (idxD d) (lvD d) (shapeC d) w else w=famZ0)∧AEnd.ret [famZ0,iv e] = .ret [w,iv (shapeE d)]:=fun e he h0=>⟨famZ0,by rw [if_neg (by rw [he]; exact h0)],by rw [he]⟩
  by_cases hf:frontD d=0
  · have hMk:=hM hf
    have hE:shapeE d=(shapeL d.nm (selfD d) d.fx (idxD d) d.cs).1:=by rw [shapeE,if_pos hf]
    have hC:shapeC d=(shapeL d.nm (selfD d) d.fx (idxD d) d.cs).2:=rfl
    rw [beginV,if_pos hf,famV] at hb
    obtain ⟨o1,o2,o3,o4,-,o5,-⟩:=frontD_ok hf
    obtain ⟨⟨-,hrt⟩,hk5⟩:=hfd o1
    obtain ⟨hfx01,hcs8,hcsr⟩:=hk5 o2
    have hct:=fun (c:List UInt8 × Tm) (hc:c ∈ d.cs) (v:PV) (hv:TmP c.2 v)=>ctor_can hMk hfx01 ⟨by unfold idxD; omega,by unfold idxD; omega⟩ (by omega) c.2 v hv (hcsr c hc).2
    generalize idxD d=idx at *
    generalize lvD d=lv at *
    generalize shapeE d=E at *
    generalize shapeC d=CC at *
    generalize selfD d=self at *
    obtain ⟨r1,r2,r3,r4,r5,hr5⟩:=encL_open lv
    rw [hr5] at hb
    obtain ⟨k,p,nm,ty,vl,fx,cs,a1,a2,a3,a4,a5,a6,a7,a8,a9,b1,b2,b3,b4,b5,b6,b7,b8,b9,cb,cz,cx,hty,hvl,hz,hxs,hlen,hnm,hk,hp,hfx⟩:=h
    obtain ⟨kq,e1,e2,e3,e4,e5,e6,e7,e8,e9,e10,e11,j1,j2,js,j3,j4,j5,j6,j7,j8,-⟩:=hMk
    dsimp only at hct hE hC hcs8
    have hcl:=hxs.len
    refine run_intro Tryz.func23 rfl rfl rfl ?_
    repeat' ((conv=>whnf);first|refine gT ?_|refine gF ?_|refine VIf.not ?_|refine gA ?_|refine gB ?_|refine VIf.dec (fun h=>?_) (fun h=>?_)|refine gC ?_|refine gD ?_|refine VIf.mk (fun h=>?_) (fun h=>?_)|refine gO ?_|refine gP ?_|refine VNat.mk _ rfl ?_|refine gV ?_|refine vret_pf rfl ?_|refine vret_take rfl rfl ?_|refine vcall_pf hb rfl rfl ?_|refine gK ?_)
    all_goals (try (conv=>whnf))
    have hfin:∀ e q,shapeL nm self fx idx cs=(e,q)→E=e∧CC=q:=fun e q hq=>by
      rw [hE,hC,hq]
      exact ⟨rfl,rfl⟩
    refine loop_over (G:=List Co × List PV) (fun g=>[(24,iv g.1.length)]) (fun g=>shS (.box 46 [iv k,iv p,sv nm,iv a1,iv a2,sv a3,.sl a4 a5 a6,.sl a7 a8 a9,iv b1,iv b2,sv b3,.sl b4 b5 b6,.sl b7 b8 b9,iv fx,.sl cb cz cx]) (.box 53 [iv 0,iv 0,iv 0,.sl true 0 [],.sl true 0 []]) [iv idx,iv r1,iv r2,.sl r3 r4 r5] g.2) (fun g=>CosP g.1 g.2∧g.1.length ≤ cs.length∧joinS g.1 (shapeL nm self fx idx (cs.drop g.1.length))=shapeL nm self fx idx cs) (fun g=>cs.length - g.1.length) ([],[]) ⟨by simp only [CosP],by simp,joinS_nil cs⟩ rfl rfl ?_
    rintro ⟨g,ws⟩ ⟨hg,hgl,hall⟩
    dsimp only at hg hgl hall ⊢
    have hwl:=hg.len
    have hstep:¬ g.length < cs.length∨∃ c w z,cs[g.length]? = some c∧cx[g.length]? = some z∧LoP c z∧CoP (ctorF nm self fx idx c.2).2 w∧(∃ s q,z = .ag (sv s :: q)∧Pf C1 59 [.cp [iv kq,iv p,sv nm,e1,e2,e3,e4,e5,e6,e7,e8,e9,e10,iv fx,e11,iv j1,iv j2,sv js,.sl j3 j4 j5,.sl j6 j7 j8,iv idx],.ag q] [w,iv (ctorF nm self fx idx c.2).1]):=by
      by_cases hlt:g.length < cs.length
      · obtain ⟨c,hc⟩:∃ c,cs[g.length]? = some c:=⟨_,List.getElem?_eq_getElem hlt⟩
        obtain ⟨z,hz1,hz2⟩:=hxs.at hc
        obtain ⟨s,q1,q2,q3,q4,q5,q6,q7,q8,q9,t,rfl,rfl,ht,-⟩:=hz2.open
        obtain ⟨w,hw1,hw2⟩:=hct _ (List.mem_of_getElem? hc) _ ht
        exact .inr ⟨_,w,_,hc,hz1,hz2,hw1,s,_,rfl,hw2⟩
      · exact .inl hlt
    have hcx:∀ {i:Nat},((i:Int) < cx.length)→i < cs.length:=fun h=>by omega
    cases ws with
    |nil =>
      obtain rfl:g=[]:=List.eq_nil_of_length_eq_zero (by simpa using hwl.symm)
      simp only [shS,List.cons_append,List.nil_append]
      repeat' ((conv=>whnf);first|refine gT ?_|refine gF ?_|refine VIf.not ?_|refine gA ?_|refine gB ?_|refine VIf.dec (fun h=>?_) (fun h=>?_)|refine gC ?_|refine gD ?_|refine VIf.mk (fun h=>?_) (fun h=>?_)|refine gO ?_|refine gP ?_|refine VNat.mk _ rfl ?_|refine gV ?_|refine vret_pf rfl ?_|refine vret_take rfl rfl ?_|refine gK ?_)
      all_goals (try (conv=>whnf))
      · rcases hstep with hno|⟨c,w,z,hc,hz1,hz2,hw,s,q,rfl,hpf⟩
        · exact absurd (hcx (by assumption)) hno
        · have hd:=drop_at hc
          rw [hd] at hall
          obtain ⟨s',q1,q2,q3,q4,q5,q6,q7,q8,q9,t,rfl,hzz,ht,-⟩:=hz2.open
          injection hzz with hzz
          injection hzz with hz3 hz4
          subst hz4
          dsimp only at hpf hw
          have hok:=fun e=>joinS_ok (g:=[]) (c:=(s',t)) (r:=cs.drop (0 + 1)) (nm:=nm) (self:=self) (fx:=fx) (idx:=idx) e
          have hko:=fun e=>joinS_bad (g:=[]) (c:=(s',t)) (r:=cs.drop (0 + 1)) (nm:=nm) (self:=self) (fx:=fx) (idx:=idx) e
          dsimp only at hok hko
          have hw':=hw
          obtain ⟨w1,w2,w3,w4,w5,w6,w7,w8,rfl,-⟩:=hw'
          generalize ctorF nm self fx idx t=R at hpf hw hok hko
          obtain ⟨re,rc⟩:=R
          dsimp only at hpf hw hok hko
          repeat' ((conv=>whnf);first|refine gT ?_|refine gF ?_|refine VIf.not ?_|refine gA ?_|refine gB ?_|refine VIf.dec (fun h=>?_) (fun h=>?_)|refine gC ?_|refine gD ?_|refine VIf.mk (fun h=>?_) (fun h=>?_)|refine gO ?_|refine gP ?_|refine VNat.mk _ rfl ?_|refine gV ?_|refine vret_pf rfl ?_|refine vret_take rfl rfl ?_|refine VIdx.mk _ hz1 ?_|refine VOk.mk (szOk_of rfl hz) ?_|refine vcall_pf hpf rfl rfl ?_|refine gK ?_)
          all_goals (try (conv=>whnf))
          · have e:=hok (by assumption)
            refine VAgain.mk _ rfl _ (gc_sh (.cons (sh_box rfl rfl) (.cons (sh_box rfl rfl) (.cons (sh_box rfl rfl) (.cons (sh_box rfl rfl) (.cons (sh_box rfl rfl) (.cons (sh_row rfl) .nil)))))) (.cons (sh_box rfl rfl) (.cons (sh_box rfl rfl) (.cons (sh_box rfl rfl) (.cons sh_dead (.cons sh_dead (.cons (sh_row rfl) .nil)))))) rfl rfl rfl rfl rfl) ⟨([rc],[.ag [.sl w1 w2 w3,.sl w4 w5 w6,.sl w7 w8 (ints rc.ar)]]),⟨by simp only [CosP]; exact ⟨_,_,rfl,hw,rfl⟩,by simp only [List.length_cons,List.length_nil]; have:=hcx (i:=0) (by assumption); omega,?_⟩,by simp only [List.length_cons,List.length_nil]; have:=hcx (i:=0) (by assumption); omega,rfl⟩
            rw [← hall]
            exact e.symm
          · exact hbad re (hfin _ _ (hall.symm.trans (hko (by assumption)))).1 (by assumption)
      · have hno:¬ 0 < cs.length:=fun e=>by
          have h9:¬ ((List.length ([]:List Co):Nat):Int) < cx.length:=by assumption
          simp only [List.length_nil] at h9
          omega
        have hnil:cs=[]:=List.eq_nil_of_length_eq_zero (by omega)
        rw [hnil] at hall
        obtain ⟨q1,q2⟩:=hfin 0 [] (by rw [hnil]; rfl)
        subst q1 q2
        exact ⟨.ag [iv idx,iv r1,iv r2,.sl r3 r4 r5,.sl true 0 []],fam_in ⟨_,_,_,by rw [hr5]; rfl,.inr rfl,by simp only [CosP]⟩,rfl⟩
    |cons w0 wr =>
      have hgn:g.length=wr.length + 1:=by simpa using hwl.symm
      have hp8:(w0 :: wr).all (pur 8)=true:=hg.pure 6
      simp only [shS,List.cons_append,List.nil_append]
      repeat' ((conv=>whnf);first|refine gT ?_|refine gF ?_|refine VIf.not ?_|refine gA ?_|refine gB ?_|refine VIf.dec (fun h=>?_) (fun h=>?_)|refine gC ?_|refine gD ?_|refine VIf.mk (fun h=>?_) (fun h=>?_)|refine gO ?_|refine gP ?_|refine VNat.mk _ rfl ?_|refine gV ?_|refine vret_pf rfl ?_|refine vret_take rfl rfl ?_|refine gK ?_)
      all_goals (try (conv=>whnf))
      · rcases hstep with hno|⟨c,w,z,hc,hz1,hz2,hw,s,q,rfl,hpf⟩
        · exact absurd (hcx (by assumption)) hno
        · have hlt:=hcx (by assumption)
          have hd:=drop_at hc
          rw [hd] at hall
          obtain ⟨s',q1,q2,q3,q4,q5,q6,q7,q8,q9,t,rfl,hzz,ht,-⟩:=hz2.open
          injection hzz with hzz
          injection hzz with hz3 hz4
          subst hz4
          dsimp only at hpf hw
          have hok:=fun e=>joinS_ok (g:=g) (c:=(s',t)) (r:=cs.drop (g.length + 1)) (nm:=nm) (self:=self) (fx:=fx) (idx:=idx) e
          have hko:=fun e=>joinS_bad (g:=g) (c:=(s',t)) (r:=cs.drop (g.length + 1)) (nm:=nm) (self:=self) (fx:=fx) (idx:=idx) e
          dsimp only at hok hko
          have hw':=hw
          obtain ⟨w1,w2,w3,w4,w5,w6,w7,w8,rfl,-⟩:=hw'
          generalize ctorF nm self fx idx t=R at hpf hw hok hko
          obtain ⟨re,rc⟩:=R
          dsimp only at hpf hw hok hko
          have hsn:=hg.snoc hw
          have hp8:(w0 :: wr ++ [PV.ag [.sl w1 w2 w3,.sl w4 w5 w6,.sl w7 w8 (ints rc.ar)]]).all (pur 8)=true:=hsn.pure 6
          have hrl:(w0 :: wr).length=wr.length + 1:=rfl
          repeat' ((conv=>whnf);first|refine gT ?_|refine gF ?_|refine VIf.not ?_|refine gA ?_|refine gB ?_|refine VIf.dec (fun h=>?_) (fun h=>?_)|refine gC ?_|refine gD ?_|refine VIf.mk (fun h=>?_) (fun h=>?_)|refine gO ?_|refine gP ?_|refine VNat.mk _ rfl ?_|refine gV ?_|refine vret_pf rfl ?_|refine vret_take rfl rfl ?_|refine VIdx.mk _ hz1 ?_|refine VOk.mk (szOk_of rfl hz) ?_|refine vcall_pf hpf rfl rfl ?_|refine VOk.mk (grow_ok (w:=72) (r:=140737488355328) hrl rfl rfl rfl rfl (by simp only [List.length_cons,List.length_nil]; omega) (by simp only [List.length_cons,List.length_nil]; omega)) ?_|refine gK ?_)
          all_goals (try (conv=>whnf))
          · have e:=hok (by assumption)
            refine VAgain.mk _ rfl _ (gc_sh (.cons (sh_box rfl rfl) (.cons (sh_box rfl rfl) (.cons (sh_box rfl rfl) (.cons sh_dead (.cons sh_dead (.cons (sh_row hp8) (.cons (sh_box rfl rfl) (.cons (sh_box rfl rfl) .nil)))))))) (.cons (sh_box rfl rfl) (.cons (sh_box rfl rfl) (.cons (sh_box rfl rfl) (.cons sh_dead (.cons sh_dead (.cons (sh_row hp8) .nil)))))) rfl rfl rfl rfl rfl) ⟨(g ++ [rc],w0 :: wr ++ [.ag [.sl w1 w2 w3,.sl w4 w5 w6,.sl w7 w8 (ints rc.ar)]]),⟨hsn,by simp only [List.length_append,List.length_cons,List.length_nil]; omega,?_⟩,by simp only [List.length_append,List.length_cons,List.length_nil]; omega,?_⟩
            · simp only [List.length_append,List.length_cons,List.length_nil]
              rw [← hall]
              exact e.symm
            · have e2:(wr ++ [PV.ag [.sl w1 w2 w3,.sl w4 w5 w6,.sl w7 w8 (ints rc.ar)]]).length + 1=wr.length + 1 + 1:=by simp
              have e3:(((g ++ [rc]).length:Nat):Int)=(g.length:Int) + 1:=by simp
              dsimp only [shS,List.cons_append]
              rw [e2,e3]
              rfl
          · exact hbad re (hfin _ _ (hall.symm.trans (hko (by assumption)))).1 (by assumption)
      · have hno:¬ g.length < cs.length:=fun e=>by
          have h9:¬ ((g.length:Nat):Int) < cx.length:=by assumption
          omega
        rw [List.drop_of_length_le (by omega)] at hall
        have hj:joinS g (shapeL nm self fx idx [])=(0,g):=by simp [joinS,shapeL]
        rw [hj] at hall
        obtain ⟨q1,q2⟩:=hfin 0 g hall.symm
        refine vret_pub rfl (mapS_cons (pubV_ag (mapS_cons rfl (mapS_cons rfl (mapS_cons rfl (mapS_cons rfl (mapS_cons (pubV_row rfl rfl (hg.pure 4)) mapS_nil)))))) (mapS_cons rfl mapS_nil)) rfl ?_
        subst q1 q2
        exact ⟨.ag [iv idx,iv r1,iv r2,.sl r3 r4 r5,.sl false 3 (w0 :: wr)],fam_in ⟨_,_,_,by rw [hr5]; rfl,.inl rfl,hg⟩,rfl⟩
  · rw [beginV,if_neg hf] at hb
    have hE:shapeE d=frontD d:=by rw [shapeE,if_neg hf]
    have hr:=hbad _ hE hf
    generalize frontD d=e at hb hr hf
    obtain ⟨k,p,nm,ty,vl,fx,cs,a1,a2,a3,a4,a5,a6,a7,a8,a9,b1,b2,b3,b4,b5,b6,b7,b8,b9,cb,cz,cx,hty,hvl,hz,hxs,hlen,hnm,hk,hp,hfx⟩:=h
    refine run_intro Tryz.func23 rfl rfl rfl ?_
    repeat' ((conv=>whnf);first|refine gT ?_|refine gF ?_|refine VIf.not ?_|refine gA ?_|refine gB ?_|refine VIf.dec (fun h=>?_) (fun h=>?_)|refine gC ?_|refine gD ?_|refine VIf.mk (fun h=>?_) (fun h=>?_)|refine gO ?_|refine gP ?_|refine VNat.mk _ rfl ?_|refine gV ?_|refine vret_pf rfl ?_|refine vret_take rfl rfl ?_|refine vcall_pf hb rfl rfl ?_|refine gK ?_)
    all_goals (try (conv=>whnf))
    exact hr
end Go.Proofs.YtehhihdahalfeaaGreatDoor
