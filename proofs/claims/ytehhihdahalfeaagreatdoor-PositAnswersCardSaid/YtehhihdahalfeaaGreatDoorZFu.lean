/-
  The document's ctor (layer 18). No statement of the seat.
-/
import Derived.Test.YtehhihdahalfeaaGreatDoorZFs
import Derived.Test.YtehhihdahalfeaaGreatDoorZFk
set_option linter.unusedVariables false
set_option linter.unusedSimpArgs false
set_option linter.unnecessarySimpa false
namespace Go.Proofs.YtehhihdahalfeaaGreatDoor
open Go Go.Am Go.Gw
/-- the form of a constructor, while its binders are gone through -/
def c8S (x:SO) (f a:PV) (don:List Tm) (cells:List PV):Sto:=match don with
  |[]=>[x,.box 25 cells,.box 104 [.sl true 0 [],.sl true 0 [],.sl true 0 []],.box 104 [.sl true 0 [],f,a]]
  |t :: r=>[x,.box 25 cells,.box 104 [.sl true 0 [],.sl true 0 [],.sl true 0 []],.box 104 [.ms 4 (r.length + 1),f,a],.row false 25 5 ((t :: r).map encT)]
/-- .. and while its fields' arms are counted -/
def c9S (x y z:SO) (f tg:PV) (row:SO):List Int→Sto
  |[]=>[x,y,z,.box 104 [f,tg,.sl true 0 []],row]
  |a :: r=>[x,y,z,.box 104 [f,tg,.ms 5 (r.length + 1)],row,.row false 3 1 (ints (a :: r))]
set_option maxHeartbeats 4000000 in
set_option maxRecDepth 100000 in
theorem ctor18_can (d:Dc) (v:PV) (h:DcP d v) (t:Tm) (w:PV) (hT:TmP t w) (idx:Int) (hfx:0 ≤ d.fx∧d.fx ≤ 16) (hidx:0 ≤ idx∧idx ≤ 16) (hp:0 ≤ d.p∧d.p ≤ 4) (hr:rightT t d.p 0=true) :
    ∃ u,CoP (ctorF d.nm (selfD d) d.fx idx t).2 u∧Pf C4 61 [v,w,iv idx] [u,iv (ctorF d.nm (selfD d) d.fx idx t).1]:=by
  suffices key:Finds C4 61 [v,w,iv idx] [] fun r _=>∃ u,CoP (ctorF d.nm (selfD d) d.fx idx t).2 u∧r = .ret [u,iv (ctorF d.nm (selfD d) d.fx idx t).1] by
    obtain ⟨r,st',⟨u,h1,rfl⟩,N,hN⟩:=key
    exact ⟨u,h1,_,st',rfl,N,hN⟩
  obtain ⟨hp4,-,hnd,hall⟩:=rightT_parts hr
  rw [show min (0:Int) 1125899906842624=0 by omega] at hall
  have hany:=rightT_any hr
  have hsz:=any_siz hany
  have hdp:=any_dep hany
  have hcf:=ctorF_eq (nm:=d.nm) (fx:=d.fx) (idx:=idx) (self:=selfD d) (t:=t)
  have har:=fun (deep:Int) (h1:0 ≤ deep∧deep ≤ 1000) (a:Tm) (kk:Int) (h2:allT a d.p kk=true) (h3:TmW a) (h4:kk + depT a ≤ 1125899906842624) (h5:sizT a ≤ 2000)=>arms18_can d v h a (encT a) h3 deep idx hfx hidx h1 hp h2 hp.2 h4 h5
  have hen:=fun (a:Tm) (u:PV) (q:Int) (ha:TmP a u) (hq:0 ≤ q∧q ≤ 1000000) (kk:Int) (h1:allT a d.p kk=true) (h2:kk ≤ 1125899906842624) (h3:sizT a ≤ 2000)=>end18_can d v h a u ha q idx hfx hidx hq hp h1 (by have:=spF_dep a; have:=dep_siz a; omega) (args_any h1 hp.2 h2 h3)
  obtain ⟨a1,a2,a3,a4,a5,a6,a7,a8,a9,b1,b2,b3,b4,b5,b6,b7,b8,b9,cb,cz,cx,rfl,hty,hvl,hz',hxs',hlen'⟩:=h.parts
  obtain ⟨fx,hfn⟩:=Int.eq_ofNat_of_zero_le hfx.1
  obtain ⟨k0,nn0,s0,ls0,ts0,b0,z0,xs0,c0,y0,ys0,rfl,rfl,-⟩:=hT.open
  rw [hfn] at hcf har hen ⊢
  generalize selfD d=self at *
  generalize hTT:Tm.mk k0 nn0 s0 ls0 ts0=T at *
  refine run_intro Tryz.func61 rfl rfl rfl ?_
  repeat' ((conv=>whnf);first|refine gT ?_|refine gF ?_|refine VIf.not ?_|refine gA ?_|refine gB ?_|refine VIf.dec (fun h=>?_) (fun h=>?_)|refine gC ?_|refine gD ?_|refine VIf.mk (fun h=>?_) (fun h=>?_)|refine gO ?_|refine gP ?_|refine VNat.mk _ rfl ?_|refine gV ?_|refine vret_pf rfl ?_|refine vret_take rfl rfl ?_|refine gK ?_)
  all_goals (try (conv=>whnf))
  refine loop_over (G:=List Tm × Tm × PV × Nat) (fun g=>[(9,iv g.2.2.2)]) (fun g=>c8S (.box 46 [iv d.k,iv d.p,sv d.nm,iv a1,iv a2,sv a3,.sl a4 a5 a6,.sl a7 a8 a9,iv b1,iv b2,sv b3,.sl b4 b5 b6,.sl b7 b8 b9,iv fx,.sl cb cz cx]) (.sl true 0 []) (.sl true 0 []) g.1 g.2.2.1.cells) (fun g=>TmP g.2.1 g.2.2.1∧(∃ kk,allT g.2.1 d.p kk=true∧kk + depT g.2.1 ≤ 2000)∧sizT g.2.1 ≤ 2000∧g.2.2.2 + depT g.2.1 ≤ 2000∧(piF T).2=(piF g.2.1).2∧∃ pre,(piF T).1=pre ++ (piF g.2.1).1∧pre.length=g.2.2.2∧g.1=pre.drop fx∧∀ a ∈ pre,TmW a∧sizT a ≤ 2000∧∃ kk,allT a d.p kk=true∧kk + depT a ≤ 2000) (fun g=>sizT g.2.1) ([],T,.ag [iv k0,iv nn0,sv s0,.sl b0 z0 xs0,.sl c0 y0 ys0],0) ⟨hT,⟨_,hall,by dsimp only; omega⟩,hsz,by dsimp only; omega,rfl,[],rfl,rfl,by simp,by simp⟩ (by subst hTT; rfl) rfl ?_
  rintro ⟨don,u,w,q⟩ ⟨hu,⟨kk,hall1,hk1⟩,hsz1,hdq,hpb,pre,hpl,hpn,hdon,hpre⟩
  dsimp only at hu hall1 hk1 hsz1 hdq hpb hpl hpn hdon hpre ⊢
  have hnext:∀ {a b:Tm} {n:Int} {s:List UInt8} {ls:List Lv},u = .mk 6 n s ls [a,b]→TmW a→(piF T).2=(piF b).2∧(piF T).1=(pre ++ [a]) ++ (piF b).1∧(pre ++ [a]).length=q + 1∧(∀ x ∈ pre ++ [a],TmW x∧sizT x ≤ 2000∧∃ kk,allT x d.p kk=true∧kk + depT x ≤ 2000)∧(∃ kk,allT b d.p kk=true∧kk + depT b ≤ 2000)∧sizT b ≤ 2000∧q + 1 + depT b ≤ 2000∧sizT b < sizT u:=fun {a b n s ls} e hw=>by
    subst e
    obtain ⟨a',b',e,ha,hb⟩:=allT_two hall1 rfl
    injection e with e1 e2
    injection e2 with e2 e3
    subst e1 e2
    rw [piF_pi] at hpb hpl
    simp only [sizT,sizTs] at hsz1
    simp only [depT,depTs] at hdq hk1
    refine ⟨hpb,by rw [hpl]; simp,by simp [hpn],fun x hx=>?_,⟨_,hb,by omega⟩,by omega,by omega,by simp only [sizT,sizTs]; omega⟩
    rcases List.mem_append.1 hx with hx|hx
    · exact hpre x hx
    · rw [List.mem_singleton] at hx
      subst hx
      exact ⟨hw,by omega,_,ha,by omega⟩
  obtain ⟨be,ze,xe,hze,hxe,he⟩:=hen u w q hu ⟨by omega,by omega⟩ kk hall1 (by omega) hsz1
  obtain ⟨k1,nn,s,ls,ts,b,z,xs,c,y,ys,rfl,rfl,hz,hxs,hlen,hbd1,hy,hys,hlen2,hbd2,hsl⟩:=hu.open
  have hexit:¬ k1=6→(piF T).2 = .mk k1 nn s ls ts∧(piF T).1=pre:=fun h6=>by
    rw [piF_off h6] at hpb hpl
    exact ⟨hpb,by rw [hpl]; simp⟩
  have hdm:∀ a ∈ don,TmW a∧sizT a ≤ 2000∧∃ kk,allT a d.p kk=true∧kk + depT a ≤ 2000:=fun a ha=>hpre a (by rw [hdon] at ha; exact List.mem_of_mem_drop ha)
  by_cases h6:k1=6
  · subst h6
    obtain ⟨a',b',rfl,-,-⟩:=allT_two hall1 rfl
    obtain ⟨va,hva,hla⟩:=hys.at (by rfl:[a',b'][0]? = some a')
    obtain ⟨vb,hvb,hlb⟩:=hys.at (by rfl:[a',b'][1]? = some b')
    obtain ⟨n1,n2,n3,n4,n5,n6,n7,n8⟩:=hnext rfl hla.w
    have hge:fx ≤ q→don ++ [a']=(pre ++ [a']).drop fx:=fun h=>by rw [List.drop_append_of_le_length (by omega),← hdon]
    have hlt:q < fx→[]=(pre ++ [a']).drop fx:=fun h=>by rw [List.drop_of_length_le (by simp; omega)]
    have hca:=up4 rfl (CopyTerm_can a' va hla)
    obtain ⟨g1,g2,g3,g4,g5,g6,g7,g8,g9,hg⟩:=encT_open a'
    rw [hg] at hca
    obtain ⟨k6,m6,s6,l6,t6,b6,z6,x6,c6,y6,ys6,rfl,rfl,-⟩:=hla.open
    obtain ⟨k2,m2,s2,l2,t2,b2,z2,x2,c2,y2,ys2,rfl,rfl,-⟩:=hlb.open
    cases don with
    |nil =>
      simp only [c8S,PV.cells]
      repeat' ((conv=>whnf);first|refine gT ?_|refine gF ?_|refine VIf.not ?_|refine gA ?_|refine gB ?_|refine VIf.dec (fun h=>?_) (fun h=>?_)|refine gC ?_|refine gD ?_|refine VIf.mk (fun h=>?_) (fun h=>?_)|refine gO ?_|refine gP ?_|refine VNat.mk _ rfl ?_|refine gV ?_|refine vret_pf rfl ?_|refine vret_take rfl rfl ?_|refine VIdx.mk _ hva ?_|refine VIdx.mk _ hvb ?_|refine VOk.mk (szOk_of rfl hy) ?_|refine vcall_pf hca rfl rfl ?_|refine finds_pf hca (fun _=>?_)|refine vcall_pf he rfl rfl ?_|refine finds_pf he (fun _=>?_)|refine gK ?_)
      all_goals (try (conv=>whnf))
      all_goals try (exfalso; omega)
      · refine VAgain.mk _ rfl _ (gc_sh (.cons (sh_box rfl rfl) (.cons (sh_box rfl rfl) (.cons (sh_box rfl rfl) (.cons (sh_box rfl rfl) (.cons (sh_row rfl) .nil))))) (.cons (sh_box rfl rfl) (.cons (sh_box rfl rfl) (.cons (sh_box rfl rfl) (.cons (sh_box rfl rfl) (.cons (sh_row rfl) .nil))))) rfl rfl rfl rfl rfl) ⟨([Tm.mk k6 m6 s6 l6 t6],.mk k2 m2 s2 l2 t2,.ag [iv k2,iv m2,sv s2,.sl b2 z2 x2,.sl c2 y2 ys2],q + 1),⟨hlb,n5,n6,n7,n1,_,n2,n3,hge (by omega),n4⟩,n8,?_⟩
        have e1:List.map encT [Tm.mk k6 m6 s6 l6 t6]=[PV.ag [iv g1,iv g2,sv g3,.sl g4 g5 g6,.sl g7 g8 g9]]:=by rw [← hg]; rfl
        dsimp only [c8S]
        rw [e1]
        rfl
      · exact VAgain.mk _ rfl _ (gc_same rfl) ⟨([],.mk k2 m2 s2 l2 t2,.ag [iv k2,iv m2,sv s2,.sl b2 z2 x2,.sl c2 y2 ys2],q + 1),⟨hlb,n5,n6,n7,n1,_,n2,n3,hlt (by omega),n4⟩,n8,rfl⟩
    |cons d0 dr =>
      have hfq:fx < q:=by
        have:=congrArg List.length hdon
        simp at this
        omega
      have hdl:dr.length + 1 ≤ 2000:=by
        have:=congrArg List.length hdon
        simp at this
        omega
      have hl8:(List.map encT (d0 :: dr)).length=dr.length + 1:=by simp
      have hp8:((d0 :: dr).map encT ++ [PV.ag [iv g1,iv g2,sv g3,.sl g4 g5 g6,.sl g7 g8 g9]]).all (pur 8)=true:=by
        rw [← hg,show (d0 :: dr).map encT ++ [encT (Tm.mk k6 m6 s6 l6 t6)]=(d0 :: dr ++ [Tm.mk k6 m6 s6 l6 t6]).map encT by simp]
        exact encTs_pure _ 6
      simp only [c8S,PV.cells]
      repeat' ((conv=>whnf);first|refine gT ?_|refine gF ?_|refine VIf.not ?_|refine gA ?_|refine gB ?_|refine VIf.dec (fun h=>?_) (fun h=>?_)|refine gC ?_|refine gD ?_|refine VIf.mk (fun h=>?_) (fun h=>?_)|refine gO ?_|refine gP ?_|refine VNat.mk _ rfl ?_|refine gV ?_|refine vret_pf rfl ?_|refine vret_take rfl rfl ?_|refine VIdx.mk _ hva ?_|refine VIdx.mk _ hvb ?_|refine VOk.mk (szOk_of rfl hy) ?_|refine vcall_pf hca rfl rfl ?_|refine finds_pf hca (fun _=>?_)|refine vcall_pf he rfl rfl ?_|refine finds_pf he (fun _=>?_)|refine VOk.mk (grow_ok (w:=80) (r:=140737488355328) hl8 rfl rfl rfl rfl (by simp only [List.length_cons,List.length_nil]; omega) (by simp only [List.length_cons,List.length_nil]; omega)) ?_|refine gK ?_)
      all_goals (try (conv=>whnf))
      all_goals try (exfalso; omega)
      · refine VAgain.mk _ rfl _ (gc_sh (.cons (sh_box rfl rfl) (.cons (sh_box rfl rfl) (.cons (sh_box rfl rfl) (.cons (sh_box rfl rfl) (.cons (sh_row hp8) .nil))))) (.cons (sh_box rfl rfl) (.cons (sh_box rfl rfl) (.cons (sh_box rfl rfl) (.cons (sh_box rfl rfl) (.cons (sh_row hp8) .nil))))) rfl rfl rfl rfl rfl) ⟨(d0 :: dr ++ [Tm.mk k6 m6 s6 l6 t6],.mk k2 m2 s2 l2 t2,.ag [iv k2,iv m2,sv s2,.sl b2 z2 x2,.sl c2 y2 ys2],q + 1),⟨hlb,n5,n6,n7,n1,_,n2,n3,hge (by omega),n4⟩,n8,?_⟩
        have e1:(d0 :: (dr ++ [Tm.mk k6 m6 s6 l6 t6])).map encT=(d0 :: dr).map encT ++ [PV.ag [iv g1,iv g2,sv g3,.sl g4 g5 g6,.sl g7 g8 g9]]:=by rw [← hg]; simp
        have e2:(dr ++ [Tm.mk k6 m6 s6 l6 t6]).length + 1=dr.length + 1 + 1:=by simp
        dsimp only [c8S,List.cons_append]
        rw [e1,e2]
        rfl
  · obtain ⟨hx1,hx2⟩:=hexit h6
    have hcf2:ctorF d.nm self fx idx T=(if (q:Int) < fx∨(endF d.nm self fx idx q (.mk k1 nn s ls ts)).2=false then ((18:Int),(⟨[],[],[]⟩:Co))
      else if 16 < don.length then ((15:Int),(⟨[],[],[]⟩:Co))
      else match armsA d.nm self fx idx don fx with
        |none=>((21:Int),(⟨[],[],[]⟩:Co))
        |some l=>((0:Int),(⟨don,(endF d.nm self fx idx q (.mk k1 nn s ls ts)).1,l⟩:Co))):=by
      rw [hcf,hx1,hx2,hpn,Int.toNat_natCast,← hdon]
      rfl
    clear hcf hnext hexit hen
    generalize endF d.nm self fx idx q (.mk k1 nn s ls ts)=E at hxe he hcf2
    obtain ⟨etg,eok⟩:=E
    dsimp only at hxe he hcf2
    cases don with
    |nil =>
      simp only [c8S,PV.cells]
      repeat' ((conv=>whnf);first|refine gT ?_|refine gF ?_|refine VIf.not ?_|refine gA ?_|refine gB ?_|refine VIf.dec (fun h=>?_) (fun h=>?_)|refine gC ?_|refine gD ?_|refine VIf.mk (fun h=>?_) (fun h=>?_)|refine gO ?_|refine gP ?_|refine VNat.mk _ rfl ?_|refine gV ?_|refine vret_pf rfl ?_|refine vret_take rfl rfl ?_|refine vcall_pf he rfl rfl ?_|refine finds_pf he (fun _=>?_)|refine gK ?_)
      all_goals (try (conv=>whnf))
      all_goals try (exfalso; omega)
      all_goals try exact ⟨_,by rw [hcf2,if_pos (.inl (by omega))]; exact co_zero,by rw [hcf2,if_pos (.inl (by omega))]; rfl⟩
      all_goals try exact ⟨_,by rw [hcf2,if_pos (.inr (by first|assumption|exact Bool.eq_false_iff.2 (by assumption)))]; exact co_zero,by rw [hcf2,if_pos (.inr (by first|assumption|exact Bool.eq_false_iff.2 (by assumption)))]; rfl⟩
      obtain rfl:eok=true:=by assumption
      have hcf3:ctorF d.nm self fx idx T=(0,⟨[],etg,[]⟩):=by
        rw [hcf2,if_neg (by rintro (e|e) <;> first|omega|cases e),if_neg (by simp),armsA]
      refine loop_over (G:=Unit) (fun _=>[(12,iv (0:Nat))]) (fun _=>_) (fun _=>True) (fun _=>0) () trivial rfl rfl ?_
      rintro ⟨⟩ -
      repeat' ((conv=>whnf);first|refine gT ?_|refine gF ?_|refine VIf.not ?_|refine gA ?_|refine gB ?_|refine VIf.dec (fun h=>?_) (fun h=>?_)|refine gC ?_|refine gD ?_|refine VIf.mk (fun h=>?_) (fun h=>?_)|refine gO ?_|refine gP ?_|refine VNat.mk _ rfl ?_|refine gV ?_|refine vret_pf rfl ?_|refine vret_take rfl rfl ?_|refine gK ?_)
      all_goals (try (conv=>whnf))
      refine ⟨.ag [.sl true 0 [],.sl be ze xe,.sl true 0 []],?_,by rw [hcf3]; rfl⟩
      rw [hcf3]
      exact ⟨_,_,_,_,_,_,_,_,rfl,.inr rfl,by simp only [TmsP],hze,hxe rfl,.inr rfl⟩
    |cons d0 dr =>
      have hl8:(List.map encT (d0 :: dr)).length=dr.length + 1:=by simp
      have hdl:Nat.beq (dr.length + 1) (List.map encT (d0 :: dr)).length=true:=by simp
      simp only [c8S,PV.cells]
      repeat' ((conv=>whnf);first|refine gT ?_|refine gF ?_|refine VIf.not ?_|refine gA ?_|refine gB ?_|refine VIf.dec (fun h=>?_) (fun h=>?_)|refine gC ?_|refine gD ?_|refine VIf.mk (fun h=>?_) (fun h=>?_)|refine gO ?_|refine gP ?_|refine VNat.mk _ rfl ?_|refine gV ?_|refine vret_pf rfl ?_|refine vret_take rfl rfl ?_|refine vcall_pf he rfl rfl ?_|refine finds_pf he (fun _=>?_)|refine VOk.mk hdl ?_|refine gK ?_)
      all_goals (try (conv=>whnf))
      all_goals try (exfalso; omega)
      all_goals try exact ⟨_,by rw [hcf2,if_pos (.inl (by omega))]; exact co_zero,by rw [hcf2,if_pos (.inl (by omega))]; rfl⟩
      all_goals try exact ⟨_,by rw [hcf2,if_pos (.inr (by first|assumption|exact Bool.eq_false_iff.2 (by assumption)))]; exact co_zero,by rw [hcf2,if_pos (.inr (by first|assumption|exact Bool.eq_false_iff.2 (by assumption)))]; rfl⟩
      · have h16:16 < (d0 :: dr).length:=by simp only [List.length_cons]; omega
        have hokk:eok=true:=by first|assumption|exact Bool.not_eq_false _ (by assumption)
        have hcf3:ctorF d.nm self fx idx T=(15,⟨[],[],[]⟩):=by
          rw [hcf2,if_neg (by rintro (e|e) <;> first|omega|(rw [hokk] at e; cases e)),if_pos h16]
        exact ⟨_,by rw [hcf3]; exact co_zero,by rw [hcf3]; rfl⟩
      · have h16:¬ 16 < (d0 :: dr).length:=by simp only [List.length_cons]; omega
        have hq:¬ (q:Int) < fx:=by omega
        obtain rfl:eok=true:=by assumption
        have hcf3:ctorF d.nm self fx idx T=(match armsA d.nm self fx idx (d0 :: dr) fx with
          |none=>((21:Int),(⟨[],[],[]⟩:Co))
          |some l=>((0:Int),(⟨d0 :: dr,etg,l⟩:Co))):=by
          rw [hcf2,if_neg (by rintro (e|e) <;> first|omega|cases e),if_neg h16]
        have hXP:TmsP (d0 :: dr) (List.map encT (d0 :: dr)):=tmsP_enc fun a ha=>(hdm a ha).1
        refine loop_over (G:=List Int) (fun g=>[(12,iv g.length)]) (c9S (.box 46 [iv d.k,iv d.p,sv d.nm,iv a1,iv a2,sv a3,.sl a4 a5 a6,.sl a7 a8 a9,iv b1,iv b2,sv b3,.sl b4 b5 b6,.sl b7 b8 b9,iv fx,.sl cb cz cx]) (.box 25 [iv k1,iv nn,sv s,.sl b z xs,.sl c y ys]) (.box 104 [.sl true 0 [],.sl true 0 [],.sl true 0 []]) (.ms 4 (dr.length + 1)) (.sl be ze xe) (.row false 25 5 (List.map encT (d0 :: dr)))) (fun g=>g.length ≤ (d0 :: dr).length∧(armsA d.nm self fx idx ((d0 :: dr).drop g.length) (fx + g.length)).map (g ++ ·)=armsA d.nm self fx idx (d0 :: dr) fx) (fun g=>(d0 :: dr).length - g.length) [] ⟨by simp,by simp⟩ rfl rfl ?_
        rintro g ⟨hi,hall⟩
        have hgl:g.length ≤ 16:=by omega
        have hstep:∀ a,(d0 :: dr)[g.length]? = some a→(armsF d.nm self fx idx (fx + g.length) a).2=true→(armsA d.nm self fx idx ((d0 :: dr).drop (g.length + 1)) (fx + (g.length + 1))).map (fun q=>(g ++ [(armsF d.nm self fx idx (fx + g.length) a).1]) ++ q)=armsA d.nm self fx idx (d0 :: dr) fx:=fun a ha ht=>by
          rw [drop_at ha,armsA,if_pos ht,Option.map_map] at hall
          rw [← hall,show (fx:Int) + g.length + 1=fx + (g.length + 1) by omega]
          congr 1
          funext q
          simp
        have hfail:∀ a,(d0 :: dr)[g.length]? = some a→¬ (armsF d.nm self fx idx (fx + g.length) a).2=true→ctorF d.nm self fx idx T=(21,⟨[],[],[]⟩):=fun a ha ht=>by
          rw [drop_at ha,armsA,if_neg ht] at hall
          rw [hcf3,← hall]
          rfl
        have hdone:¬ g.length < (d0 :: dr).length→ctorF d.nm self fx idx T=(0,⟨d0 :: dr,etg,g⟩):=fun hn=>by
          rw [List.drop_of_length_le (by omega),armsA] at hall
          rw [hcf3,← hall]
          simp
        have hbad:ctorF d.nm self fx idx T=(21,⟨[],[],[]⟩)→∃ u,CoP (ctorF d.nm self fx idx T).2 u∧AEnd.ret [.ag [.sl true 0 [],.sl true 0 [],.sl true 0 []],iv 21] = .ret [u,iv (ctorF d.nm self fx idx T).1]:=fun e=>⟨_,by rw [e]; exact co_zero,by rw [e]⟩
        by_cases hlt:g.length < (d0 :: dr).length
        · obtain ⟨a,ha⟩:∃ a,(d0 :: dr)[g.length]? = some a:=⟨_,List.getElem?_eq_getElem hlt⟩
          have hx:(List.map encT (d0 :: dr))[g.length]? = some (encT a):=by rw [List.getElem?_map,ha]; rfl
          obtain ⟨w1,w2,kk',w3,w4⟩:=hdm a (List.mem_of_getElem? ha)
          have hA:=har (fx + g.length) ⟨by omega,by omega⟩ a kk' w3 w1 (by omega) w2
          have hst:=hstep a ha
          have hfa:=hfail a ha
          obtain ⟨u1,u2,u3,u4,u5,u6,u7,u8,u9,he9⟩:=encT_open a
          rw [he9] at hx hA
          have hjb:Nat.blt g.length (dr.length + 1)=true:=by simpa [Nat.blt_eq] using hlt
          generalize armsF d.nm self (fx:Int) idx (fx + (g.length:Int)) a=R at hA hst hfa
          obtain ⟨rn,rb⟩:=R
          dsimp only at hA hst hfa
          cases g with
          |nil =>
            simp only [c9S]
            repeat' ((conv=>whnf);first|refine gT ?_|refine gF ?_|refine VIf.not ?_|refine gA ?_|refine gB ?_|refine VIf.dec (fun h=>?_) (fun h=>?_)|refine gC ?_|refine gD ?_|refine VIf.mk (fun h=>?_) (fun h=>?_)|refine gO ?_|refine gP ?_|refine VNat.mk _ rfl ?_|refine gV ?_|refine vret_pf rfl ?_|refine vret_take rfl rfl ?_|refine VOk.mk hdl ?_|refine VOk.mk (by rw [hdl,hjb]; rfl) ?_|refine VIdx.mk _ hx ?_|refine vcall_pf hA rfl rfl ?_|refine finds_pf hA (fun _=>?_)|refine gK ?_)
            all_goals (try (conv=>whnf))
            all_goals try (exfalso; simp only [List.length_cons,List.length_nil] at *; omega)
            · refine VAgain.mk _ rfl _ (gc_sh (.cons (sh_box rfl rfl) (.cons (sh_box rfl rfl) (.cons (sh_box rfl rfl) (.cons (sh_box rfl rfl) (.cons (sh_row (encTs_pure _ 6)) (.cons (sh_row rfl) .nil)))))) (.cons (sh_box rfl rfl) (.cons (sh_box rfl rfl) (.cons (sh_box rfl rfl) (.cons (sh_box rfl rfl) (.cons (sh_row (encTs_pure _ 6)) (.cons (sh_row rfl) .nil)))))) rfl rfl rfl rfl rfl) ⟨[rn],⟨by simp only [List.length_cons,List.length_nil]; omega,?_⟩,by simp only [List.length_cons,List.length_nil]; omega,rfl⟩
              exact hst (by assumption)
            · exact hbad (hfa (by intro e; first|contradiction|(rename_i h; exact absurd (e.symm.trans h) (by decide))))
          |cons q0 r0 =>
            have hil:(ints (q0 :: r0)).length=r0.length + 1:=by simp [ints]
            have hgl1:r0.length + 1 ≤ 16:=hgl
            have hp8:(ints (q0 :: r0) ++ [iv rn]).all (pur 8)=true:=by
              rw [show ints (q0 :: r0) ++ [iv rn]=ints (q0 :: r0 ++ [rn]) by simp [ints]]
              exact ints_pure _ 7
            simp only [c9S]
            repeat' ((conv=>whnf);first|refine gT ?_|refine gF ?_|refine VIf.not ?_|refine gA ?_|refine gB ?_|refine VIf.dec (fun h=>?_) (fun h=>?_)|refine gC ?_|refine gD ?_|refine VIf.mk (fun h=>?_) (fun h=>?_)|refine gO ?_|refine gP ?_|refine VNat.mk _ rfl ?_|refine gV ?_|refine vret_pf rfl ?_|refine vret_take rfl rfl ?_|refine VOk.mk hdl ?_|refine VOk.mk (by rw [hdl,hjb]; rfl) ?_|refine VIdx.mk _ hx ?_|refine vcall_pf hA rfl rfl ?_|refine finds_pf hA (fun _=>?_)|refine VOk.mk (grow_ok (w:=8) (r:=140737488355328) hil rfl rfl rfl rfl (by simp only [List.length_cons,List.length_nil]; omega) (by simp only [List.length_cons,List.length_nil]; omega)) ?_|refine gK ?_)
            all_goals (try (conv=>whnf))
            all_goals try (exfalso; simp only [List.length_cons,List.length_nil] at *; omega)
            · refine VAgain.mk _ rfl _ (gc_sh (.cons (sh_box rfl rfl) (.cons (sh_box rfl rfl) (.cons (sh_box rfl rfl) (.cons (sh_box rfl rfl) (.cons (sh_row (encTs_pure _ 6)) (.cons (sh_row hp8) .nil)))))) (.cons (sh_box rfl rfl) (.cons (sh_box rfl rfl) (.cons (sh_box rfl rfl) (.cons (sh_box rfl rfl) (.cons (sh_row (encTs_pure _ 6)) (.cons (sh_row hp8) .nil)))))) rfl rfl rfl rfl rfl) ⟨q0 :: r0 ++ [rn],⟨by simp only [List.length_cons,List.length_append,List.length_nil] at hlt ⊢; omega,?_⟩,by simp only [List.length_cons,List.length_append,List.length_nil] at hlt ⊢; omega,?_⟩
              · have:=hst (by assumption)
                simp only [List.length_cons,List.length_append,List.length_nil] at this ⊢
                exact this
              · have e1:ints (q0 :: (r0 ++ [rn]))=ints (q0 :: r0) ++ [iv rn]:=by simp [ints]
                have e2:(r0 ++ [rn]).length + 1=r0.length + 1 + 1:=by simp
                have e3:(((q0 :: r0 ++ [rn]).length:Nat):Int)=((q0 :: r0).length:Int) + 1:=by simp
                dsimp only [c9S,List.cons_append]
                rw [e1,e2]
                simp only [List.cons_append] at e3
                rw [e3]
                rfl
            · exact hbad (hfa (by intro e; first|contradiction|(rename_i h; exact absurd (e.symm.trans h) (by decide))))
        · have hd:=hdone hlt
          cases g with
          |nil=>exact absurd (by simp) hlt
          |cons q0 r0 =>
            simp only [c9S]
            repeat' ((conv=>whnf);first|refine gT ?_|refine gF ?_|refine VIf.not ?_|refine gA ?_|refine gB ?_|refine VIf.dec (fun h=>?_) (fun h=>?_)|refine gC ?_|refine gD ?_|refine VIf.mk (fun h=>?_) (fun h=>?_)|refine gO ?_|refine gP ?_|refine VNat.mk _ rfl ?_|refine gV ?_|refine vret_pf rfl ?_|refine vret_take rfl rfl ?_|refine VOk.mk hdl ?_|refine gK ?_)
            all_goals (try (conv=>whnf))
            all_goals try (exfalso; simp only [List.length_cons,List.length_nil] at *; omega)
            refine vret_pub rfl (mapS_cons (pubV_ag (mapS_cons (pubV_row rfl hl8.symm (encTs_pure _ 4)) (mapS_cons rfl (mapS_cons (pubV_row rfl (by simp [ints]) (ints_pure _ 5)) mapS_nil)))) (mapS_cons rfl mapS_nil)) rfl ?_
            refine ⟨(.ag [.sl false 5 (List.map encT (d0 :: dr)),.sl be ze xe,.sl false 1 (ints (q0 :: r0))]),?_,by rw [hd]⟩
            rw [hd]
            exact ⟨_,_,_,_,_,_,_,_,rfl,.inl rfl,hXP,hze,hxe rfl,.inl rfl⟩
end Go.Proofs.YtehhihdahalfeaaGreatDoor
namespace Go.Proofs.YtehhihdahalfeaaGreatDoor
open Go Go.Am Go.Gw
set_option maxHeartbeats 2000000 in
set_option maxRecDepth 100000 in
theorem Arms18_can (d:Dc) (v:PV) (h:DcP d v) (hcs:d.cs.length ≤ 1000000) (t:Tm) (w:PV) (hT:TmP t w) (deep:Int):Pf C4 26 [v,w,iv deep] (armsV d t deep):=by
  have hb:=up4_5 (front18_can d v h hcs)
  have hrt:=up4 rfl (refRightT_can t w hT hT.names d.p deep)
  have har:=fun (hf:frontD d=0) (h1:d.fx ≤ deep) (h2:deep ≤ 64) (hr:rightT t d.p deep=true)=>show Pf C4 64 [v,w,iv deep,iv (idxD d)] _ from by
    have hok:=frontD_ok hf
    have hfd:=((formedD hok.1).2 hok.2.1).1
    obtain ⟨hp4,hk0,hnd,hall⟩:=rightT_parts hr
    have hany:=rightT_any hr
    have hsz:=any_siz hany
    have hdp:=any_dep hany
    exact arms18_can d v h t w hT deep (idxD d) hfd ⟨by unfold idxD; omega,by unfold idxD; omega⟩ ⟨by omega,by omega⟩ ⟨by omega,by omega⟩ hall (by omega) (by omega) hsz
  obtain ⟨a1,a2,a3,a4,a5,a6,a7,a8,a9,b1,b2,b3,b4,b5,b6,b7,b8,b9,cb,cz,cx,rfl,hty,hvl,hz,hxs,hlen⟩:=h.parts
  obtain ⟨k0,nn0,s0,ls0,ts0,b0,z0,xs0,c0,y0,ys0,rfl,rfl,-⟩:=hT.open
  by_cases hf:frontD d=0
  · have hok:=frontD_ok hf
    have hfd:=((formedD hok.1).2 hok.2.1).1
    rw [frontV,if_pos hf] at hb
    obtain ⟨r1,r2,r3,r4,r5,hr5⟩:=encL_open (lvD d)
    rw [hr5] at hb
    by_cases hc:deep < d.fx∨64 < deep∨rightT (.mk k0 nn0 s0 ls0 ts0) d.p deep=false
    · rw [armsV,if_pos (Or.inr hc)]
      refine run_intro Tryz.func26 rfl rfl rfl ?_
      repeat' ((conv=>whnf);first|refine gT ?_|refine gF ?_|refine VIf.not ?_|refine gA ?_|refine gB ?_|refine VIf.dec (fun h=>?_) (fun h=>?_)|refine gC ?_|refine gD ?_|refine VIf.mk (fun h=>?_) (fun h=>?_)|refine gO ?_|refine gP ?_|refine VNat.mk _ rfl ?_|refine gV ?_|refine vret_pf rfl ?_|refine vret_take rfl rfl ?_|refine vcall_pf hb rfl rfl ?_|refine vcall_pf hrt rfl rfl ?_|refine finds_pf hb (fun _=>?_)|refine finds_pf hrt (fun _=>?_)|refine gK ?_)
      all_goals (try (conv=>whnf))
      all_goals first|rfl|(exfalso; rcases hc with hc|hc|hc <;> simp_all)|(exfalso; omega)
    · have hr:rightT (.mk k0 nn0 s0 ls0 ts0) d.p deep=true:=by
        cases e:rightT (.mk k0 nn0 s0 ls0 ts0) d.p deep with
        |true=>rfl
        |false=>exact absurd (.inr (.inr e)) hc
      have ha:=har hf (by omega) (by omega) hr
      rw [hr] at hrt
      rw [armsV,if_neg (fun e=>e.elim (fun e=>e hf) hc)]
      generalize armsF d.nm (selfD d) d.fx (idxD d) deep (.mk k0 nn0 s0 ls0 ts0)=q at ha
      obtain ⟨n,ok⟩:=q
      cases ok
      all_goals
        refine run_intro Tryz.func26 rfl rfl rfl ?_
        repeat' ((conv=>whnf);first|refine gT ?_|refine gF ?_|refine VIf.not ?_|refine gA ?_|refine gB ?_|refine VIf.dec (fun h=>?_) (fun h=>?_)|refine gC ?_|refine gD ?_|refine VIf.mk (fun h=>?_) (fun h=>?_)|refine gO ?_|refine gP ?_|refine VNat.mk _ rfl ?_|refine gV ?_|refine vret_pf rfl ?_|refine vret_take rfl rfl ?_|refine vcall_pf hb rfl rfl ?_|refine vcall_pf hrt rfl rfl ?_|refine vcall_pf ha rfl rfl ?_|refine finds_pf hb (fun _=>?_)|refine finds_pf hrt (fun _=>?_)|refine finds_pf ha (fun _=>?_)|refine gK ?_)
        all_goals (try (conv=>whnf))
        all_goals first|rfl|(exfalso; omega)
  · rw [frontV,if_neg hf,zeroL] at hb
    rw [armsV,if_pos (Or.inl hf)]
    generalize frontD d=fd at hb hf
    refine run_intro Tryz.func26 rfl rfl rfl ?_
    repeat' ((conv=>whnf);first|refine gT ?_|refine gF ?_|refine VIf.not ?_|refine gA ?_|refine gB ?_|refine VIf.dec (fun h=>?_) (fun h=>?_)|refine gC ?_|refine gD ?_|refine VIf.mk (fun h=>?_) (fun h=>?_)|refine gO ?_|refine gP ?_|refine VNat.mk _ rfl ?_|refine gV ?_|refine vret_pf rfl ?_|refine vret_take rfl rfl ?_|refine vcall_pf hb rfl rfl ?_|refine finds_pf hb (fun _=>?_)|refine gK ?_)
    all_goals (try (conv=>whnf))
    all_goals first|rfl|(exfalso; omega)
/-- a family's form while its constructors are gone through -/
def s8S (x y z:SO) (fc:List PV):List PV→Sto
  |[]=>[x,y,z,.box 59 (fc ++ [.sl true 0 []])]
  |v :: r=>[x,y,z,.box 59 (fc ++ [.ms 5 (r.length + 1)]),.dead,.row false 104 3 (v :: r)]
set_option maxHeartbeats 4000000 in
set_option maxRecDepth 100000 in
theorem Shape18_can (d:Dc) (v:PV) (h:DcP d v) (hcs:d.cs.length ≤ 1000000):∃ w,(if shapeE d=0 then FamP (idxD d) (lvD d) (shapeC d) w else w=famZ0)∧Pf C4 24 [v] [w,iv (shapeE d)]:=by
  suffices key:Finds C4 24 [v] [] fun r _=>∃ w,(if shapeE d=0 then FamP (idxD d) (lvD d) (shapeC d) w else w=famZ0)∧r = .ret [w,iv (shapeE d)] by
    obtain ⟨r,st',⟨w,h1,rfl⟩,N,hN⟩:=key
    exact ⟨w,h1,_,st',rfl,N,hN⟩
  have hb:=up4_5 (front18_can d v h hcs)
  have hfd:=fun e=>formedD (d:=d) e
  have hbad:∀ e,shapeE d=e→e ≠ 0→∃ w,(if shapeE d=0 then FamP (idxD d) (lvD d) (shapeC d) w else w=famZ0)∧AEnd.ret [famZ0,iv e] = .ret [w,iv (shapeE d)]:=fun e he h0=>⟨famZ0,by rw [if_neg (by rw [he]; exact h0)],by rw [he]⟩
  by_cases hf:frontD d=0
  · have hE:shapeE d=(shapeL d.nm (selfD d) d.fx (idxD d) d.cs).1:=by rw [shapeE,if_pos hf]
    have hC:shapeC d=(shapeL d.nm (selfD d) d.fx (idxD d) d.cs).2:=rfl
    rw [frontV,if_pos hf] at hb
    obtain ⟨o1,o2,o3,o4,-,o5,-⟩:=frontD_ok hf
    obtain ⟨⟨-,hrt⟩,hk5⟩:=hfd o1
    obtain ⟨hfx01,hcs8,hcsr⟩:=hk5 o2
    have hp0:=(rightT_parts hrt).1
    have hct:=fun (c:List UInt8 × Tm) (hc:c ∈ d.cs) (u:PV) (hv:TmP c.2 u)=>ctor18_can d v h c.2 u hv (idxD d) hfx01 ⟨by unfold idxD; omega,by unfold idxD; omega⟩ ⟨by omega,by omega⟩ (hcsr c hc).2
    generalize idxD d=idx at *
    generalize lvD d=lv at *
    generalize shapeE d=E at *
    generalize shapeC d=CC at *
    generalize selfD d=self at *
    obtain ⟨r1,r2,r3,r4,r5,hr5⟩:=encL_open lv
    rw [hr5] at hb
    obtain ⟨k,p,nm,ty,vl,fx,cs,a1,a2,a3,a4,a5,a6,a7,a8,a9,b1,b2,b3,b4,b5,b6,b7,b8,b9,cb,cz,cx,hty,hvl,hz,hxs,hlen,hnm,hk,hp,hfx⟩:=h
    dsimp only at hct hE hC hcs8
    have hcl:=hxs.len
    refine run_intro Tryz.func24 rfl rfl rfl ?_
    repeat' ((conv=>whnf);first|refine gT ?_|refine gF ?_|refine VIf.not ?_|refine gA ?_|refine gB ?_|refine VIf.dec (fun h=>?_) (fun h=>?_)|refine gC ?_|refine gD ?_|refine VIf.mk (fun h=>?_) (fun h=>?_)|refine gO ?_|refine gP ?_|refine VNat.mk _ rfl ?_|refine gV ?_|refine vret_pf rfl ?_|refine vret_take rfl rfl ?_|refine vcall_pf hb rfl rfl ?_|refine finds_pf hb (fun _=>?_)|refine gK ?_)
    all_goals (try (conv=>whnf))
    have hfin:∀ e q,shapeL nm self fx idx cs=(e,q)→E=e∧CC=q:=fun e q hq=>by
      rw [hE,hC,hq]
      exact ⟨rfl,rfl⟩
    refine loop_over (G:=List Co × List PV) (fun g=>[(8,iv g.1.length)]) (fun g=>s8S (.box 46 [iv k,iv p,sv nm,iv a1,iv a2,sv a3,.sl a4 a5 a6,.sl a7 a8 a9,iv b1,iv b2,sv b3,.sl b4 b5 b6,.sl b7 b8 b9,iv fx,.sl cb cz cx]) (.box 59 [iv 0,iv 0,iv 0,.sl true 0 [],.sl true 0 []]) (.box 50 [iv r1,iv r2,.sl r3 r4 r5]) [iv idx,iv r1,iv r2,.sl r3 r4 r5] g.2) (fun g=>CosP g.1 g.2∧g.1.length ≤ cs.length∧joinS g.1 (shapeL nm self fx idx (cs.drop g.1.length))=shapeL nm self fx idx cs) (fun g=>cs.length - g.1.length) ([],[]) ⟨by simp only [CosP],by simp,joinS_nil cs⟩ rfl rfl ?_
    rintro ⟨g,ws⟩ ⟨hg,hgl,hall⟩
    dsimp only at hg hgl hall ⊢
    have hwl:=hg.len
    have hstep:¬ g.length < cs.length∨∃ c w z,cs[g.length]? = some c∧cx[g.length]? = some z∧LoP c z∧CoP (ctorF nm self fx idx c.2).2 w∧(∃ s q,z = .ag (sv s :: q)∧Pf C4 61 [.ag [iv k,iv p,sv nm,iv a1,iv a2,sv a3,.sl a4 a5 a6,.sl a7 a8 a9,iv b1,iv b2,sv b3,.sl b4 b5 b6,.sl b7 b8 b9,iv fx,.sl cb cz cx],.ag q,iv idx] [w,iv (ctorF nm self fx idx c.2).1]):=by
      by_cases hlt:g.length < cs.length
      · obtain ⟨c,hc⟩:∃ c,cs[g.length]? = some c:=⟨_,List.getElem?_eq_getElem hlt⟩
        obtain ⟨z,hz1,hz2⟩:=hxs.at hc
        obtain ⟨s,q1,q2,q3,q4,q5,q6,q7,q8,q9,t,rfl,rfl,ht,-⟩:=hz2.open
        obtain ⟨w,hw1,hw2⟩:=hct _ (List.mem_of_getElem? hc) _ ht
        exact .inr ⟨_,w,_,hc,hz1,hz2,hw1,s,_,rfl,hw2⟩
      · exact .inl hlt
    have hcx:∀ {i:Nat},((i:Int) < cx.length)→i < cs.length:=fun h=>by omega
    cases ws with
    |nil =>
      obtain rfl:g=[]:=List.eq_nil_of_length_eq_zero (by simpa using hwl.symm)
      simp only [s8S,List.cons_append,List.nil_append]
      repeat' ((conv=>whnf);first|refine gT ?_|refine gF ?_|refine VIf.not ?_|refine gA ?_|refine gB ?_|refine VIf.dec (fun h=>?_) (fun h=>?_)|refine gC ?_|refine gD ?_|refine VIf.mk (fun h=>?_) (fun h=>?_)|refine gO ?_|refine gP ?_|refine VNat.mk _ rfl ?_|refine gV ?_|refine vret_pf rfl ?_|refine vret_take rfl rfl ?_|refine gK ?_)
      all_goals (try (conv=>whnf))
      · rcases hstep with hno|⟨c,w,z,hc,hz1,hz2,hw,s,q,rfl,hpf⟩
        · exact absurd (hcx (by assumption)) hno
        · have hd:=drop_at hc
          rw [hd] at hall
          obtain ⟨s',q1,q2,q3,q4,q5,q6,q7,q8,q9,t,rfl,hzz,ht,-⟩:=hz2.open
          injection hzz with hzz
          injection hzz with hz3 hz4
          subst hz4
          dsimp only at hpf hw
          have hok:=fun e=>joinS_ok (g:=[]) (c:=(s',t)) (r:=cs.drop (0 + 1)) (nm:=nm) (self:=self) (fx:=fx) (idx:=idx) e
          have hko:=fun e=>joinS_bad (g:=[]) (c:=(s',t)) (r:=cs.drop (0 + 1)) (nm:=nm) (self:=self) (fx:=fx) (idx:=idx) e
          dsimp only at hok hko
          have hw':=hw
          obtain ⟨w1,w2,w3,w4,w5,w6,w7,w8,rfl,-⟩:=hw'
          generalize ctorF nm self fx idx t=R at hpf hw hok hko
          obtain ⟨re,rc⟩:=R
          dsimp only at hpf hw hok hko
          repeat' ((conv=>whnf);first|refine gT ?_|refine gF ?_|refine VIf.not ?_|refine gA ?_|refine gB ?_|refine VIf.dec (fun h=>?_) (fun h=>?_)|refine gC ?_|refine gD ?_|refine VIf.mk (fun h=>?_) (fun h=>?_)|refine gO ?_|refine gP ?_|refine VNat.mk _ rfl ?_|refine gV ?_|refine vret_pf rfl ?_|refine vret_take rfl rfl ?_|refine VIdx.mk _ hz1 ?_|refine VOk.mk (szOk_of rfl hz) ?_|refine vcall_pf hpf rfl rfl ?_|refine finds_pf hpf (fun _=>?_)|refine gK ?_)
          all_goals (try (conv=>whnf))
          · have e:=hok (by assumption)
            refine VAgain.mk _ rfl _ (gc_sh (.cons (sh_box rfl rfl) (.cons (sh_box rfl rfl) (.cons (sh_box rfl rfl) (.cons (sh_box rfl rfl) (.cons (sh_box rfl rfl) (.cons (sh_row rfl) .nil)))))) (.cons (sh_box rfl rfl) (.cons (sh_box rfl rfl) (.cons (sh_box rfl rfl) (.cons (sh_box rfl rfl) (.cons sh_dead (.cons (sh_row rfl) .nil)))))) rfl rfl rfl rfl rfl) ⟨([rc],[.ag [.sl w1 w2 w3,.sl w4 w5 w6,.sl w7 w8 (ints rc.ar)]]),⟨by simp only [CosP]; exact ⟨_,_,rfl,hw,rfl⟩,by simp only [List.length_cons,List.length_nil]; have:=hcx (i:=0) (by assumption); omega,?_⟩,by simp only [List.length_cons,List.length_nil]; have:=hcx (i:=0) (by assumption); omega,rfl⟩
            rw [← hall]
            exact e.symm
          · exact hbad re (hfin _ _ (hall.symm.trans (hko (by assumption)))).1 (by assumption)
      · have hno:¬ 0 < cs.length:=fun e=>by
          have h9:¬ ((List.length ([]:List Co):Nat):Int) < cx.length:=by assumption
          simp only [List.length_nil] at h9
          omega
        have hnil:cs=[]:=List.eq_nil_of_length_eq_zero (by omega)
        rw [hnil] at hall
        obtain ⟨q1,q2⟩:=hfin 0 [] (by rw [hnil]; rfl)
        subst q1 q2
        exact ⟨.ag [iv idx,iv r1,iv r2,.sl r3 r4 r5,.sl true 0 []],fam_in ⟨_,_,_,by rw [hr5]; rfl,.inr rfl,by simp only [CosP]⟩,rfl⟩
    |cons w0 wr =>
      have hgn:g.length=wr.length + 1:=by simpa using hwl.symm
      have hp8:(w0 :: wr).all (pur 8)=true:=hg.pure 6
      simp only [s8S,List.cons_append,List.nil_append]
      repeat' ((conv=>whnf);first|refine gT ?_|refine gF ?_|refine VIf.not ?_|refine gA ?_|refine gB ?_|refine VIf.dec (fun h=>?_) (fun h=>?_)|refine gC ?_|refine gD ?_|refine VIf.mk (fun h=>?_) (fun h=>?_)|refine gO ?_|refine gP ?_|refine VNat.mk _ rfl ?_|refine gV ?_|refine vret_pf rfl ?_|refine vret_take rfl rfl ?_|refine gK ?_)
      all_goals (try (conv=>whnf))
      · rcases hstep with hno|⟨c,w,z,hc,hz1,hz2,hw,s,q,rfl,hpf⟩
        · exact absurd (hcx (by assumption)) hno
        · have hlt:=hcx (by assumption)
          have hd:=drop_at hc
          rw [hd] at hall
          obtain ⟨s',q1,q2,q3,q4,q5,q6,q7,q8,q9,t,rfl,hzz,ht,-⟩:=hz2.open
          injection hzz with hzz
          injection hzz with hz3 hz4
          subst hz4
          dsimp only at hpf hw
          have hok:=fun e=>joinS_ok (g:=g) (c:=(s',t)) (r:=cs.drop (g.length + 1)) (nm:=nm) (self:=self) (fx:=fx) (idx:=idx) e
          have hko:=fun e=>joinS_bad (g:=g) (c:=(s',t)) (r:=cs.drop (g.length + 1)) (nm:=nm) (self:=self) (fx:=fx) (idx:=idx) e
          dsimp only at hok hko
          have hw':=hw
          obtain ⟨w1,w2,w3,w4,w5,w6,w7,w8,rfl,-⟩:=hw'
          generalize ctorF nm self fx idx t=R at hpf hw hok hko
          obtain ⟨re,rc⟩:=R
          dsimp only at hpf hw hok hko
          have hsn:=hg.snoc hw
          have hp8:(w0 :: wr ++ [PV.ag [.sl w1 w2 w3,.sl w4 w5 w6,.sl w7 w8 (ints rc.ar)]]).all (pur 8)=true:=hsn.pure 6
          have hrl:(w0 :: wr).length=wr.length + 1:=rfl
          repeat' ((conv=>whnf);first|refine gT ?_|refine gF ?_|refine VIf.not ?_|refine gA ?_|refine gB ?_|refine VIf.dec (fun h=>?_) (fun h=>?_)|refine gC ?_|refine gD ?_|refine VIf.mk (fun h=>?_) (fun h=>?_)|refine gO ?_|refine gP ?_|refine VNat.mk _ rfl ?_|refine gV ?_|refine vret_pf rfl ?_|refine vret_take rfl rfl ?_|refine VIdx.mk _ hz1 ?_|refine VOk.mk (szOk_of rfl hz) ?_|refine vcall_pf hpf rfl rfl ?_|refine finds_pf hpf (fun _=>?_)|refine VOk.mk (grow_ok (w:=72) (r:=140737488355328) hrl rfl rfl rfl rfl (by simp only [List.length_cons,List.length_nil]; omega) (by simp only [List.length_cons,List.length_nil]; omega)) ?_|refine gK ?_)
          all_goals (try (conv=>whnf))
          · have e:=hok (by assumption)
            refine VAgain.mk _ rfl _ (gc_sh (.cons (sh_box rfl rfl) (.cons (sh_box rfl rfl) (.cons (sh_box rfl rfl) (.cons (sh_box rfl rfl) (.cons sh_dead (.cons (sh_row hp8) (.cons (sh_box rfl rfl) .nil))))))) (.cons (sh_box rfl rfl) (.cons (sh_box rfl rfl) (.cons (sh_box rfl rfl) (.cons (sh_box rfl rfl) (.cons sh_dead (.cons (sh_row hp8) .nil)))))) rfl rfl rfl rfl rfl) ⟨(g ++ [rc],w0 :: wr ++ [.ag [.sl w1 w2 w3,.sl w4 w5 w6,.sl w7 w8 (ints rc.ar)]]),⟨hsn,by simp only [List.length_append,List.length_cons,List.length_nil]; omega,?_⟩,by simp only [List.length_append,List.length_cons,List.length_nil]; omega,?_⟩
            · simp only [List.length_append,List.length_cons,List.length_nil]
              rw [← hall]
              exact e.symm
            · have e2:(wr ++ [PV.ag [.sl w1 w2 w3,.sl w4 w5 w6,.sl w7 w8 (ints rc.ar)]]).length + 1=wr.length + 1 + 1:=by simp
              have e3:(((g ++ [rc]).length:Nat):Int)=(g.length:Int) + 1:=by simp
              dsimp only [s8S,List.cons_append]
              rw [e2,e3]
              rfl
          · exact hbad re (hfin _ _ (hall.symm.trans (hko (by assumption)))).1 (by assumption)
      · have hno:¬ g.length < cs.length:=fun e=>by
          have h9:¬ ((g.length:Nat):Int) < cx.length:=by assumption
          omega
        rw [List.drop_of_length_le (by omega)] at hall
        have hj:joinS g (shapeL nm self fx idx [])=(0,g):=by simp [joinS,shapeL]
        rw [hj] at hall
        obtain ⟨q1,q2⟩:=hfin 0 g hall.symm
        refine vret_pub rfl (mapS_cons (pubV_ag (mapS_cons rfl (mapS_cons rfl (mapS_cons rfl (mapS_cons rfl (mapS_cons (pubV_row rfl rfl (hg.pure 4)) mapS_nil)))))) (mapS_cons rfl mapS_nil)) rfl ?_
        subst q1 q2
        exact ⟨.ag [iv idx,iv r1,iv r2,.sl r3 r4 r5,.sl false 3 (w0 :: wr)],fam_in ⟨_,_,_,by rw [hr5]; rfl,.inl rfl,hg⟩,rfl⟩
  · rw [frontV,if_neg hf,zeroL] at hb
    have hE:shapeE d=frontD d:=by rw [shapeE,if_neg hf]
    have hr:=hbad _ hE hf
    generalize frontD d=e at hb hr hf
    obtain ⟨k,p,nm,ty,vl,fx,cs,a1,a2,a3,a4,a5,a6,a7,a8,a9,b1,b2,b3,b4,b5,b6,b7,b8,b9,cb,cz,cx,hty,hvl,hz,hxs,hlen,hnm,hk,hp,hfx⟩:=h
    refine run_intro Tryz.func24 rfl rfl rfl ?_
    repeat' ((conv=>whnf);first|refine gT ?_|refine gF ?_|refine VIf.not ?_|refine gA ?_|refine gB ?_|refine VIf.dec (fun h=>?_) (fun h=>?_)|refine gC ?_|refine gD ?_|refine VIf.mk (fun h=>?_) (fun h=>?_)|refine gO ?_|refine gP ?_|refine VNat.mk _ rfl ?_|refine gV ?_|refine vret_pf rfl ?_|refine vret_take rfl rfl ?_|refine vcall_pf hb rfl rfl ?_|refine finds_pf hb (fun _=>?_)|refine gK ?_)
    all_goals (try (conv=>whnf))
    exact hr
end Go.Proofs.YtehhihdahalfeaaGreatDoor
