/-
  Small functions of terms, and what the references find. No statement of the seat.
-/
import Derived.Test.YtehhihdahalfeaaGreatDoorZPu
import Derived.Test.YtehhihdahalfeaaGreatDoorZPr
set_option linter.unusedVariables false
set_option linter.unusedSimpArgs false
set_option linter.unnecessarySimpa false
namespace Go.Proofs.YtehhihdahalfeaaGreatDoor
open Go Go.Am Go.Gw
set_option maxRecDepth 100000 in
theorem Const_can (s:List UInt8) (b:Bool) (z:Nat):Pf C1 76 [sv s,.sl b z []] [encT (.mk 3 0 s [] [])]:=by
  refine run_intro Tryz.func76 rfl rfl rfl ?_
  repeat' ((conv=>whnf);first|refine gT ?_|refine gF ?_|refine VIf.not ?_|refine gA ?_|refine gB ?_|refine VIf.dec (fun h=>?_) (fun h=>?_)|refine gC ?_|refine gD ?_|refine VIf.mk (fun h=>?_) (fun h=>?_)|refine gO ?_|refine gP ?_|refine VNat.mk _ rfl ?_|refine gV ?_|refine vret_pf rfl ?_|refine vret_take rfl rfl ?_|refine gK ?_)
  all_goals (try (conv=>whnf))
  refine loop_over (G:=Unit) (fun _=>[]) (fun _=>_) (fun _=>True) (fun _=>0) () trivial rfl rfl ?_
  rintro _ _
  repeat' ((conv=>whnf);first|refine gT ?_|refine gF ?_|refine VIf.not ?_|refine gA ?_|refine gB ?_|refine VIf.dec (fun h=>?_) (fun h=>?_)|refine gC ?_|refine gD ?_|refine VIf.mk (fun h=>?_) (fun h=>?_)|refine gO ?_|refine gP ?_|refine VNat.mk _ rfl ?_|refine gV ?_|refine vret_pf rfl ?_|refine vret_take rfl rfl ?_|refine gK ?_)
  all_goals (try (conv=>whnf))
  rfl
set_option maxRecDepth 100000 in
theorem App_can (t:Tm) (v:PV) (h:TmP t v) (b:Bool) (z:Nat):Pf C1 52 [v,.sl b z []] [encT t]:=by
  have hf:=fresh_can t v h
  obtain ⟨k2,n2,s2,b2,z2,x2,c2,y2,ys2,he⟩:=encT_open t
  obtain ⟨k0,n0,s0,ls0,ts0,b0,z0,xs,c,y,ys,rfl,rfl,hz,hxs,hlen,hbd,hy,hys,hlen2,hbd2,hsl⟩:=h.open
  rw [he] at hf ⊢
  refine run_intro Tryz.func52 rfl rfl rfl ?_
  repeat' ((conv=>whnf);first|refine gT ?_|refine gF ?_|refine VIf.not ?_|refine gA ?_|refine gB ?_|refine VIf.dec (fun h=>?_) (fun h=>?_)|refine gC ?_|refine gD ?_|refine VIf.mk (fun h=>?_) (fun h=>?_)|refine gO ?_|refine gP ?_|refine VNat.mk _ rfl ?_|refine gV ?_|refine vret_pf rfl ?_|refine vret_take rfl rfl ?_|refine vcall_pf hf rfl rfl ?_|refine gK ?_)
  all_goals (try (conv=>whnf))
  refine loop_over (G:=Unit) (fun _=>[]) (fun _=>_) (fun _=>True) (fun _=>0) () trivial rfl rfl ?_
  rintro _ _
  repeat' ((conv=>whnf);first|refine gT ?_|refine gF ?_|refine VIf.not ?_|refine gA ?_|refine gB ?_|refine VIf.dec (fun h=>?_) (fun h=>?_)|refine gC ?_|refine gD ?_|refine VIf.mk (fun h=>?_) (fun h=>?_)|refine gO ?_|refine gP ?_|refine VNat.mk _ rfl ?_|refine gV ?_|refine vret_pf rfl ?_|refine vret_take rfl rfl ?_|refine gK ?_)
  all_goals (try (conv=>whnf))
  rfl
set_option maxRecDepth 100000 in
theorem binds_can (k i:Int) (hk:1 ≤ k) (hi:0 ≤ i):Pf C1 77 [iv k,iv i] [bv (decide (i=shBinds k))]:=by
  refine run_intro Tryz.func77 rfl rfl rfl ?_
  repeat' ((conv=>whnf);first|refine gT ?_|refine gF ?_|refine VIf.not ?_|refine gA ?_|refine gB ?_|refine VIf.dec (fun h=>?_) (fun h=>?_)|refine gC ?_|refine gD ?_|refine VIf.mk (fun h=>?_) (fun h=>?_)|refine gO ?_|refine gP ?_|refine VNat.mk _ rfl ?_|refine gV ?_|refine vret_pf rfl ?_|refine vret_take rfl rfl ?_|refine gK ?_)
  all_goals (try (conv=>whnf))
  all_goals simp_all [shBinds]
  all_goals omega
theorem squo16 {P:Program} {T:TypeId} {x y:Operand} {a:Nat} (h:a ≤ 140737488355328):slowBin P .quo T x y (iv a) (iv 16)=some (iv (a / 16:Nat)):=by
  have e:((a:Int).tdiv 16)=(a / 16:Nat):=by rw [Int.tdiv_eq_ediv_of_nonneg (by omega)]; rfl
  have hw:IntKind.i64.wrap ((a / 16:Nat):Int)=(a / 16:Nat):=by
    have h1:a / 16 ≤ a:=Nat.div_le_self a 16
    apply wrap_i64
    unfold i64
    omega
  have hz:¬ ((16:Int)=0):=by omega
  simp only [slowBin,toVal,eqGuard,binOp,Op.intDiv,e,hw,if_neg hz]
  rfl
/- bounds -/
theorem lnF_bd (l:Lv) (q:Int) (h:0 ≤ q):1 ≤ lnF l q∧lnF l q ≤ q + 1:=by
  have:=lnF_eq l q h
  have:=nodes_sizeL l
  omega
theorem lnFs_bd (q:Int) (h:0 ≤ q):∀ (ls:List Lv) (acc:Int),acc ≤ lnFs ls acc q
  |[],acc=>by simp [lnFs]
  |l :: r,acc=>by
    rw [lnFs]
    split
    · have:=lnFs_bd q h r (acc + lnF l q)
      have:=lnF_bd l q h
      omega
    · omega
mutual
theorem useN_bd:∀ (t:Tm) (q:Int),0 ≤ q→1 ≤ useN t q∧useN t q ≤ q + 1
  | .mk _ _ s ls ts,q,h=>by
    rw [useN]
    have:=useNs_bd ts (lnFs ls (1 + ((s.length / 16:Nat):Int)) q) q h
    have:=lnFs_bd q h ls (1 + ((s.length / 16:Nat):Int))
    omega
theorem useNs_bd:∀ (ts:List Tm) (acc q:Int),0 ≤ q→acc ≤ useNs ts acc q
  |[],acc,q,h=>by simp [useNs]
  |t :: r,acc,q,h=>by
    rw [useNs]
    split
    · have:=useNs_bd r (acc + useN t q) q h
      have:=useN_bd t q h
      omega
    · omega
end
mutual
theorem refN_bd:∀ (t:Tm) (q:Int),0 ≤ q→1 ≤ refN t q∧refN t q ≤ q + 1
  | .mk _ _ s ls ts,q,h=>by
    rw [refN]
    have:=refNs_bd ts (lnFs ls 1 q) q h
    have:=lnFs_bd q h ls 1
    omega
theorem refNs_bd:∀ (ts:List Tm) (acc q:Int),0 ≤ q→acc ≤ refNs ts acc q
  |[],acc,q,h=>by simp [refNs]
  |t :: r,acc,q,h=>by
    rw [refNs]
    split
    · have:=refNs_bd r (acc + refN t q) q h
      have:=refN_bd t q h
      omega
    · omega
end
set_option maxRecDepth 100000 in
theorem useNodes_can (t:Tm):∀ v,TmP t v→∀ (q:Int),0 ≤ q→q ≤ 1000000→Pf C1 21 [v,iv q] [iv (useN t q)]:=by
  induction t using Tm.ind with
  |_ k nn s ls ts ih =>
  intro v h q h0 h1
  obtain ⟨_,_,_,_,_,b,z,xs,c,y,ys,⟨rfl,rfl,rfl,rfl,rfl⟩,rfl,hz,hxs,hlen,hbd,hy,hys,hlen2,hbd2,hsl⟩:=h.open
  have hsz:ByteArray.size ⟨s.toArray⟩=s.length:=by simp [ba_size]
  have hdv:s.length / 16 ≤ s.length:=Nat.div_le_self _ _
  refine run_intro Tryz.func21 rfl rfl rfl ?_
  repeat' ((conv=>whnf);first|refine gT ?_|refine gF ?_|refine VIf.not ?_|refine gA ?_|refine gB ?_|refine VIf.dec (fun h=>?_) (fun h=>?_)|refine gC ?_|refine gD ?_|refine VIf.mk (fun h=>?_) (fun h=>?_)|refine gO ?_|refine gP ?_|refine VNat.mk _ rfl ?_|refine gV ?_|refine vret_pf rfl ?_|refine vret_take rfl rfl ?_|refine gK ?_)
  all_goals (try (conv=>whnf))
  refine VRes.mk _ (squo16 (by rw [hsz]; omega)) ?_
  rw [hsz]
  repeat' ((conv=>whnf);first|refine gT ?_|refine gF ?_|refine VIf.not ?_|refine gA ?_|refine gB ?_|refine VIf.dec (fun h=>?_) (fun h=>?_)|refine gC ?_|refine gD ?_|refine VIf.mk (fun h=>?_) (fun h=>?_)|refine gO ?_|refine gP ?_|refine VNat.mk _ rfl ?_|refine gV ?_|refine vret_pf rfl ?_|refine vret_take rfl rfl ?_|refine gK ?_)
  all_goals (try (conv=>whnf))
  refine loop_over (G:=Nat × Int) (fun g=>[(6,iv g.1),(5,iv g.2)]) (fun g=>_) (fun g=>g.1 ≤ ls.length∧1 ≤ g.2∧g.2 ≤ 8796093022210 + 2 * q∧lnFs (ls.drop g.1) g.2 q=lnFs ls (1 + ((s.length / 16:Nat):Int)) q) (fun g=>ls.length - g.1) (0,1 + ((s.length / 16:Nat):Int)) ⟨by omega,by dsimp only; omega,by dsimp only; omega,rfl⟩ rfl rfl ?_
  rintro ⟨i,acc⟩ ⟨hi,ha1,ha2,hacc⟩
  dsimp only at hi ha1 ha2 hacc ⊢
  repeat' ((conv=>whnf);first|refine gT ?_|refine gF ?_|refine VIf.not ?_|refine gA ?_|refine gB ?_|refine VIf.dec (fun h=>?_) (fun h=>?_)|refine gC ?_|refine gD ?_|refine VIf.mk (fun h=>?_) (fun h=>?_)|refine gO ?_|refine gP ?_|refine VNat.mk _ rfl ?_|refine gV ?_|refine vret_pf rfl ?_|refine vret_take rfl rfl ?_|refine gK ?_)
  all_goals (try (conv=>whnf))
  · have hi':i < ls.length:=by omega
    obtain ⟨lc,hlc⟩:∃ lc,ls[i]? = some lc:=⟨_,List.getElem?_eq_getElem hi'⟩
    obtain ⟨v,hv,hl⟩:=hxs.at hlc
    have hrec:=levelNodes_can lc _ hl q h0 h1
    have hx:=lnF_eq lc q h0
    have hxp:=nodes_sizeL lc
    obtain ⟨k1,n1,l1,b1,z1,x1,rfl,rfl,hz1,hxs1,hlen1,hbd1⟩:=hl.open
    refine VIdx.mk _ hv (VOk.mk (szOk_of rfl hz) ?_)
    repeat' ((conv=>whnf);first|refine gT ?_|refine gF ?_|refine VIf.not ?_|refine gA ?_|refine gB ?_|refine VIf.dec (fun h=>?_) (fun h=>?_)|refine gC ?_|refine gD ?_|refine VIf.mk (fun h=>?_) (fun h=>?_)|refine gO ?_|refine gP ?_|refine VNat.mk _ rfl ?_|refine gV ?_|refine vret_pf rfl ?_|refine vret_take rfl rfl ?_|refine vcall_pf hrec rfl rfl ?_|refine gK ?_)
    all_goals (try (conv=>whnf))
    refine VAgain.mk _ rfl _ (gc_take rfl rfl rfl) ⟨(i + 1,acc + lnF (.mk k1 n1 l1) q),⟨hi',by dsimp only; omega,by dsimp only; omega,?_⟩,by dsimp only; omega,rfl⟩
    rw [← hacc,drop_at hlc,lnFs,if_pos (by omega)]
  all_goals
    have e:lnFs ls (1 + ((s.length / 16:Nat):Int)) q=acc:=by
      rw [← hacc]
      by_cases hil:i < ls.length
      · obtain ⟨lc,hlc⟩:∃ lc,ls[i]? = some lc:=⟨_,List.getElem?_eq_getElem hil⟩
        rw [drop_at hlc,lnFs,if_neg (by omega)]
      · rw [List.drop_of_length_le (by omega),lnFs]
    clear hacc
    refine loop_over (G:=Nat × Int) (fun g=>[(7,iv g.1),(5,iv g.2)]) (fun g=>_) (fun g=>g.1 ≤ ts.length∧1 ≤ g.2∧g.2 ≤ 8796093022210 + 2 * q∧useNs (ts.drop g.1) g.2 q=useNs ts acc q) (fun g=>ts.length - g.1) (0,acc) ⟨by omega,by dsimp only; omega,by dsimp only; omega,rfl⟩ rfl rfl ?_
    rintro ⟨j,ac2⟩ ⟨hj,hb1,hb2,hacc2⟩
    dsimp only at hj hb1 hb2 hacc2 ⊢
    repeat' ((conv=>whnf);first|refine gT ?_|refine gF ?_|refine VIf.not ?_|refine gA ?_|refine gB ?_|refine VIf.dec (fun h=>?_) (fun h=>?_)|refine gC ?_|refine gD ?_|refine VIf.mk (fun h=>?_) (fun h=>?_)|refine gO ?_|refine gP ?_|refine VNat.mk _ rfl ?_|refine gV ?_|refine vret_pf rfl ?_|refine vret_take rfl rfl ?_|refine gK ?_)
    all_goals (try (conv=>whnf))
    · have hj':j < ts.length:=by omega
      obtain ⟨tc,htc⟩:∃ tc,ts[j]? = some tc:=⟨_,List.getElem?_eq_getElem hj'⟩
      obtain ⟨v,hv,hl⟩:=hys.at htc
      have hrec:=ih _ (List.mem_of_getElem? htc) _ hl q h0 h1
      have hx:=useN_bd tc q h0
      obtain ⟨k1,n1,s1,l1,t1,b1,z1,x1,c1,y1,ys1,rfl,rfl,hz1,hxs1,hlen1,hbd1,hy1,hys1,hlen21,hbd21,hsl1⟩:=hl.open
      refine VIdx.mk _ hv (VOk.mk (szOk_of rfl hy) ?_)
      repeat' ((conv=>whnf);first|refine gT ?_|refine gF ?_|refine VIf.not ?_|refine gA ?_|refine gB ?_|refine VIf.dec (fun h=>?_) (fun h=>?_)|refine gC ?_|refine gD ?_|refine VIf.mk (fun h=>?_) (fun h=>?_)|refine gO ?_|refine gP ?_|refine VNat.mk _ rfl ?_|refine gV ?_|refine vret_pf rfl ?_|refine vret_take rfl rfl ?_|refine vcall_pf hrec rfl rfl ?_|refine gK ?_)
      all_goals (try (conv=>whnf))
      refine VAgain.mk _ rfl _ (gc_take rfl rfl rfl) ⟨(j + 1,ac2 + useN (.mk k1 n1 s1 l1 t1) q),⟨hj',by dsimp only; omega,by dsimp only; omega,?_⟩,by dsimp only; omega,rfl⟩
      rw [← hacc2,drop_at htc,useNs,if_pos (by omega)]
    all_goals
      have e2:useNs ts acc q=ac2:=by
        rw [← hacc2]
        by_cases hjl:j < ts.length
        · obtain ⟨tc,htc⟩:∃ tc,ts[j]? = some tc:=⟨_,List.getElem?_eq_getElem hjl⟩
          rw [drop_at htc,useNs,if_neg (by omega)]
        · rw [List.drop_of_length_le (by omega),useNs]
      rw [useN,e,e2,← min_def'']
set_option maxRecDepth 100000 in
theorem refNodes_can (t:Tm):∀ v,TmP t v→∀ (q:Int),0 ≤ q→q ≤ 1000000→Pf C1 73 [v,iv q] [iv (refN t q)]:=by
  induction t using Tm.ind with
  |_ k nn s ls ts ih =>
  intro v h q h0 h1
  obtain ⟨_,_,_,_,_,b,z,xs,c,y,ys,⟨rfl,rfl,rfl,rfl,rfl⟩,rfl,hz,hxs,hlen,hbd,hy,hys,hlen2,hbd2,hsl⟩:=h.open
  refine run_intro Tryz.func73 rfl rfl rfl ?_
  repeat' ((conv=>whnf);first|refine gT ?_|refine gF ?_|refine VIf.not ?_|refine gA ?_|refine gB ?_|refine VIf.dec (fun h=>?_) (fun h=>?_)|refine gC ?_|refine gD ?_|refine VIf.mk (fun h=>?_) (fun h=>?_)|refine gO ?_|refine gP ?_|refine VNat.mk _ rfl ?_|refine gV ?_|refine vret_pf rfl ?_|refine vret_take rfl rfl ?_|refine gK ?_)
  all_goals (try (conv=>whnf))
  refine loop_over (G:=Nat × Int) (fun g=>[(6,iv g.1),(5,iv g.2)]) (fun g=>_) (fun g=>g.1 ≤ ls.length∧1 ≤ g.2∧g.2 ≤ 8796093022210 + 2 * q∧lnFs (ls.drop g.1) g.2 q=lnFs ls (1) q) (fun g=>ls.length - g.1) (0,1) ⟨by omega,by dsimp only; omega,by dsimp only; omega,rfl⟩ rfl rfl ?_
  rintro ⟨i,acc⟩ ⟨hi,ha1,ha2,hacc⟩
  dsimp only at hi ha1 ha2 hacc ⊢
  repeat' ((conv=>whnf);first|refine gT ?_|refine gF ?_|refine VIf.not ?_|refine gA ?_|refine gB ?_|refine VIf.dec (fun h=>?_) (fun h=>?_)|refine gC ?_|refine gD ?_|refine VIf.mk (fun h=>?_) (fun h=>?_)|refine gO ?_|refine gP ?_|refine VNat.mk _ rfl ?_|refine gV ?_|refine vret_pf rfl ?_|refine vret_take rfl rfl ?_|refine gK ?_)
  all_goals (try (conv=>whnf))
  · have hi':i < ls.length:=by omega
    obtain ⟨lc,hlc⟩:∃ lc,ls[i]? = some lc:=⟨_,List.getElem?_eq_getElem hi'⟩
    obtain ⟨v,hv,hl⟩:=hxs.at hlc
    have hrec:=levelNodes_can lc _ hl q h0 h1
    have hx:=lnF_eq lc q h0
    have hxp:=nodes_sizeL lc
    obtain ⟨k1,n1,l1,b1,z1,x1,rfl,rfl,hz1,hxs1,hlen1,hbd1⟩:=hl.open
    refine VIdx.mk _ hv (VOk.mk (szOk_of rfl hz) ?_)
    repeat' ((conv=>whnf);first|refine gT ?_|refine gF ?_|refine VIf.not ?_|refine gA ?_|refine gB ?_|refine VIf.dec (fun h=>?_) (fun h=>?_)|refine gC ?_|refine gD ?_|refine VIf.mk (fun h=>?_) (fun h=>?_)|refine gO ?_|refine gP ?_|refine VNat.mk _ rfl ?_|refine gV ?_|refine vret_pf rfl ?_|refine vret_take rfl rfl ?_|refine vcall_pf hrec rfl rfl ?_|refine gK ?_)
    all_goals (try (conv=>whnf))
    refine VAgain.mk _ rfl _ (gc_take rfl rfl rfl) ⟨(i + 1,acc + lnF (.mk k1 n1 l1) q),⟨hi',by dsimp only; omega,by dsimp only; omega,?_⟩,by dsimp only; omega,rfl⟩
    rw [← hacc,drop_at hlc,lnFs,if_pos (by omega)]
  all_goals
    have e:lnFs ls (1) q=acc:=by
      rw [← hacc]
      by_cases hil:i < ls.length
      · obtain ⟨lc,hlc⟩:∃ lc,ls[i]? = some lc:=⟨_,List.getElem?_eq_getElem hil⟩
        rw [drop_at hlc,lnFs,if_neg (by omega)]
      · rw [List.drop_of_length_le (by omega),lnFs]
    clear hacc
    refine loop_over (G:=Nat × Int) (fun g=>[(7,iv g.1),(5,iv g.2)]) (fun g=>_) (fun g=>g.1 ≤ ts.length∧1 ≤ g.2∧g.2 ≤ 8796093022210 + 2 * q∧refNs (ts.drop g.1) g.2 q=refNs ts acc q) (fun g=>ts.length - g.1) (0,acc) ⟨by omega,by dsimp only; omega,by dsimp only; omega,rfl⟩ rfl rfl ?_
    rintro ⟨j,ac2⟩ ⟨hj,hb1,hb2,hacc2⟩
    dsimp only at hj hb1 hb2 hacc2 ⊢
    repeat' ((conv=>whnf);first|refine gT ?_|refine gF ?_|refine VIf.not ?_|refine gA ?_|refine gB ?_|refine VIf.dec (fun h=>?_) (fun h=>?_)|refine gC ?_|refine gD ?_|refine VIf.mk (fun h=>?_) (fun h=>?_)|refine gO ?_|refine gP ?_|refine VNat.mk _ rfl ?_|refine gV ?_|refine vret_pf rfl ?_|refine vret_take rfl rfl ?_|refine gK ?_)
    all_goals (try (conv=>whnf))
    · have hj':j < ts.length:=by omega
      obtain ⟨tc,htc⟩:∃ tc,ts[j]? = some tc:=⟨_,List.getElem?_eq_getElem hj'⟩
      obtain ⟨v,hv,hl⟩:=hys.at htc
      have hrec:=ih _ (List.mem_of_getElem? htc) _ hl q h0 h1
      have hx:=refN_bd tc q h0
      obtain ⟨k1,n1,s1,l1,t1,b1,z1,x1,c1,y1,ys1,rfl,rfl,hz1,hxs1,hlen1,hbd1,hy1,hys1,hlen21,hbd21,hsl1⟩:=hl.open
      refine VIdx.mk _ hv (VOk.mk (szOk_of rfl hy) ?_)
      repeat' ((conv=>whnf);first|refine gT ?_|refine gF ?_|refine VIf.not ?_|refine gA ?_|refine gB ?_|refine VIf.dec (fun h=>?_) (fun h=>?_)|refine gC ?_|refine gD ?_|refine VIf.mk (fun h=>?_) (fun h=>?_)|refine gO ?_|refine gP ?_|refine VNat.mk _ rfl ?_|refine gV ?_|refine vret_pf rfl ?_|refine vret_take rfl rfl ?_|refine vcall_pf hrec rfl rfl ?_|refine gK ?_)
      all_goals (try (conv=>whnf))
      refine VAgain.mk _ rfl _ (gc_take rfl rfl rfl) ⟨(j + 1,ac2 + refN (.mk k1 n1 s1 l1 t1) q),⟨hj',by dsimp only; omega,by dsimp only; omega,?_⟩,by dsimp only; omega,rfl⟩
      rw [← hacc2,drop_at htc,refNs,if_pos (by omega)]
    all_goals
      have e2:refNs ts acc q=ac2:=by
        rw [← hacc2]
        by_cases hjl:j < ts.length
        · obtain ⟨tc,htc⟩:∃ tc,ts[j]? = some tc:=⟨_,List.getElem?_eq_getElem hjl⟩
          rw [drop_at htc,refNs,if_neg (by omega)]
        · rw [List.drop_of_length_le (by omega),refNs]
      rw [refN,e,e2,← min_def'']
end Go.Proofs.YtehhihdahalfeaaGreatDoor
