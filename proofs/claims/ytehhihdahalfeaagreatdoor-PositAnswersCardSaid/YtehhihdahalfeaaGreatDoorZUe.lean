/-
  The constants of a term (package term). No statement of the seat.
-/
import Derived.Test.YtehhihdahalfeaaGreatDoorZUd
import Derived.Test.YtehhihdahalfeaaGreatDoorZNl
import Derived.Test.YtehhihdahalfeaaGreatDoorZUc
import Derived.Test.YtehhihdahalfeaaGreatDoorZNk
set_option linter.unusedVariables false
set_option linter.unusedSimpArgs false
set_option linter.unnecessarySimpa false
namespace Go.Proofs.YtehhihdahalfeaaGreatDoor
open Go Go.Am Go.Gw
def walkP (cs:List PV):PV:=.fn 130 [] [.cp cs]
set_option maxRecDepth 100000 in
theorem walk_can (t:Tm) (v:PV) (h:TmP t v):Pf C1 89 [v] [walkP v.cells]:=by
  obtain ⟨k,n,s,ls,ts,b,z,xs,c,y,ys,rfl,rfl,-⟩:=h.open
  refine run_intro Tryz.func89 rfl rfl rfl ?_
  repeat' ((conv=>whnf);first|refine gT ?_|refine gF ?_|refine VIf.not ?_|refine gA ?_|refine gB ?_|refine VIf.dec (fun h=>?_) (fun h=>?_)|refine gC ?_|refine gD ?_|refine VIf.mk (fun h=>?_) (fun h=>?_)|refine gO ?_|refine gP ?_|refine VNat.mk _ rfl ?_|refine gV ?_|refine vret_pf rfl ?_|refine vret_take rfl rfl ?_|refine gK ?_)
  all_goals (try (conv=>whnf))
  refine vret_pub rfl rfl rfl ?_
  rfl
/-- a term's cells -/
structure TV where
  k:Int
  n:Int
  s:List UInt8
  b:Bool
  z:Nat
  xs:List PV
  c:Bool
  y:Nat
  ys:List PV
def TV.cs (q:TV):List PV:=[iv q.k,iv q.n,sv q.s,.sl q.b q.z q.xs,.sl q.c q.y q.ys]
def coLP (q:TV) (g h:Bool) (a c:Code) (x:LpS):SO:=.lp [(9,walkP q.cs),(8,.ag q.cs),(3,.bp 1 0),(7,bv g),(6,bv h),(5,.ag q.cs),(2,.sl true 0 []),(1,.bp 2 0),(0,.ag q.cs)] [10] a c x
def coS (lp:SO) (q:TV) (don:List (List UInt8)):Sto:=match don with
  |[]=>[lp,.box 29 [.sl true 0 []],.box 25 q.cs]
  |d :: r=>[lp,.box 29 [.ms 3 (r.length + 1)],.box 25 q.cs,.row false 9 1 (svs (d :: r))]
theorem coS_snoc (lp:SO) (q:TV) (d:List UInt8) (r m:List (List UInt8)):coS lp q (d :: r ++ m)=[lp,.box 29 [.ms 3 (r.length + m.length + 1)],.box 25 q.cs,.row false 9 1 (svs (d :: r) ++ svs m)]:=by
  simp only [coS,List.cons_append,List.length_append,svs,List.map_cons,List.map_append]
/-- as it stands ahead of a round of visit's loop -/
def coB (lp:SO) (q:TV) (cs:List PV) (acc:List (List UInt8)):Sto:=match acc with
  |[]=>[lp,.box 29 [.sl true 0 []],.box 25 q.cs,.box 25 cs]
  |d :: r=>[lp,.box 29 [.ms 5 (r.length + 1)],.box 25 q.cs,.box 25 cs,.dead,.row false 9 1 (svs (d :: r))]
def coV (lp:SO) (q:TV) (cs:List PV) (d:List UInt8) (r:List (List UInt8)):Sto:=[lp,.box 29 [.ms 4 (r.length + 1)],.box 25 q.cs,.box 25 cs,.row false 9 1 (svs (d :: r))]
def coX (lp:SO) (q:TV) (cs cs2:List PV) (d:List UInt8) (r:List (List UInt8)):Sto:=[lp,.box 29 [.ms 5 (r.length + 1)],.box 25 q.cs,.box 25 cs,.box 25 cs2,.row false 9 1 (svs (d :: r))]
def ownC (t:Tm):List (List UInt8):=if t.kind=3 then [t.name] else []
/-- what the body does -/
def CoOk (lp:SO) (q:TV):Prop:=∀ (t:Tm) (v:PV),TmP t v→∀ don:List (List UInt8),don.length ≤ 1000000000→FindsY C1 [.yl 0,v] (coS lp q don) fun r st=>r = .ret [bv true]∧st=coS lp q (don ++ ownC t)
theorem consts_own {k n:Int} {s:List UInt8} {ls:List Lv} {ts:List Tm}:constsT (.mk k n s ls ts)=ownC (.mk k n s ls ts) ++ constsTs ts:=by rw [constsT]; rfl
mutual
theorem consts_len:∀ t:Tm,(constsT t).length ≤ sizT t
  | .mk k n s ls ts=>by
    have:=consts_lens ts
    rw [constsT,sizT,List.length_append]
    split
    · simp only [List.length_cons,List.length_nil]; omega
    · simp only [List.length_nil]; omega
theorem consts_lens:∀ ts:List Tm,(constsTs ts).length ≤ sizTs ts
  |[]=>by simp [constsTs]
  |t :: r=>by
    have h1:=consts_len t
    have h2:=consts_lens r
    rw [constsTs,sizTs,List.length_append]
    omega
end
theorem constsTs_take {ts:List Tm} {j:Nat} {tc:Tm} (h:ts[j]? = some tc):constsTs (ts.take (j + 1))=constsTs (ts.take j) ++ constsT tc:=by
  rw [take_snoc' h]
  generalize ts.take j=l
  induction l with
  |nil=>simp [constsTs]
  |cons a r ih=>rw [List.cons_append,constsTs,constsTs,ih,List.append_assoc]
theorem sizTs_mem:∀ {ts:List Tm} {t:Tm},t ∈ ts→sizT t ≤ sizTs ts
  |x :: r,t,h=>by
    rw [sizTs]
    rcases List.mem_cons.1 h with rfl|h
    · omega
    · have:=sizTs_mem h
      omega
theorem sizTs_take {ts:List Tm} {j:Nat} {tc:Tm} (h:ts[j]? = some tc):sizTs (ts.take j) + sizT tc ≤ sizTs ts:=by
  have e:ts=ts.take j ++ tc :: ts.drop (j + 1):=by rw [← drop_at h,List.take_append_drop]
  have add:∀ a b:List Tm,sizTs (a ++ b)=sizTs a + sizTs b:=fun a b=>by
    induction a with
    |nil=>simp [sizTs]
    |cons x r ih=>rw [List.cons_append,sizTs,sizTs,ih]; omega
  rw [e,add,sizTs]
  have e2:(ts.take j ++ tc :: ts.drop (j + 1)).take j=ts.take j:=by rw [← e]
  rw [e2]
  omega
set_option maxHeartbeats 2000000 in
set_option maxRecDepth 100000 in
theorem visit_can (q:TV) (gb hb:Bool) (a c:Code) (hY:CoOk (coLP q gb hb a c .ready) q) (t:Tm):∀ v,TmP t v→∀ p kk,allT t p kk=true→∀ don:List (List UInt8),don.length + sizT t ≤ 1000000000 →
    Finds C1 131 [v,.yl 0] (coS (coLP q gb hb a c .ready) q don) fun r st=>r = .ret [bv true]∧st=coS (coLP q gb hb a c .ready) q (don ++ constsT t):=by
  induction t using Tm.ind with
  |_ k nn s ls ts ih =>
  intro v hv p kk hall don hdon
  have hyd:=hY _ _ hv don (by omega)
  have hsz:1 + sizTs ts ≤ sizT (.mk k nn s ls ts):=by rw [sizT]; omega
  have hargs:=args_of hall
  obtain ⟨hk17,hlenk,hnode,-,hats⟩:=allT_parts hall
  rw [consts_own]
  obtain ⟨_,_,_,_,_,b,z,xs,c1,y,ys,⟨rfl,rfl,rfl,rfl,rfl⟩,rfl,hz,hxs,hlen,hbd,hy,hys,hlen2,hbd2,hsl⟩:=hv.open
  by_cases h3:k=3
  · obtain rfl:=hargs.1 (by omega)
    obtain rfl:ys=[]:=by simpa using hlen2
    have e:ownC (.mk k nn s ls [])=[s]:=if_pos h3
    rw [e] at hyd ⊢
    rw [constsTs,List.append_nil]
    refine run_intro Tryz.func131 rfl rfl rfl ?_
    cases don with
    |nil =>
      repeat' ((conv=>whnf);first|refine gT ?_|refine gF ?_|refine VIf.not ?_|refine gA ?_|refine gB ?_|refine VIf.dec (fun h=>?_) (fun h=>?_)|refine gC ?_|refine gD ?_|refine VIf.mk (fun h=>?_) (fun h=>?_)|refine gO ?_|refine gP ?_|refine VNat.mk _ rfl ?_|refine gV ?_|refine vret_pf rfl ?_|refine vret_take rfl rfl ?_|refine gK ?_)
      all_goals (try (conv=>whnf))
      refine vyield_shr rfl (.cons (shr_lp rfl rfl) (.cons (shr_box rfl rfl) (.cons (shr_box rfl rfl) (.cons (shr_box rfl rfl) .nil)))) rfl rfl rfl rfl (findsY_mono hyd ?_)
      rintro _ _ ⟨rfl,rfl⟩
      refine vback_to (st':=coV (coLP q gb hb a c .ready) q [iv k,iv nn,sv s,.sl b z xs,.sl c1 y []] s []) (.cons (shr_lp rfl rfl) (.cons (shr_box rfl rfl) (.cons (shr_box rfl rfl) (.cons (shr_row (svs_pure _)) .nil)))) rfl rfl (by kernel_rfl) ?_
      repeat' ((conv=>whnf);first|refine gT ?_|refine gF ?_|refine VIf.not ?_|refine gA ?_|refine gB ?_|refine VIf.dec (fun h=>?_) (fun h=>?_)|refine gC ?_|refine gD ?_|refine VIf.mk (fun h=>?_) (fun h=>?_)|refine gO ?_|refine gP ?_|refine VNat.mk _ rfl ?_|refine gV ?_|refine vret_pf rfl ?_|refine vret_take rfl rfl ?_|refine gK ?_)
      all_goals (try (conv=>whnf))
      refine loop_over (G:=Unit) (fun _=>[]) (fun _=>_) (fun _=>True) (fun _=>0) () trivial rfl rfl ?_
      rintro _ _
      repeat' ((conv=>whnf);first|refine gT ?_|refine gF ?_|refine VIf.not ?_|refine gA ?_|refine gB ?_|refine VIf.dec (fun h=>?_) (fun h=>?_)|refine gC ?_|refine gD ?_|refine VIf.mk (fun h=>?_) (fun h=>?_)|refine gO ?_|refine gP ?_|refine VNat.mk _ rfl ?_|refine gV ?_|refine vret_pf rfl ?_|refine vret_take rfl rfl ?_|refine gK ?_)
      all_goals (try (conv=>whnf))
      exact vret_sq (.inr ⟨rfl,rfl⟩) rfl (gc_sh (.cons (sh_lp rfl rfl) (.cons (sh_box rfl rfl) (.cons (sh_box rfl rfl) (.cons (sh_box rfl rfl) (.cons (sh_row (svs_pure _)) .nil))))) (.cons (sh_lp rfl rfl) (.cons (sh_box rfl rfl) (.cons (sh_box rfl rfl) (.cons sh_dead (.cons (sh_row (svs_pure _)) .nil))))) rfl rfl rfl rfl rfl) (squeeze_shr (.cons (shr_lp rfl rfl) (.cons (shr_box rfl rfl) (.cons (shr_box rfl rfl) (.cons shr_dead (.cons (shr_row (svs_pure _)) .nil))))) rfl rfl rfl rfl) ⟨rfl,rfl⟩
    |cons d r =>
      repeat' ((conv=>whnf);first|refine gT ?_|refine gF ?_|refine VIf.not ?_|refine gA ?_|refine gB ?_|refine VIf.dec (fun h=>?_) (fun h=>?_)|refine gC ?_|refine gD ?_|refine VIf.mk (fun h=>?_) (fun h=>?_)|refine gO ?_|refine gP ?_|refine VNat.mk _ rfl ?_|refine gV ?_|refine vret_pf rfl ?_|refine vret_take rfl rfl ?_|refine gK ?_)
      all_goals (try (conv=>whnf))
      refine vyield_shr rfl (.cons (shr_lp rfl rfl) (.cons (shr_box rfl rfl) (.cons (shr_box rfl rfl) (.cons (shr_row (svs_pure _)) (.cons (shr_box rfl rfl) .nil))))) rfl rfl rfl rfl (findsY_mono hyd ?_)
      rintro _ _ ⟨rfl,rfl⟩
      refine vback_to (st':=coS (coLP q gb hb a c .ready) q (d :: r ++ [s]) ++ [.box 25 [iv k,iv nn,sv s,.sl b z xs,.sl c1 y []]]) (.cons (shr_lp rfl rfl) (.cons (shr_box rfl rfl) (.cons (shr_box rfl rfl) (.cons (shr_row (svs_pure _)) .nil)))) rfl rfl (by kernel_rfl) ?_
      repeat' ((conv=>whnf);first|refine gT ?_|refine gF ?_|refine VIf.not ?_|refine gA ?_|refine gB ?_|refine VIf.dec (fun h=>?_) (fun h=>?_)|refine gC ?_|refine gD ?_|refine VIf.mk (fun h=>?_) (fun h=>?_)|refine gO ?_|refine gP ?_|refine VNat.mk _ rfl ?_|refine gV ?_|refine vret_pf rfl ?_|refine vret_take rfl rfl ?_|refine gK ?_)
      all_goals (try (conv=>whnf))
      refine loop_over (G:=Unit) (fun _=>[]) (fun _=>_) (fun _=>True) (fun _=>0) () trivial rfl rfl ?_
      rintro _ _
      repeat' ((conv=>whnf);first|refine gT ?_|refine gF ?_|refine VIf.not ?_|refine gA ?_|refine gB ?_|refine VIf.dec (fun h=>?_) (fun h=>?_)|refine gC ?_|refine gD ?_|refine VIf.mk (fun h=>?_) (fun h=>?_)|refine gO ?_|refine gP ?_|refine VNat.mk _ rfl ?_|refine gV ?_|refine vret_pf rfl ?_|refine vret_take rfl rfl ?_|refine gK ?_)
      all_goals (try (conv=>whnf))
      exact vret_take_shr rfl rfl (.cons (shr_lp rfl rfl) (.cons (shr_box rfl rfl) (.cons (shr_box rfl rfl) (.cons (shr_row (svs_pure _)) .nil)))) rfl ⟨rfl,rfl⟩
  · have e:ownC (.mk k nn s ls ts)=[]:=if_neg h3
    rw [e,List.append_nil] at hyd
    rw [e,List.nil_append]
    have hround:∀ (j:Nat) (hj':j < ts.length),∃ tc,ts[j]? = some tc∧tc ∈ ts∧∃ w,ys[j]? = some w∧TmP tc w∧(∀ acc:List (List UInt8),acc.length + sizT tc ≤ 1000000000→Finds C1 131 [w,.yl 0] (coS (coLP q gb hb a c .ready) q acc) fun r st=>r = .ret [bv true]∧st=coS (coLP q gb hb a c .ready) q (acc ++ constsT tc)):=fun j hj'=>by
      obtain ⟨tc,htc⟩:∃ tc,ts[j]? = some tc:=⟨_,List.getElem?_eq_getElem hj'⟩
      obtain ⟨w,hw,hl⟩:=hys.at htc
      have hmem:=List.mem_of_getElem? htc
      exact ⟨tc,htc,hmem,w,hw,hl,ih _ hmem w hl p _ (allTs_at hats htc)⟩
    refine run_intro Tryz.func131 rfl rfl rfl ?_
    cases don with
    |nil =>
      repeat' ((conv=>whnf);first|refine gT ?_|refine gF ?_|refine VIf.not ?_|refine gA ?_|refine gB ?_|refine VIf.dec (fun h=>?_) (fun h=>?_)|refine gC ?_|refine gD ?_|refine VIf.mk (fun h=>?_) (fun h=>?_)|refine gO ?_|refine gP ?_|refine VNat.mk _ rfl ?_|refine gV ?_|refine vret_pf rfl ?_|refine vret_take rfl rfl ?_|refine gK ?_)
      all_goals (try (conv=>whnf))
      refine vyield_shr rfl (.cons (shr_lp rfl rfl) (.cons (shr_box rfl rfl) (.cons (shr_box rfl rfl) (.cons (shr_box rfl rfl) .nil)))) rfl rfl rfl rfl (findsY_mono hyd ?_)
      rintro _ _ ⟨rfl,rfl⟩
      refine vback_to (st':=coB (coLP q gb hb a c .ready) q [iv k,iv nn,sv s,.sl b z xs,.sl c1 y ys] []) (.cons (shr_lp rfl rfl) (.cons (shr_box rfl rfl) (.cons (shr_box rfl rfl) .nil))) rfl rfl (by kernel_rfl) ?_
      repeat' ((conv=>whnf);first|refine gT ?_|refine gF ?_|refine VIf.not ?_|refine gA ?_|refine gB ?_|refine VIf.dec (fun h=>?_) (fun h=>?_)|refine gC ?_|refine gD ?_|refine VIf.mk (fun h=>?_) (fun h=>?_)|refine gO ?_|refine gP ?_|refine VNat.mk _ rfl ?_|refine gV ?_|refine vret_pf rfl ?_|refine vret_take rfl rfl ?_|refine gK ?_)
      all_goals (try (conv=>whnf))
      refine loop_over (G:=Nat) (fun j=>[(14,iv j)]) (fun j=>coB (coLP q gb hb a c .ready) q [iv k,iv nn,sv s,.sl b z xs,.sl c1 y ys] (constsTs (ts.take j))) (fun j=>j ≤ ts.length) (fun j=>ts.length - j) 0 (by omega) rfl (by simp only [List.take_zero,constsTs]) ?_
      intro j hj
      dsimp only
      generalize hacc:constsTs (ts.take j)=acc
      cases acc with
      |nil =>
        repeat' ((conv=>whnf);first|refine gT ?_|refine gF ?_|refine VIf.not ?_|refine gA ?_|refine gB ?_|refine VIf.dec (fun h=>?_) (fun h=>?_)|refine gC ?_|refine gD ?_|refine VIf.mk (fun h=>?_) (fun h=>?_)|refine gO ?_|refine gP ?_|refine VNat.mk _ rfl ?_|refine gV ?_|refine vret_pf rfl ?_|refine vret_take rfl rfl ?_|refine gK ?_)
        all_goals (try (conv=>whnf))
        · obtain ⟨tc,htc,hmem,w,hw,hl,hrec0⟩:=hround j (by omega)
          have hrec:=hrec0 [] (by have:=sizTs_mem hmem; simp only [List.length_nil] at *; omega)
          have e2:constsTs (ts.take (j + 1))=constsT tc:=by rw [constsTs_take htc,hacc]; rfl
          rw [List.nil_append] at hrec
          obtain ⟨k1,n1,s1,l1,t1,b1,z1,x1,c2,y1,ys1,rfl,rfl,-⟩:=hl.open
          repeat' ((conv=>whnf);first|refine gT ?_|refine gF ?_|refine VIf.not ?_|refine gA ?_|refine gB ?_|refine VIf.dec (fun h=>?_) (fun h=>?_)|refine gC ?_|refine gD ?_|refine VIf.mk (fun h=>?_) (fun h=>?_)|refine gO ?_|refine gP ?_|refine VNat.mk _ rfl ?_|refine gV ?_|refine vret_pf rfl ?_|refine vret_take rfl rfl ?_|refine VIdx.mk _ hw ?_|refine VOk.mk (szOk_of rfl hy) ?_|refine gK ?_)
          all_goals (try (conv=>whnf))
          refine vcall_shr rfl rfl (.cons (shr_lp rfl rfl) (.cons (shr_box rfl rfl) (.cons (shr_box rfl rfl) (.cons (shr_box rfl rfl) (.cons (shr_box rfl rfl) .nil))))) rfl rfl rfl rfl (Finds.mono hrec ?_)
          rintro _ _ ⟨rfl,rfl⟩
          cases hct:constsT (.mk k1 n1 s1 l1 t1) with
          |nil =>
            rw [hct] at e2
            refine vback_to (st':=coB (coLP q gb hb a c .ready) q [iv k,iv nn,sv s,.sl b z xs,.sl c1 y ys] [] ++ [.box 25 [iv k1,iv n1,sv s1,.sl b1 z1 x1,.sl c2 y1 ys1]]) (.cons (shr_lp rfl rfl) (.cons (shr_box rfl rfl) (.cons (shr_box rfl rfl) .nil))) rfl rfl (by kernel_rfl) ?_
            repeat' ((conv=>whnf);first|refine gT ?_|refine gF ?_|refine VIf.not ?_|refine gA ?_|refine gB ?_|refine VIf.dec (fun h=>?_) (fun h=>?_)|refine gC ?_|refine gD ?_|refine VIf.mk (fun h=>?_) (fun h=>?_)|refine gO ?_|refine gP ?_|refine VNat.mk _ rfl ?_|refine gV ?_|refine vret_pf rfl ?_|refine vret_take rfl rfl ?_|refine gK ?_)
            all_goals (try (conv=>whnf))
            exact VAgain.mk _ rfl _ (gc_sh (.cons (sh_lp rfl rfl) (.cons (sh_box rfl rfl) (.cons (sh_box rfl rfl) (.cons (sh_box rfl rfl) (.cons (sh_box rfl rfl) .nil))))) (.cons (sh_lp rfl rfl) (.cons (sh_box rfl rfl) (.cons (sh_box rfl rfl) (.cons (sh_box rfl rfl) .nil)))) rfl rfl rfl rfl rfl) ⟨j + 1,by omega,by omega,by rw [e2]; rfl⟩
          |cons d1 r1 =>
            rw [hct] at e2
            refine vback_to (st':=coX (coLP q gb hb a c .ready) q [iv k,iv nn,sv s,.sl b z xs,.sl c1 y ys] [iv k1,iv n1,sv s1,.sl b1 z1 x1,.sl c2 y1 ys1] d1 r1) (.cons (shr_lp rfl rfl) (.cons (shr_box rfl rfl) (.cons (shr_box rfl rfl) (.cons (shr_row (svs_pure _)) .nil)))) rfl rfl (by kernel_rfl) ?_
            repeat' ((conv=>whnf);first|refine gT ?_|refine gF ?_|refine VIf.not ?_|refine gA ?_|refine gB ?_|refine VIf.dec (fun h=>?_) (fun h=>?_)|refine gC ?_|refine gD ?_|refine VIf.mk (fun h=>?_) (fun h=>?_)|refine gO ?_|refine gP ?_|refine VNat.mk _ rfl ?_|refine gV ?_|refine vret_pf rfl ?_|refine vret_take rfl rfl ?_|refine gK ?_)
            all_goals (try (conv=>whnf))
            exact VAgain.mk _ rfl _ (gc_sh (.cons (sh_lp rfl rfl) (.cons (sh_box rfl rfl) (.cons (sh_box rfl rfl) (.cons (sh_box rfl rfl) (.cons (sh_box rfl rfl) (.cons (sh_row (svs_pure _)) .nil)))))) (.cons (sh_lp rfl rfl) (.cons (sh_box rfl rfl) (.cons (sh_box rfl rfl) (.cons (sh_box rfl rfl) (.cons sh_dead (.cons (sh_row (svs_pure _)) .nil)))))) rfl rfl rfl rfl rfl) ⟨j + 1,by omega,by omega,by rw [e2]; rfl⟩
        · have e2:constsTs ts=[]:=by rw [← hacc,List.take_of_length_le (by omega)]
          rw [e2]
          exact ⟨rfl,rfl⟩
      |cons d0 r0 =>
        repeat' ((conv=>whnf);first|refine gT ?_|refine gF ?_|refine VIf.not ?_|refine gA ?_|refine gB ?_|refine VIf.dec (fun h=>?_) (fun h=>?_)|refine gC ?_|refine gD ?_|refine VIf.mk (fun h=>?_) (fun h=>?_)|refine gO ?_|refine gP ?_|refine VNat.mk _ rfl ?_|refine gV ?_|refine vret_pf rfl ?_|refine vret_take rfl rfl ?_|refine gK ?_)
        all_goals (try (conv=>whnf))
        · obtain ⟨tc,htc,hmem,w,hw,hl,hrec0⟩:=hround j (by omega)
          have hs1:=sizTs_take htc
          have hs2:=consts_lens (ts.take j)
          rw [hacc] at hs2
          have hrec:=hrec0 (d0 :: r0) (by simp only [List.length_nil] at hdon; omega)
          have e2:constsTs (ts.take (j + 1))=d0 :: r0 ++ constsT tc:=by rw [constsTs_take htc,hacc]
          obtain ⟨k1,n1,s1,l1,t1,b1,z1,x1,c2,y1,ys1,rfl,rfl,-⟩:=hl.open
          repeat' ((conv=>whnf);first|refine gT ?_|refine gF ?_|refine VIf.not ?_|refine gA ?_|refine gB ?_|refine VIf.dec (fun h=>?_) (fun h=>?_)|refine gC ?_|refine gD ?_|refine VIf.mk (fun h=>?_) (fun h=>?_)|refine gO ?_|refine gP ?_|refine VNat.mk _ rfl ?_|refine gV ?_|refine vret_pf rfl ?_|refine vret_take rfl rfl ?_|refine VIdx.mk _ hw ?_|refine VOk.mk (szOk_of rfl hy) ?_|refine gK ?_)
          all_goals (try (conv=>whnf))
          refine vcall_shr rfl rfl (.cons (shr_lp rfl rfl) (.cons (shr_box rfl rfl) (.cons (shr_box rfl rfl) (.cons (shr_box rfl rfl) (.cons shr_dead (.cons (shr_row (svs_pure _)) (.cons (shr_box rfl rfl) .nil))))))) rfl rfl rfl rfl (Finds.mono hrec ?_)
          rintro _ _ ⟨rfl,rfl⟩
          refine vback_to (st':=coB (coLP q gb hb a c .ready) q [iv k,iv nn,sv s,.sl b z xs,.sl c1 y ys] (d0 :: r0 ++ constsT (.mk k1 n1 s1 l1 t1)) ++ [.box 25 [iv k1,iv n1,sv s1,.sl b1 z1 x1,.sl c2 y1 ys1]]) (.cons (shr_lp rfl rfl) (.cons (shr_box rfl rfl) (.cons (shr_box rfl rfl) (.cons (shr_row (svs_pure _)) .nil)))) rfl rfl (by kernel_rfl) ?_
          repeat' ((conv=>whnf);first|refine gT ?_|refine gF ?_|refine VIf.not ?_|refine gA ?_|refine gB ?_|refine VIf.dec (fun h=>?_) (fun h=>?_)|refine gC ?_|refine gD ?_|refine VIf.mk (fun h=>?_) (fun h=>?_)|refine gO ?_|refine gP ?_|refine VNat.mk _ rfl ?_|refine gV ?_|refine vret_pf rfl ?_|refine vret_take rfl rfl ?_|refine gK ?_)
          all_goals (try (conv=>whnf))
          exact VAgain.mk _ rfl _ (gc_sh (.cons (sh_lp rfl rfl) (.cons (sh_box rfl rfl) (.cons (sh_box rfl rfl) (.cons (sh_box rfl rfl) (.cons sh_dead (.cons (sh_row (svs_pure _)) (.cons (sh_box rfl rfl) .nil))))))) (.cons (sh_lp rfl rfl) (.cons (sh_box rfl rfl) (.cons (sh_box rfl rfl) (.cons (sh_box rfl rfl) (.cons sh_dead (.cons (sh_row (svs_pure _)) .nil)))))) rfl rfl rfl rfl rfl) ⟨j + 1,by omega,by omega,by rw [e2]; rfl⟩
        · have e2:constsTs ts=d0 :: r0:=by rw [← hacc,List.take_of_length_le (by omega)]
          rw [e2]
          exact vret_sq (.inr ⟨rfl,rfl⟩) rfl (gc_sh (.cons (sh_lp rfl rfl) (.cons (sh_box rfl rfl) (.cons (sh_box rfl rfl) (.cons (sh_box rfl rfl) (.cons sh_dead (.cons (sh_row (svs_pure _)) .nil)))))) (.cons (sh_lp rfl rfl) (.cons (sh_box rfl rfl) (.cons (sh_box rfl rfl) (.cons sh_dead (.cons sh_dead (.cons (sh_row (svs_pure _)) .nil)))))) rfl rfl rfl rfl rfl) (squeeze_shr (.cons (shr_lp rfl rfl) (.cons (shr_box rfl rfl) (.cons (shr_box rfl rfl) (.cons shr_dead (.cons shr_dead (.cons (shr_row (svs_pure _)) .nil)))))) rfl rfl rfl rfl) ⟨rfl,rfl⟩
    |cons d r =>
      repeat' ((conv=>whnf);first|refine gT ?_|refine gF ?_|refine VIf.not ?_|refine gA ?_|refine gB ?_|refine VIf.dec (fun h=>?_) (fun h=>?_)|refine gC ?_|refine gD ?_|refine VIf.mk (fun h=>?_) (fun h=>?_)|refine gO ?_|refine gP ?_|refine VNat.mk _ rfl ?_|refine gV ?_|refine vret_pf rfl ?_|refine vret_take rfl rfl ?_|refine gK ?_)
      all_goals (try (conv=>whnf))
      refine vyield_shr rfl (.cons (shr_lp rfl rfl) (.cons (shr_box rfl rfl) (.cons (shr_box rfl rfl) (.cons (shr_row (svs_pure _)) (.cons (shr_box rfl rfl) .nil))))) rfl rfl rfl rfl (findsY_mono hyd ?_)
      rintro _ _ ⟨rfl,rfl⟩
      refine vback_to (st':=coS (coLP q gb hb a c .ready) q (d :: r) ++ [.box 25 [iv k,iv nn,sv s,.sl b z xs,.sl c1 y ys]]) (.cons (shr_lp rfl rfl) (.cons (shr_box rfl rfl) (.cons (shr_box rfl rfl) (.cons (shr_row (svs_pure _)) .nil)))) rfl rfl (by kernel_rfl) ?_
      repeat' ((conv=>whnf);first|refine gT ?_|refine gF ?_|refine VIf.not ?_|refine gA ?_|refine gB ?_|refine VIf.dec (fun h=>?_) (fun h=>?_)|refine gC ?_|refine gD ?_|refine VIf.mk (fun h=>?_) (fun h=>?_)|refine gO ?_|refine gP ?_|refine VNat.mk _ rfl ?_|refine gV ?_|refine vret_pf rfl ?_|refine vret_take rfl rfl ?_|refine gK ?_)
      all_goals (try (conv=>whnf))
      refine loop_over (G:=Nat) (fun j=>[(14,iv j)]) (fun j=>coS (coLP q gb hb a c .ready) q (d :: r ++ constsTs (ts.take j)) ++ [.box 25 [iv k,iv nn,sv s,.sl b z xs,.sl c1 y ys]]) (fun j=>j ≤ ts.length) (fun j=>ts.length - j) 0 (by omega) rfl (by simp only [List.take_zero,constsTs,List.append_nil]) ?_
      intro j hj
      dsimp only
      generalize hacc:constsTs (ts.take j)=acc
      repeat' ((conv=>whnf);first|refine gT ?_|refine gF ?_|refine VIf.not ?_|refine gA ?_|refine gB ?_|refine VIf.dec (fun h=>?_) (fun h=>?_)|refine gC ?_|refine gD ?_|refine VIf.mk (fun h=>?_) (fun h=>?_)|refine gO ?_|refine gP ?_|refine VNat.mk _ rfl ?_|refine gV ?_|refine vret_pf rfl ?_|refine vret_take rfl rfl ?_|refine gK ?_)
      all_goals (try (conv=>whnf))
      · obtain ⟨tc,htc,hmem,w,hw,hl,hrec0⟩:=hround j (by omega)
        have hs1:=sizTs_take htc
        have hs2:=consts_lens (ts.take j)
        rw [hacc] at hs2
        have hrec:=hrec0 (d :: r ++ acc) (by simp only [List.length_append] at *; omega)
        have e2:d :: r ++ constsTs (ts.take (j + 1))=d :: r ++ acc ++ constsT tc:=by rw [constsTs_take htc,hacc,List.append_assoc]
        obtain ⟨k1,n1,s1,l1,t1,b1,z1,x1,c2,y1,ys1,rfl,rfl,-⟩:=hl.open
        repeat' ((conv=>whnf);first|refine gT ?_|refine gF ?_|refine VIf.not ?_|refine gA ?_|refine gB ?_|refine VIf.dec (fun h=>?_) (fun h=>?_)|refine gC ?_|refine gD ?_|refine VIf.mk (fun h=>?_) (fun h=>?_)|refine gO ?_|refine gP ?_|refine VNat.mk _ rfl ?_|refine gV ?_|refine vret_pf rfl ?_|refine vret_take rfl rfl ?_|refine VIdx.mk _ hw ?_|refine VOk.mk (szOk_of rfl hy) ?_|refine gK ?_)
        all_goals (try (conv=>whnf))
        refine vcall_shr rfl rfl (.cons (shr_lp rfl rfl) (.cons (shr_box rfl rfl) (.cons (shr_box rfl rfl) (.cons (shr_row (svs_pure _)) (.cons (shr_box rfl rfl) (.cons (shr_box rfl rfl) .nil)))))) rfl rfl rfl rfl (Finds.mono hrec ?_)
        rintro _ _ ⟨rfl,rfl⟩
        refine vback_to (st':=coS (coLP q gb hb a c .ready) q (d :: r ++ acc ++ constsT (.mk k1 n1 s1 l1 t1)) ++ [.box 25 [iv k,iv nn,sv s,.sl b z xs,.sl c1 y ys],.box 25 [iv k1,iv n1,sv s1,.sl b1 z1 x1,.sl c2 y1 ys1]]) (.cons (shr_lp rfl rfl) (.cons (shr_box rfl rfl) (.cons (shr_box rfl rfl) (.cons (shr_row (svs_pure _)) .nil)))) rfl rfl (by kernel_rfl) ?_
        repeat' ((conv=>whnf);first|refine gT ?_|refine gF ?_|refine VIf.not ?_|refine gA ?_|refine gB ?_|refine VIf.dec (fun h=>?_) (fun h=>?_)|refine gC ?_|refine gD ?_|refine VIf.mk (fun h=>?_) (fun h=>?_)|refine gO ?_|refine gP ?_|refine VNat.mk _ rfl ?_|refine gV ?_|refine vret_pf rfl ?_|refine vret_take rfl rfl ?_|refine gK ?_)
        all_goals (try (conv=>whnf))
        exact VAgain.mk _ rfl _ (gc_sh (.cons (sh_lp rfl rfl) (.cons (sh_box rfl rfl) (.cons (sh_box rfl rfl) (.cons (sh_row (svs_pure _)) (.cons (sh_box rfl rfl) (.cons (sh_box rfl rfl) .nil)))))) (.cons (sh_lp rfl rfl) (.cons (sh_box rfl rfl) (.cons (sh_box rfl rfl) (.cons (sh_row (svs_pure _)) (.cons (sh_box rfl rfl) .nil))))) rfl rfl rfl rfl rfl) ⟨j + 1,by omega,by omega,by rw [e2]; rfl⟩
      · have e2:constsTs ts=acc:=by rw [← hacc,List.take_of_length_le (by omega)]
        rw [e2]
        exact vret_take_shr rfl rfl (.cons (shr_lp rfl rfl) (.cons (shr_box rfl rfl) (.cons (shr_box rfl rfl) (.cons (shr_row (svs_pure _)) .nil)))) rfl ⟨rfl,rfl⟩
set_option maxRecDepth 100000 in
theorem walk1_can (q:TV) (gb hb:Bool) (a c:Code) (hY:CoOk (coLP q gb hb a c .ready) q) (t:Tm) (hv:TmP t (.ag q.cs)) (p kk:Int) (hall:allT t p kk=true) (hs:sizT t ≤ 1000000000) :
    Finds C1 130 [.yl 0,.cp q.cs] (coS (coLP q gb hb a c .ready) q []) fun r st=>r = .ret []∧st=coS (coLP q gb hb a c .ready) q (constsT t):=by
  have hvis:=visit_can q gb hb a c hY t _ hv p kk hall [] (by simpa using hs)
  refine run_intro Tryz.func130 rfl rfl rfl ?_
  repeat' ((conv=>whnf);first|refine gT ?_|refine gF ?_|refine VIf.not ?_|refine gA ?_|refine gB ?_|refine VIf.dec (fun h=>?_) (fun h=>?_)|refine gC ?_|refine gD ?_|refine VIf.mk (fun h=>?_) (fun h=>?_)|refine gO ?_|refine gP ?_|refine VNat.mk _ rfl ?_|refine gV ?_|refine vret_pf rfl ?_|refine vret_take rfl rfl ?_|refine gK ?_)
  all_goals (try (conv=>whnf))
  refine vcall_shr rfl rfl (.cons (shr_lp rfl rfl) (.cons (shr_box rfl rfl) (.cons (shr_box rfl rfl) .nil))) rfl rfl rfl rfl (Finds.mono hvis ?_)
  rintro _ _ ⟨rfl,rfl⟩
  rw [List.nil_append]
  cases constsT t with
  |nil =>
    refine vback_to (st':=coS (coLP q gb hb a c .ready) q []) (.cons (shr_lp rfl rfl) (.cons (shr_box rfl rfl) (.cons (shr_box rfl rfl) .nil))) rfl rfl (by kernel_rfl) ?_
    repeat' ((conv=>whnf);first|refine gT ?_|refine gF ?_|refine VIf.not ?_|refine gA ?_|refine gB ?_|refine VIf.dec (fun h=>?_) (fun h=>?_)|refine gC ?_|refine gD ?_|refine VIf.mk (fun h=>?_) (fun h=>?_)|refine gO ?_|refine gP ?_|refine VNat.mk _ rfl ?_|refine gV ?_|refine vret_pf rfl ?_|refine vret_take rfl rfl ?_|refine gK ?_)
    all_goals (try (conv=>whnf))
    exact ⟨rfl,rfl⟩
  |cons d r =>
    refine vback_to (st':=coS (coLP q gb hb a c .ready) q (d :: r)) (.cons (shr_lp rfl rfl) (.cons (shr_box rfl rfl) (.cons (shr_box rfl rfl) (.cons (shr_row (svs_pure _)) .nil)))) rfl rfl (by kernel_rfl) ?_
    repeat' ((conv=>whnf);first|refine gT ?_|refine gF ?_|refine VIf.not ?_|refine gA ?_|refine gB ?_|refine VIf.dec (fun h=>?_) (fun h=>?_)|refine gC ?_|refine gD ?_|refine VIf.mk (fun h=>?_) (fun h=>?_)|refine gO ?_|refine gP ?_|refine VNat.mk _ rfl ?_|refine gV ?_|refine vret_pf rfl ?_|refine vret_take rfl rfl ?_|refine gK ?_)
    all_goals (try (conv=>whnf))
    exact vret_sq (.inr ⟨rfl,rfl⟩) rfl (gc_sh (.cons (sh_lp rfl rfl) (.cons (sh_box rfl rfl) (.cons (sh_box rfl rfl) (.cons (sh_row (svs_pure _)) .nil)))) (.cons (sh_lp rfl rfl) (.cons (sh_box rfl rfl) (.cons (sh_box rfl rfl) (.cons (sh_row (svs_pure _)) .nil)))) rfl rfl rfl rfl rfl) (squeeze_same rfl) ⟨rfl,rfl⟩
def ConstsF (t:Tm):List (List UInt8):=if anyT t=true then nameSortF (constsT t) else []
set_option maxHeartbeats 2000000 in
set_option maxRecDepth 100000 in
theorem Consts_can (t:Tm) (v:PV) (h:TmP t v):Pf C1 49 [v] [encSs (ConstsF t)]:=by
  have hr:=termRight_can t v h 4 1125899906842624
  have hw:=walk_can t v h
  have hoff:¬ anyT t=true→ConstsF t=[]:=fun e=>if_neg e
  have hon:anyT t=true→ConstsF t=nameSortF (constsT t):=fun e=>if_pos e
  have hlen:anyT t=true→(constsT t).length ≤ 2000:=fun e=>Nat.le_trans (consts_len t) (any_siz e)
  have h0:=h
  obtain ⟨k,n,s,ls,ts,b,z,xs,c,y,ys,rfl,rfl,-⟩:=h.open
  refine run_intro Tryz.func49 rfl rfl rfl ?_
  repeat' ((conv=>whnf);first|refine gT ?_|refine gF ?_|refine VIf.not ?_|refine gA ?_|refine gB ?_|refine VIf.dec (fun h=>?_) (fun h=>?_)|refine gC ?_|refine gD ?_|refine VIf.mk (fun h=>?_) (fun h=>?_)|refine gO ?_|refine gP ?_|refine VNat.mk _ rfl ?_|refine gV ?_|refine vret_pf rfl ?_|refine vret_take rfl rfl ?_|refine vcall_pf hr rfl rfl ?_|refine vcall_pf hw rfl rfl ?_|refine gK ?_)
  all_goals (try (conv=>whnf))
  · have hany:anyT (.mk k n s ls ts)=true:=h
    refine vcall_shr (st0:=coS (coLP ⟨k,n,s,b,z,xs,c,y,ys⟩ (!rightT (.mk k n s ls ts) 4 1125899906842624) (rightT (.mk k n s ls ts) 4 1125899906842624) _ _ .ready) ⟨k,n,s,b,z,xs,c,y,ys⟩ []) (args0:=[.yl 0,.cp [iv k,iv n,sv s,.sl b z xs,.sl c y ys]]) rfl rfl (.cons (shr_box rfl rfl) (.cons (shr_box rfl rfl) (.cons (shr_lp rfl rfl) .nil))) rfl rfl rfl rfl (Finds.mono (walk1_can ⟨k,n,s,b,z,xs,c,y,ys⟩ _ _ _ _ ?_ (.mk k n s ls ts) h0 4 _ (any_parts hany).2 (by have:=any_siz hany; omega)) ?_)
    · intro t1 v1 ht1 don hd
      obtain ⟨k1,n1,s1,l1,t1,b1,z1,x1,c1,y1,ys1,rfl,rfl,-⟩:=ht1.open
      by_cases h3:k1=3
      · have e:ownC (.mk k1 n1 s1 l1 t1)=[s1]:=if_pos h3
        rw [e]
        cases don with
        |nil =>
          refine yield_intro rfl rfl ?_
          repeat' ((conv=>whnf);first|refine gT ?_|refine gF ?_|refine VIf.not ?_|refine gA ?_|refine gB ?_|refine VIf.dec (fun h=>?_) (fun h=>?_)|refine gC ?_|refine gD ?_|refine VIf.mk (fun h=>?_) (fun h=>?_)|refine gO ?_|refine gP ?_|refine VNat.mk _ rfl ?_|refine gV ?_|refine vret_pf rfl ?_|refine vret_take rfl rfl ?_|refine gK ?_)
          all_goals (try (conv=>whnf))
          exact ⟨rfl,by kernel_rfl⟩
        |cons d r =>
          have hln:(svs (d :: r)).length=r.length + 1:=by simp
          have hp8:(svs (d :: r) ++ [sv s1]).all (pur 8)=true:=by
            rw [show svs (d :: r) ++ [sv s1]=svs (d :: r ++ [s1]) by simp [svs]]
            exact svs_pure _
          simp only [List.length_cons] at hd
          refine yield_intro rfl rfl ?_
          repeat' ((conv=>whnf);first|refine gT ?_|refine gF ?_|refine VIf.not ?_|refine gA ?_|refine gB ?_|refine VIf.dec (fun h=>?_) (fun h=>?_)|refine gC ?_|refine gD ?_|refine VIf.mk (fun h=>?_) (fun h=>?_)|refine gO ?_|refine gP ?_|refine VNat.mk _ rfl ?_|refine gV ?_|refine vret_pf rfl ?_|refine vret_take rfl rfl ?_|refine VOk.mk (grow_ok (w:=16) (r:=140737488355328) hln rfl rfl rfl rfl (by simp only [List.length_cons,List.length_nil]; omega) (by simp only [List.length_cons,List.length_nil]; omega)) ?_|refine gK ?_)
          all_goals (try (conv=>whnf))
          rw [coS_snoc]
          exact ⟨rfl,yieldEnd_take rfl (.cons (shr_lp rfl rfl) (.cons (shr_box rfl rfl) (.cons (shr_box rfl rfl) (.cons (shr_row hp8) .nil)))) rfl⟩
      · have e:ownC (.mk k1 n1 s1 l1 t1)=[]:=if_neg h3
        rw [e,List.append_nil]
        cases don with
        |nil =>
          refine yield_intro rfl rfl ?_
          repeat' ((conv=>whnf);first|refine gT ?_|refine gF ?_|refine VIf.not ?_|refine gA ?_|refine gB ?_|refine VIf.dec (fun h=>?_) (fun h=>?_)|refine gC ?_|refine gD ?_|refine VIf.mk (fun h=>?_) (fun h=>?_)|refine gO ?_|refine gP ?_|refine VNat.mk _ rfl ?_|refine gV ?_|refine vret_pf rfl ?_|refine vret_take rfl rfl ?_|refine gK ?_)
          all_goals (try (conv=>whnf))
          exact ⟨rfl,by kernel_rfl⟩
        |cons d r =>
          refine yield_intro rfl rfl ?_
          repeat' ((conv=>whnf);first|refine gT ?_|refine gF ?_|refine VIf.not ?_|refine gA ?_|refine gB ?_|refine VIf.dec (fun h=>?_) (fun h=>?_)|refine gC ?_|refine gD ?_|refine VIf.mk (fun h=>?_) (fun h=>?_)|refine gO ?_|refine gP ?_|refine VNat.mk _ rfl ?_|refine gV ?_|refine vret_pf rfl ?_|refine vret_take rfl rfl ?_|refine gK ?_)
          all_goals (try (conv=>whnf))
          exact ⟨rfl,yieldEnd_take rfl (.cons (shr_lp rfl rfl) (.cons (shr_box rfl rfl) (.cons (shr_box rfl rfl) (.cons (shr_row (svs_pure _)) .nil)))) rfl⟩
    · rintro _ _ ⟨rfl,rfl⟩
      rw [hon hany]
      have hl0:=hlen hany
      have hpu:∀ l:List (List UInt8),[encSs l].all (pur 8)=true:=fun l=>by cases l <;> rfl
      cases hct:constsT (.mk k n s ls ts) with
      |nil =>
        have hso:=nameSort_can true 0 [] (.inr rfl) (by simp)
        refine vback_shr (.cons (shr_lp rfl rfl) (.cons (shr_box rfl rfl) (.cons (shr_box rfl rfl) .nil))) rfl ?_
        repeat' ((conv=>whnf);first|refine gT ?_|refine gF ?_|refine VIf.not ?_|refine gA ?_|refine gB ?_|refine VIf.dec (fun h=>?_) (fun h=>?_)|refine gC ?_|refine gD ?_|refine VIf.mk (fun h=>?_) (fun h=>?_)|refine gO ?_|refine gP ?_|refine VNat.mk _ rfl ?_|refine gV ?_|refine vret_pf rfl ?_|refine vret_take rfl rfl ?_|refine vcall_pf hso rfl rfl ?_|refine gK ?_)
        all_goals (try (conv=>whnf))
        rfl
      |cons d r =>
        rw [hct] at hl0
        have hso:=nameSort_can false 1 (d :: r) (.inl rfl) (by omega)
        refine vback_shr (.cons (shr_lp rfl rfl) (.cons (shr_box rfl rfl) (.cons (shr_box rfl rfl) (.cons (shr_row (svs_pure _)) .nil)))) rfl ?_
        repeat' ((conv=>whnf);first|refine gT ?_|refine gF ?_|refine VIf.not ?_|refine gA ?_|refine gB ?_|refine VIf.dec (fun h=>?_) (fun h=>?_)|refine gC ?_|refine gD ?_|refine VIf.mk (fun h=>?_) (fun h=>?_)|refine gO ?_|refine gP ?_|refine VNat.mk _ rfl ?_|refine gV ?_|refine vret_pf rfl ?_|refine vret_take rfl rfl ?_|refine gK ?_)
        all_goals (try (conv=>whnf))
        refine vcall_row rfl rfl (by simp) (svs_pure6 _) hso (hpu _) ?_
        repeat' ((conv=>whnf);first|refine gT ?_|refine gF ?_|refine VIf.not ?_|refine gA ?_|refine gB ?_|refine VIf.dec (fun h=>?_) (fun h=>?_)|refine gC ?_|refine gD ?_|refine VIf.mk (fun h=>?_) (fun h=>?_)|refine gO ?_|refine gP ?_|refine VNat.mk _ rfl ?_|refine gV ?_|refine vret_pf rfl ?_|refine vret_take rfl rfl ?_|refine gK ?_)
        all_goals (try (conv=>whnf))
        exact vret_pf (hpu _) rfl
  · rw [hoff (fun e=>by rw [show rightT _ 4 1125899906842624=anyT _ from rfl,e] at h; cases h)]
    rfl
end Go.Proofs.YtehhihdahalfeaaGreatDoor
namespace Go.Proofs.YtehhihdahalfeaaGreatDoor
open Go Go.Am Go.Gw
end Go.Proofs.YtehhihdahalfeaaGreatDoor
