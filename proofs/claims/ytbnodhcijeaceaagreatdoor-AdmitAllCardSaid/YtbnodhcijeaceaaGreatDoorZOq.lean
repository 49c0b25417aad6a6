/- AdmitAll: for every input the call returns true, and each argument reads afterwards as it read before; the tied card. -/
import Derived.Test.YtbnodhcijeaceaaGreatDoorZOn
import Derived.Test.YtbnodhcijeaceaaGreatDoorZOp
import Derived.Test.YtbnodhcijeaceaaGreatDoorCards
import Derived.Test.YtbnodhcijeaceaaGreatDoorTie
set_option linter.all false
set_option maxRecDepth 100000
namespace Go.Proofs.YtbnodhcijeaceaaGreatDoor.admitAll
open Go Go.ChangeShapes Go.WideShapes Go.ChangeAt Go.RowKit
theorem lifted(os:Os)(started:os.Started)(H:Type)(enc:TypeId×Value→H):
  ReturnsInHanded {} Tryz.checked os 8 .any (fun w args=>(Rows.admitAllSpec.pre enc Tryz.prog Tryz.f8 Rows.admitAllRow.domain false w args∧laidMetH Tryz.prog Rows.admitAllRow.laid w)∧sizedMet enc Tryz.prog Tryz.f8 (OpenSpec.ofChange Rows.admitAllSpec) false w args)
   (Rows.admitAllSpec.post enc Tryz.prog Tryz.f8 false true false false):=by
 refine j8g (C:=Tryz.checked) (X:=fun w _=>laidMetH Tryz.prog Rows.admitAllRow.laid w) (fun _ _ _ hh h=>h.of_heap hh) jrC started (by kernel_rfl) Tryz.func8
  (ChangeSpec.witness_shaped (enc:=enc) (C:=Tryz.checked) (os:=os) (X:=fun w _=>laidMetH Tryz.prog Rows.admitAllRow.laid w) false (World.laidAll Tryz.prog os Rows.admitAllRow.laid) #[.slice none 0 0,.int .i64 0] 8 (World.laidAll_os _ _ _)
   (World.shaped_of_ZipB (by kernel_rfl) (by kernel_rfl)) (by kernel_rfl) (by kernel_rfl) (by kernel_rfl)
   (by rw[MakeChecks.laidMetH_plain _ _ _ (by kernel_rfl)];exact laidMet_laidAll _ (by kernel_rfl) (by kernel_rfl))) ?_
 intro W base args ds gs before hval0 hW _ hsz hL hsh _;have hval:∀(j:Nat) t v,Tryz.f8.params[j]?=some t→args[j]?=some v→Value.okWide Tryz.prog W .any base t v:=hval0;have hW':=hW;obtain⟨p,q,hA0,hV,rfl,hfz,hnd⟩:=hW;have hA:DataW.TrodAll enc Tryz.prog W 0 (fun _=>true) true Tryz.f8.params.toList args.toList ds p:=hA0
 rw[Tryz.params8] at hA hval;obtain⟨v0,vs0,d0,ds0,p0,q0,hargs,rfl,rfl,h0,r0⟩:=trodAll_cons hA;obtain⟨v1,vs1,d1,ds1,p1,q1,rfl,rfl,rfl,h1,r1⟩:=trodAll_cons r0;obtain⟨rfl,rfl,rfl⟩:=trodAll_nil r1;obtain rfl:args = #[v0,v1]:=by cases args;simp_all
 obtain⟨rfl,rfl⟩:=trodVars_none hV;have hw:∀(j:Nat) (t:TypeId) (d:DataW H),(Tryz.f8.params.toList++Rows.admitAllSpec.plain.varTypes Tryz.prog)[j]?=some t→([d0,d1]++[])[j]?=some d→∀n∈d.weights Tryz.prog t,n≤reachBytes:=fun j t d ht hd n hn=>by
  have:=List.all_eq_true.1 hsz n (DataW.weights_mem_each (j:=j) ht hd n hn);simpa using this
 obtain⟨l0,c0,hl0,hr0⟩:=jmR (hval 0 75 v0 rfl rfl) h0 (hw 0 _ _ rfl rfl);obtain⟨l1,hr1,_⟩:=jso (hval 1 3 v1 rfl rfl) h1;refine(jaJ (C:=C1) jtd (jfo l0 c0 hl0 l1) (base_of hL hsh) (.cons hr0 (.cons hr1 .nil))).mono ?_;rintro e W' ⟨m',φ',us,rfl,hus,hb⟩;obtain⟨u,us',rfl,hu,hus'⟩:=hus.uncons;obtain rfl:us'=[]:=List.eq_nil_of_length_eq_zero hus'.1.symm;obtain rfl:=hu.sc_eq;refine⟨_,rfl,Gw.post_low hW' hb joy (by
  rw[Tryz.params8]
  intro t ht;simp only[List.mem_cons,List.not_mem_nil,or_false] at ht;rcases ht with rfl|rfl
  ·exact jop
  ·exact jsH) rfl rfl rfl (fun b sp hd=>?_) (ok_one (by kernel_rfl) rfl (okWide_bool_mk Tryz.underlying4 _))⟩
 exact trodAll_mk1 (shut_bool Tryz.underlying4 true)
theorem proved:Rows.AdmitAllSaid:=
 OpenClaim.holds_of_wide 8 Tryz.f8 rfl rfl rfl rfl rfl rfl rfl ⟨rfl,rfl,rfl,rfl,rfl⟩ rfl rfl rfl rfl rfl (by kernel_rfl) Tryz.func8 closed
  (of_decide_eq_true (by kernel_rfl)) (by unfold Func.isWrapper;first|(rw[if_pos (by decide +kernel)];kernel_rfl)|(rw[if_neg (by decide +kernel)];exact⟨rfl,rfl⟩))
  (fun os started H enc _=>lifted os started H enc)
theorem card:Rows.AdmitAllCardSaid:=
 Claim7.holds_tied_plain_at .later [] [.data,.data,.data,.data,.sentinel,.sentinel,.pinned] true (true,"873e72a25e04a07308bbd18f70a745a76f219266b979719002c632df6bbff8df") true
  proved (fun _ h=>by cases h) (by kernel_rfl) (fun _ h=>by cases h) admitAll_row_tie rfl ⟨rfl,rfl⟩ (by kernel_rfl) rfl
  (fun f fn hf hfn=>by
   obtain rfl:f=8:=Option.some.inj ((show Tryz.prog.funcNamed "scholium/scholiumlaw16.AdmitAll" = some 8 by kernel_rfl).symm.trans hf) |>.symm
   obtain rfl:fn=Tryz.f8:=(Option.some.inj (Tryz.func8.symm.trans hfn)).symm;exact⟨by kernel_rfl,fun j t ht=>by
    rw[Tryz.params8] at ht;have h3:t=75∨t=3:=by
     rcases j with _|_|j
     all_goals first|(simp at ht;done)|(simp at ht;subst ht;simp)
    rcases h3 with rfl|rfl
    ·exact(show Tryz.prog.wantsStandIn 75=false by kernel_rfl)
    ·exact(show Tryz.prog.wantsStandIn 3=false by kernel_rfl)⟩)
  (jb3 jjC rfl)
end Go.Proofs.YtbnodhcijeaceaaGreatDoor.admitAll
