/- AdmitNames: for every input the call returns true, and each argument reads afterwards as it read before; the tied card. -/
import Derived.Test.YtbnodhcijeaceaaGreatDoorZOs
import Derived.Test.YtbnodhcijeaceaaGreatDoorCards
import Derived.Test.YtbnodhcijeaceaaGreatDoorTie
import Derived.Test.YtbnodhcijeaceaaGreatDoorRows
import Derived.JoinedOf
set_option linter.all false
set_option maxRecDepth 100000
namespace Go.Proofs.YtbnodhcijeaceaaGreatDoor.admitNames
open Go
theorem kA:Rows.admitNamesRow.inPlace=Tryz.prog.inPlace 6:=by kernel_rfl
theorem kB:Rows.admitNamesRow.unfollowed=Tryz.prog.unfollowed 6:=by kernel_rfl
theorem kC:Rows.admitNamesRow.recurses=Tryz.prog.recurses 6:=by kernel_rfl
theorem kD:Rows.admitNamesRow.named=Tryz.prog.varsNamed 6:=by kernel_rfl
open Go
theorem closed:joinedFacts Tryz.prog 6 Tryz.f6 Rows.admitNamesSpec Rows.admitNamesRow=true:=by
 unfold joinedFacts;rw[←kA,←kB,←kC,←kD]
 kernel_rfl
end Go.Proofs.YtbnodhcijeaceaaGreatDoor.admitNames

set_option maxRecDepth 100000
namespace Go.Proofs.YtbnodhcijeaceaaGreatDoor.admitNames
open Go Go.ChangeShapes Go.WideShapes Go.ChangeAt Go.RowKit
theorem lifted(os:Os)(started:os.Started)(H:Type)(enc:TypeId×Value→H):
  ReturnsInHanded {} Tryz.checked os 6 .any (fun w args=>(Rows.admitNamesSpec.pre enc Tryz.prog Tryz.f6 Rows.admitNamesRow.domain false w args∧laidMetH Tryz.prog Rows.admitNamesRow.laid w)∧sizedMet enc Tryz.prog Tryz.f6 (OpenSpec.ofChange Rows.admitNamesSpec) false w args)
   (Rows.admitNamesSpec.post enc Tryz.prog Tryz.f6 false true false false):=by
 refine j8g (C:=Tryz.checked) (X:=fun w _=>laidMetH Tryz.prog Rows.admitNamesRow.laid w) (fun _ _ _ hh h=>h.of_heap hh) jrC started (by kernel_rfl) Tryz.func6
  (ChangeSpec.witness_shaped (enc:=enc) (C:=Tryz.checked) (os:=os) (X:=fun w _=>laidMetH Tryz.prog Rows.admitNamesRow.laid w) false (World.laidAll Tryz.prog os Rows.admitNamesRow.laid) #[.agg #[.int .i64 0,.int .i64 0,.string ⟨#[]⟩,.int .i64 0,.int .i64 0,.string ⟨#[]⟩,.slice none 0 0,.slice none 0 0,.int .i64 0,.int .i64 0,.string ⟨#[]⟩,.slice none 0 0,.slice none 0 0,.int .i64 0,.slice none 0 0],.string ⟨#[]⟩] 8 (World.laidAll_os _ _ _)
   (World.shaped_of_ZipB (by kernel_rfl) (by kernel_rfl)) (by kernel_rfl) (by kernel_rfl) (by kernel_rfl)
   (by rw[MakeChecks.laidMetH_plain _ _ _ (by kernel_rfl)];exact laidMet_laidAll _ (by kernel_rfl) (by kernel_rfl))) ?_
 intro W base args ds gs before hval0 hW _ hsz hL hsh _;have hval:∀(j:Nat) t v,Tryz.f6.params[j]?=some t→args[j]?=some v→Value.okWide Tryz.prog W .any base t v:=hval0;have hW':=hW;obtain⟨p,q,hA0,hV,rfl,hfz,hnd⟩:=hW;have hA:DataW.TrodAll enc Tryz.prog W 0 (fun _=>true) true Tryz.f6.params.toList args.toList ds p:=hA0
 rw[Tryz.params6] at hA hval;obtain⟨v0,vs0,d0,ds0,p0,q0,hargs,rfl,rfl,h0,r0⟩:=trodAll_cons hA;obtain⟨v1,vs1,d1,ds1,p1,q1,rfl,rfl,rfl,h1,r1⟩:=trodAll_cons r0;obtain⟨rfl,rfl,rfl⟩:=trodAll_nil r1;obtain rfl:args = #[v0,v1]:=by cases args;simp_all
 obtain⟨rfl,rfl⟩:=trodVars_none hV;have hw:∀(j:Nat) (t:TypeId) (d:DataW H),(Tryz.f6.params.toList++Rows.admitNamesSpec.plain.varTypes Tryz.prog)[j]?=some t→([d0,d1]++[])[j]?=some d→∀n∈d.weights Tryz.prog t,n≤reachBytes:=fun j t d ht hd n hn=>by
  have:=List.all_eq_true.1 hsz n (DataW.weights_mem_each (j:=j) ht hd n hn);simpa using this
 obtain⟨l0,c0,hl0,hr0⟩:=jpw (hval 0 47 v0 rfl rfl) h0 (hw 0 _ _ rfl rfl);obtain⟨l1,hs1,hr1⟩:=jsQ (hval 1 9 v1 rfl rfl) h1 (hw 1 _ _ rfl rfl);refine(jaJ (C:=C1) jtd (jcg l0 c0 hl0 l1 hs1) (base_of hL hsh) (.cons hr0 (.cons hr1 .nil))).mono ?_;rintro e W' ⟨m',φ',us,rfl,hus,hb⟩;obtain⟨u,us',rfl,hu,hus'⟩:=hus.uncons;obtain rfl:us'=[]:=List.eq_nil_of_length_eq_zero hus'.1.symm;obtain rfl:=hu.sc_eq;refine⟨_,rfl,Gw.post_low hW' hb joy (by
  rw[Tryz.params6]
  intro t ht;simp only[List.mem_cons,List.not_mem_nil,or_false] at ht;rcases ht with rfl|rfl
  ·exact jqC
  ·exact jsI) rfl rfl rfl (fun b sp hd=>?_) (ok_one (by kernel_rfl) rfl (okWide_bool_mk Tryz.underlying4 _))⟩
 exact trodAll_mk1 (shut_bool Tryz.underlying4 true)
theorem proved:Rows.AdmitNamesSaid:=
 OpenClaim.holds_of_wide 6 Tryz.f6 rfl rfl rfl rfl rfl rfl rfl ⟨rfl,rfl,rfl,rfl,rfl⟩ rfl rfl rfl rfl rfl (by kernel_rfl) Tryz.func6 closed
  (of_decide_eq_true (by kernel_rfl)) (by unfold Func.isWrapper;first|(rw[if_pos (by decide +kernel)];kernel_rfl)|(rw[if_neg (by decide +kernel)];exact⟨rfl,rfl⟩))
  (fun os started H enc _=>lifted os started H enc)
theorem card:Rows.AdmitNamesCardSaid:=
 Claim7.holds_tied_plain_at .later [] [.data,.data,.data,.data,.sentinel,.sentinel,.pinned] true (true,"873e72a25e04a07308bbd18f70a745a76f219266b979719002c632df6bbff8df") true
  proved (fun _ h=>by cases h) (by kernel_rfl) (fun _ h=>by cases h) admitNames_row_tie rfl ⟨rfl,rfl⟩ (by kernel_rfl) rfl
  (fun f fn hf hfn=>by
   obtain rfl:f=6:=Option.some.inj ((show Tryz.prog.funcNamed "scholium/scholiumlaw16.AdmitNames" = some 6 by kernel_rfl).symm.trans hf) |>.symm
   obtain rfl:fn=Tryz.f6:=(Option.some.inj (Tryz.func6.symm.trans hfn)).symm;exact⟨by kernel_rfl,fun j t ht=>by
    rw[Tryz.params6] at ht;have h3:t=47∨t=9:=by
     rcases j with _|_|j
     all_goals first|(simp at ht;done)|(simp at ht;subst ht;simp)
    rcases h3 with rfl|rfl
    ·exact(show Tryz.prog.wantsStandIn 47=false by kernel_rfl)
    ·exact(show Tryz.prog.wantsStandIn 9=false by kernel_rfl)⟩)
  (jb3 jjC rfl)
end Go.Proofs.YtbnodhcijeaceaaGreatDoor.admitNames
