/- The law of names, walked. -/
import Derived.Test.YtbnodhcijeaceaaGreatDoorZOn
set_option linter.all false
set_option maxHeartbeats 8000000
set_option maxRecDepth 100000
namespace Go.Proofs.YtbnodhcijeaceaaGreatDoor
open Go Go.Am Go.Gw
section
variable{E:Nv}{n:Nat}{s:List UInt8}{l l':Int}
theorem jq2(hs:getR s E.tr=none):∀{n:Nat}{l l':Int}{r:Except Int Tm},typF E n [] (cq s) l=some (r,l')→∃e,r=.error e
 |0,_,_,_,h=>by cases h
 |n+1,l,l',r,h=>by
  rw[jgV] at h;unfold typB at h;rcases j09 h with⟨e,h1,h2⟩|⟨u,l1,h1,h2⟩
  ·exact⟨e,h2⟩
  ·have e:typeAt E s []=.error 13:=by
    unfold typeAt jbO j0E;rw[hs]
   rw[if_neg (by simp[cq,Tm.kind]),if_neg (by simp[cq,Tm.kind]),if_pos (by simp[cq,Tm.kind])] at h2
   have h3:exF (typeAt E s []) l1=some (r,l'):=h2;rw[e] at h3;cases h3;exact⟨_,rfl⟩
theorem jd4(hs:getR s E.tr=none){r:Except Int Tm}(h:j4q E n [] (cq s) l=some (r,l')):∃e,r=.error e:=by
 unfold j4q at h;rcases j09 h with⟨e,h1,h2⟩|⟨u,l1,h1,h2⟩
 ·exact⟨e,h2⟩
 cases n with
 |zero=>cases h2
 |succ n=>
  rw[jb6] at h2;unfold jge at h2;rcases j09 h2 with⟨e,h3,h4⟩|⟨u,l2,h3,h4⟩
  ·exact⟨e,h4⟩
  unfold j8j at h4;rw[if_neg (by simp[cq,Tm.kind]),if_neg (by simp[cq,Tm.kind]),if_neg (by simp[cq,Tm.kind]),if_neg (by simp[cq,Tm.kind])] at h4
  unfold j9G at h4;rcases j09 h4 with⟨e,h5,h6⟩|⟨u,l3,h5,h6⟩
  ·exact⟨e,h6⟩
  ·exact jq2 hs h6
variable{d:Dc}{tot u:Int}
theorem jd5{r:Except Int En}(hs:getR s E.tr=none)(hd:(d.k=1∧d.ty=cq s)∨(¬d.k=1∧d.vl=cq s))(h:j1o E n d tot=some (r,u)):∃e,r=.error e:=by
 unfold j1o at h;split at h
 ·cases h;exact⟨_,rfl⟩
 split at h
 ·cases h;exact⟨_,rfl⟩
 split at h
 ·cases h
 ·cases h;exact⟨_,rfl⟩
 ·rename_i l2 hj;exfalso;unfold j2H at hj;rcases j09 hj with⟨e,h1,h2⟩|⟨x,l1,h1,h2⟩
  ·cases h2
  rcases hd with⟨hk,ht⟩|⟨hk,ht⟩
  ·rw[ht] at h1;unfold jcV at h1;rcases j09 h1 with⟨e,h3,h4⟩|⟨x,l3,h3,h4⟩
   ·cases h4
   ·obtain⟨e,he⟩:=jd4 hs h3;cases he
  ·rcases j09 h2 with⟨e,h3,h4⟩|⟨x,l3,h3,h4⟩
   ·cases h4
   rw[decide_eq_false hk,ht] at h4;dsimp only at h4;unfold j9j at h4;rcases j09 h4 with⟨e,h5,h6⟩|⟨x,l4,h5,h6⟩
   ·cases h6
   ·obtain⟨e,he⟩:=jd4 hs h5;cases he
theorem jqn{e:En}(h:j1o E n d tot=some (.ok e,u)):plain8 d=true:=by
 unfold j1o at h;split at h
 ·cases h
 ·assumption
end
def j7o:List UInt8:=[102,114,101,115,104]
theorem jcg(d:Dc)(v:PV)(h:DcP d v)(s:List UInt8)(hsl:s.length≤140737488355328):Pf C1 6 [v,sv s] [bv true]:=by
 have ha:=jaC;obtain⟨q,hg⟩:=j7x d v h;have hsz:(⟨s.toArray⟩:ByteArray).size=s.length:=by show s.toArray.size=_;simp
 by_cases hb:s.length≤40
 rotate_left
 ·cases h;refine j00 Tryz.func6 rfl rfl rfl ?_;repeat'(first|refine gU ?_|apply gE<;>intro h|apply gM<;>intro h|refine gX ha ?_|refine gX hg ?_|apply gK)<;>conv=>whnf
  all_goals first|rfl|(exfalso;omega)
 obtain⟨cs,hE,hL⟩:=jbd;obtain⟨n,r,u,hp,u0,u1,ue⟩:=j6T nv14_G.ok d 6000 (by omega)
 have h14:nv14.es.length=12:=by decide
 have hA:=j1k hE nv14_G (by omega) (by omega) (by omega) d v h r u ue hp
 have hH:=jm5 nv14 _ hE [s] true 1 (.inl rfl) (by simp)
 obtain⟨vn,hn,rn⟩:=j3t jdh;have hcq:=cq_P s (by omega)
 have hx1:getR s nv14.tr=none→∃u e,¬e=0∧Pf C1 27 [.cp cs,.ag ([iv 1,iv 0,sv j7o,iv 3,iv 0,sv s,.sl true 0 [],.sl true 0 []]++zTm++[iv 0,.sl true 0 []]),iv 6000] [nilP,iv u,iv e]:=fun hs=>by
  have hd:DcP ⟨1,0,j7o,cq s,tz,0,[]⟩ (.ag ([iv 1,iv 0,sv j7o,iv 3,iv 0,sv s,.sl true 0 [],.sl true 0 []]++zTm++[iv 0,.sl true 0 []])):=.mk 1 0 j7o (cq s) tz 0 [] _ _ _ _ _ _ _ _ _ _ _ _ _ _ _ _ _ _ true 0 [] hcq j5P (.inr rfl) rfl (by simp) (by decide) (by unfold i64;omega) (by unfold i64;omega) (by unfold i64;omega)
  obtain⟨n,r,u,hp,u0,u1,ue⟩:=j6T nv14_G.ok ⟨1,0,j7o,cq s,tz,0,[]⟩ 6000 (by omega)
  obtain⟨e,rfl⟩:=jd5 hs (.inl ⟨rfl,rfl⟩) hp;exact⟨u,e,ue e rfl,j1k hE nv14_G (by omega) (by omega) (by omega) _ _ hd _ u ue hp⟩
 have hn':=hn;obtain⟨n1,n2,n3,n4,n5,n6,n7,n8,n9,nx,ny,-,rfl,-⟩:=hn'.open;have hx2:getR s nv14.tr=none→∀k:Nat,2≤k→k≤4→∃u e,¬e=0∧Pf C1 27 [.cp cs,.ag [iv k,iv 0,sv j7o,iv n1,iv n2,sv n3,.sl n6 n7 n8,.sl n9 nx ny,iv 3,iv 0,sv s,.sl true 0 [],.sl true 0 [],iv 0,.sl true 0 []],iv 6000] [nilP,iv u,iv e]:=fun hs k k2 k4=>by
  have hd:DcP ⟨k,0,j7o,tNat,cq s,0,[]⟩ (.ag [iv k,iv 0,sv j7o,iv n1,iv n2,sv n3,.sl n6 n7 n8,.sl n9 nx ny,iv 3,iv 0,sv s,.sl true 0 [],.sl true 0 [],iv 0,.sl true 0 []]):=.mk k 0 j7o tNat (cq s) 0 [] _ _ _ _ _ _ _ _ _ _ _ _ _ _ _ _ _ _ true 0 [] hn hcq (.inr rfl) rfl (by simp) (by decide) (by unfold i64;omega) (by unfold i64;omega) (by unfold i64;omega)
  obtain⟨n,r,u,hp,u0,u1,ue⟩:=j6T nv14_G.ok ⟨k,0,j7o,tNat,cq s,0,[]⟩ 6000 (by omega)
  obtain⟨e,rfl⟩:=jd5 hs (.inr ⟨by dsimp only;omega,rfl⟩) hp
  exact⟨u,e,ue e rfl,j1k hE nv14_G (by omega) (by omega) (by omega) _ _ hd _ u ue hp⟩
 simp only[List.all_cons,List.all_nil,Bool.and_true] at hH;have hB:∀e,r=.ok e→∀c2,NvG (nv14.push e)→NvP (nv14.push e) (.cp c2)→Pf C1 27 [.cp c2,v,iv 6000] [nilP,iv 0,iv 14]:=fun e he c2 hG hE2=>by
  subst he;obtain⟨p1,p2,p3⟩:=jbx hp;have hgt:getR d.nm (nv14.push e).tr=some (nv14.es.length:Int):=jei hG.bst (by
   rw[←p2];exact jhN _)
  exact j1k (n:=0) hE2 hG (by simp only[Nv.push,List.length_append,List.length_cons,List.length_nil];omega) (by omega) (by omega) d v h (.error 14) 0 (fun e h=>by cases h;omega) (j9T (jqn hp) hgt)
 cases r with
 |error e=>
  have he:=ue e rfl;have hA:Pf _ _ _ _:=hA;cases hs:getR s nv14.tr with
  |some i=>
   rw[hs] at hH;cases h;refine j00 Tryz.func6 rfl rfl rfl ?_;repeat'(first|refine gU ?_|apply gE<;>intro h|apply gM<;>intro h|refine gX ha ?_|refine gX hg ?_|refine gX hL ?_|refine gX hA ?_|refine gX hH ?_|apply gK)<;>conv=>whnf
   all_goals first|rfl|contradiction|(exfalso;omega)|skip
  |none=>
   rw[hs] at hH;obtain⟨v1,e1,m1,x1⟩:=hx1 hs;have hx2:=hx2 hs;cases h;refine j00 Tryz.func6 rfl rfl rfl ?_;repeat'(first|refine gU ?_|apply gE<;>intro h|apply gM<;>intro h|refine gX ha ?_|refine gX hg ?_|refine gX hL ?_|refine gX hA ?_|refine gX hH ?_|apply gK)<;>conv=>whnf
   all_goals first|rfl|contradiction|(exfalso;omega)|skip
   refine j03 (G:=Nat) (fun k=>[(13,iv k)]) (fun _=>_) (fun k=>1≤k∧k≤5) (fun k=>5-k) 1 ⟨by omega,by omega⟩ rfl rfl ?_
   rintro k ⟨hk1,hk5⟩;dsimp only at hk1 hk5⊢;repeat'(first|refine gU ?_|apply gE<;>intro h|apply gM<;>intro h|apply gK)<;>conv=>whnf
   ·by_cases k1:k=1
    ·subst k1;repeat'(first|refine gU ?_|apply gE<;>intro h|apply gM<;>intro h|refine j01 rn fun _=>?_|refine gX rn ?_|refine gX x1 ?_|apply gK)<;>conv=>whnf
     all_goals first|contradiction|(exfalso;omega)|exact VAgain.mk _ rfl _ (j0a rfl rfl rfl) ⟨2,⟨by omega,by omega⟩,by omega,rfl⟩
    ·obtain⟨u2,e2,n2,x2⟩:=hx2 k (by omega) (by omega)
     repeat'(first|refine gU ?_|apply gE<;>intro h|apply gM<;>intro h|refine j01 rn fun _=>?_|refine gX rn ?_|refine gX x2 ?_|apply gK)<;>conv=>whnf
     all_goals first|contradiction|(exfalso;omega)|exact VAgain.mk _ rfl _ (j0a rfl rfl rfl) ⟨k+1,⟨by omega,by omega⟩,by omega,rfl⟩
 |ok e=>
  obtain⟨g1,c2,hE2,hA⟩:=hA;have hB:=hB e rfl c2 g1 hE2;cases hs:getR s nv14.tr with
  |some i=>
   rw[hs] at hH;cases h;refine j00 Tryz.func6 rfl rfl rfl ?_;repeat'(first|refine gU ?_|apply gE<;>intro h|apply gM<;>intro h|refine gX ha ?_|refine gX hg ?_|refine gX hL ?_|refine gX hA ?_|refine gX hB ?_|refine gX hH ?_|apply gK)<;>conv=>whnf
   all_goals first|rfl|contradiction|(exfalso;omega)|skip
  |none=>
   rw[hs] at hH;obtain⟨v1,e1,m1,x1⟩:=hx1 hs;have hx2:=hx2 hs;cases h;refine j00 Tryz.func6 rfl rfl rfl ?_;repeat'(first|refine gU ?_|apply gE<;>intro h|apply gM<;>intro h|refine gX ha ?_|refine gX hg ?_|refine gX hL ?_|refine gX hA ?_|refine gX hB ?_|refine gX hH ?_|apply gK)<;>conv=>whnf
   all_goals first|rfl|contradiction|(exfalso;omega)|skip
   refine j03 (G:=Nat) (fun k=>[(13,iv k)]) (fun _=>_) (fun k=>1≤k∧k≤5) (fun k=>5-k) 1 ⟨by omega,by omega⟩ rfl rfl ?_
   rintro k ⟨hk1,hk5⟩;dsimp only at hk1 hk5⊢;repeat'(first|refine gU ?_|apply gE<;>intro h|apply gM<;>intro h|apply gK)<;>conv=>whnf
   ·by_cases k1:k=1
    ·subst k1;repeat'(first|refine gU ?_|apply gE<;>intro h|apply gM<;>intro h|refine j01 rn fun _=>?_|refine gX rn ?_|refine gX x1 ?_|apply gK)<;>conv=>whnf
     all_goals first|contradiction|(exfalso;omega)|exact VAgain.mk _ rfl _ (j0a rfl rfl rfl) ⟨2,⟨by omega,by omega⟩,by omega,rfl⟩
    ·obtain⟨u2,e2,n2,x2⟩:=hx2 k (by omega) (by omega)
     repeat'(first|refine gU ?_|apply gE<;>intro h|apply gM<;>intro h|refine j01 rn fun _=>?_|refine gX rn ?_|refine gX x2 ?_|apply gK)<;>conv=>whnf
     all_goals first|contradiction|(exfalso;omega)|exact VAgain.mk _ rfl _ (j0a rfl rfl rfl) ⟨k+1,⟨by omega,by omega⟩,by omega,rfl⟩
open Go Go.ChangeShapes Go.WideShapes Go.ChangeAt Go.RowKit Go.Am Go.Gw
theorem jsI:Tryz.prog.readableRec 9=true∧9<Tryz.prog.types.size:=⟨by kernel_rfl,of_decide_eq_true (by kernel_rfl)⟩
section
variable{H:Type}{enc:TypeId×Value→H}{W:World}{r:Reach}{b0:Nat}{v:Value}{d:DataW H}{ps:List MemPlace}
theorem jsQ(hv:Value.okWide Tryz.prog W r b0 9 v)(h:DataW.Trod enc Tryz.prog W 0 (fun _=>true) true 9 v d ps)(hw:∀n∈d.weights Tryz.prog 9,n≤reachBytes):
  ∃l,l.length≤140737488355328∧Am.R (memB W) Am.noPh (sv l) v:=by
 obtain⟨s0,rfl⟩:=okWide_string Tryz.underlying9 hv;obtain⟨fuel,hf⟩:=h;obtain⟨s,hs,hx,_⟩:=DataW.trod_string Tryz.underlying9 hf;cases hs;cases hx;have hsl:s0.data.toList.length≤reachBytes:=hw _ (by simp[DataW.weights])
 unfold reachBytes at hsl;refine⟨s0.data.toList,by omega,?_⟩
 rw[j9Y s0];exact .sc rfl
end
end Go.Proofs.YtbnodhcijeaceaaGreatDoor
