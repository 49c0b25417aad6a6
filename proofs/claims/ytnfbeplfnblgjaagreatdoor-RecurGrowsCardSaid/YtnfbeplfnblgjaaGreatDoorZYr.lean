/- What package recur answers of families of constructors without fields; settings for the law. -/
import Derived.Test.YtnfbeplfnblgjaaGreatDoorZVs
import Derived.LaidMore
import Derived.Lay
import Derived.Stop.LaidErr
import Derived.Shelf.Vars
import Derived.Test.YtnfbeplfnblgjaaGreatDoorCards
import Derived.Test.YtnfbeplfnblgjaaGreatDoorTie
import Derived.Test.YtnfbeplfnblgjaaGreatDoorZVj
import Derived.Test.YtnfbeplfnblgjaaGreatDoorZVk
import Derived.Test.YtnfbeplfnblgjaaGreatDoorZVl
import Derived.Test.YtnfbeplfnblgjaaGreatDoorZVn
import Derived.Test.YtnfbeplfnblgjaaGreatDoorZXo
set_option linter.all false
set_option maxHeartbeats 20000000
set_option maxRecDepth 100000
namespace Go.Proofs.YtnfbeplfnblgjaaGreatDoor
open Go Go.Am Go.Gw
theorem jcM:∀n,n≤7→∀lg,okN n lg=true
 |0,_,true=>jef
 |0,_,false=>jee
 |1,_,true=>jeh
 |1,_,false=>jeg
 |2,_,true=>jej
 |2,_,false=>jei
 |3,_,true=>jel
 |3,_,false=>jek
 |4,_,true=>jen
 |4,_,false=>jem
 |5,_,true=>jep
 |5,_,false=>jeo
 |6,_,true=>jer
 |6,_,false=>jeq
 |7,_,true=>jet
 |7,_,false=>jes
 |n+8,h,_=>absurd h (by omega)
def isT:List PV→Bool
 |[.ag (_::_::.sc (.string s)::_),_]=>decide (s.data.toList=[116])
 |_=>false
def is8:List PV→Bool
 |[.ag cs,_]=>match cs.drop 14 with
  | .sl _ _ xs::_=>Nat.beq xs.length 8
  |_=>false
 |_=>false
theorem jdp:∀n,n≤7→∀lg,is8 [j5e n,bv lg]=false
 |0,_,_=>rfl
 |1,_,_=>rfl
 |2,_,_=>rfl
 |3,_,_=>rfl
 |4,_,_=>rfl
 |5,_,_=>rfl
 |6,_,_=>rfl
 |7,_,_=>rfl
 |n+8,h,_=>absurd h (by omega)
noncomputable def natB(args:List PV)(st:Sto):Option (AEnd×Sto):=match isT args with
 |true=>match is8 args with
  |true=>j3f CR3 10 args st
  |false=>j3f CR2 10 args st
 |false=>j3f CR 10 args st
theorem jbm:DoesOk (CallD CR.P 10) natB:=fun args st r st' h=>by
 unfold natB at h;split at h
 ·split at h
  ·exact j1l (C:=CR3) (fun n=>(jde n).call) _ args st r st' h
  ·exact j1l (C:=CR2) (fun n=>(jc4 n).call) _ args st r st' h
 ·exact j1l (C:=CR) (fun n=>(jdg n).call) _ args st r st' h
noncomputable def natX(f:FuncId):Option (List PV→Sto→Option (AEnd×Sto)):=match Nat.beq f 4 with
 |true=>none
 |false=>match Nat.beq f 10 with
  |true=>some natB
  |false=>some (j3f CR f)
noncomputable def CX:Cfg:=⟨CR.P,CR.fz,CR.raw,CR.keep,CR.lit,natX,CR.fzc,CR.pst,true⟩
theorem jdh:NatOk CX:=fun f F hF=>by
 have hF:natX f=some F:=hF;unfold natX at hF;split at hF
 ·cases hF
 ·split at hF
  ·rename_i hb;cases hF;have e:=Nat.eq_of_beq_eq_true hb;subst e;exact jbm
  ·cases hF;exact j1l (C:=CR) (fun n=>(jdg n).call) f
theorem je2(n:Nat):EvOk CX (ev CX n):=ev_ok (by kernel_rfl) (by kernel_rfl) jdh n
theorem j6b(n:Nat)(hn:n≤8)(lg:Bool):∃nm p t k nn s lb lz lx tb tz tx rb rz rs,TmP t (.ag [iv k,iv nn,sv s,.sl lb lz lx,.sl tb tz tx])∧piN 40 t=some (n+2)∧rs.length=n∧Pf CX 10 [j5e n,bv lg] [.ag [sv nm,iv p,iv k,iv nn,sv s,.sl lb lz lx,.sl tb tz tx,.sl rb rz rs],iv 0]:=by
 rcases Nat.lt_or_ge n 8 with hn7|hn8
 ·have h:=jcM n (by omega) lg
  unfold okN at h;obtain⟨t,k,nn,s,lb,lz,lx,tb,tz,tx,rb,rz,rs,hT,hq,hl,-,-,hp⟩:=jan h;refine⟨_,_,t,k,nn,s,lb,lz,lx,tb,tz,tx,rb,rz,rs,hT,?_,hl,j2z (C:=CR2) (F:=natB) rfl (fun r st' h=>by unfold natB;rw[show isT [j5e n,bv lg]=true from rfl,jdp n (by omega) lg];exact h) hp⟩
  split at hq
  ·rename_i q heq;rw[heq,Nat.eq_of_beq_eq_true hq]
  ·cases hq
 ·obtain rfl:n=8:=by omega
  have h:okN3 lg=true:=by
   cases lg
   ·exact jeu
   ·exact jev
  unfold okN3 at h;obtain⟨t,k,nn,s,lb,lz,lx,tb,tz,tx,rb,rz,rs,hT,hq,hl,-,-,hp⟩:=jao h;refine⟨_,_,t,k,nn,s,lb,lz,lx,tb,tz,tx,rb,rz,rs,hT,?_,hl,j2z (C:=CR3) (F:=natB) rfl (fun r st' h=>by unfold natB;rw[show isT [j5e 8,bv lg]=true from rfl,show is8 [j5e 8,bv lg]=true from rfl];exact h) hp⟩
  split at hq
  ·rename_i q heq;rw[heq,Nat.eq_of_beq_eq_true hq]
  ·cases hq
theorem jb0(lg:Bool):∃nm p k nn s lb lz lx tb tz tx rb rz rs,Pf CX 10 [vecS,bv lg] [.ag [sv nm,iv p,iv k,iv nn,sv s,.sl lb lz lx,.sl tb tz tx,.sl rb rz rs],iv 0]:=by
 have h:okV lg=true:=by
  cases lg
  ·exact okVf
  ·exact okVt
 unfold okV at h;obtain⟨t,k,nn,s,lb,lz,lx,tb,tz,tx,rb,rz,rs,hT,hq,hl,-,-,hp⟩:=j8a h;exact⟨_,_,k,nn,s,lb,lz,lx,tb,tz,tx,rb,rz,rs,j2z (C:=CR) (F:=natB) rfl (fun r st' h=>by unfold natB;rw[show isT [vecS,bv lg]=false from rfl];exact h) hp⟩
theorem jdH:Pf CX 17 [sv [40,42,32,49,41]] [.ag [iv 2,iv 0,sv [],.sl true 3 [.ag [iv 1,iv 1,.sl true 0 []]],.sl true 0 []]]:=j5D (C:=CR) rfl (pf_of (st':=[]) 100 (by kernel_rfl))
theorem jex:Pf CX 17 [sv [116]] [.ag [iv 3,iv 0,sv [116],.sl true 0 [],.sl true 0 []]]:=j5D (C:=CR) rfl (pf_of (st':=[]) 100 (by kernel_rfl))
def dclC(x:PV):List PV:=[iv 5,iv 0,sv [116],iv 2,iv 0,sv [],.sl true 3 [.ag [iv 1,iv 1,.sl true 0 []]],.sl true 0 [],iv 0,iv 0,sv [],.sl true 0 [],.sl true 0 [],iv 0,x]
def nmsV:List PV:=[sv [97],sv [98],sv [99],sv [100],sv [101],sv [102],sv [103],sv [104]]
theorem j5A:∀i,i≤7→nmsV[i]?=some (sv [UInt8.ofNat (97+i)])
 |0,_=>rfl
 |1,_=>rfl
 |2,_=>rfl
 |3,_=>rfl
 |4,_=>rfl
 |5,_=>rfl
 |6,_=>rfl
 |7,_=>rfl
 |n+8,h=>absurd h (by omega)
theorem j2X(n:Nat):csV (n+1)=csV n++[.ag [sv [UInt8.ofNat (97+n)],iv 3,iv 0,sv [116],.sl true 0 [],.sl true 0 []]]:=by
 simp[csV,List.range_succ,ctV]
theorem j5b(n:Nat):(csV n).length=n:=by simp[csV]
theorem j5c(n k:Nat):(csV n).all (pur (k+2))=true:=by
 rw[List.all_eq_true]
 intro x hx;obtain⟨i,-,rfl⟩:=List.mem_map.1 hx;rfl
theorem j3X{st:Sto}{i n:Nat}{b:Bool}{xs:List PV}(lg:Bool)(hst:st[i]?=some (.row b 53 6 xs))(hn:n=xs.length)(hp:xs.all (pur 6)=true):handed CX 10 [.ag (dclC (.ms i n)),bv lg] st=some ([.ag (dclC (.sl false 6 xs)),bv lg],st.set i (.row true 53 6 xs)):=
 (show handed CX 10 [.ag (dclC (.ms i n)),bv lg] st=mapS (pubV CX 8) [.ag (dclC (.ms i n)),bv lg] st from rfl).trans <|j02 (j2q (j02 rfl (j02 rfl (j02 rfl (j02 rfl (j02 rfl (j02 rfl (j02 rfl (j02 rfl (j02 rfl (j02 rfl (j02 rfl (j02 rfl (j02 rfl (j02 rfl (j02 (j0D hst hn hp) j0h)))))))))))))))) (j02 rfl j0h)
open Go Go.Am Go.Gw
variable{n:Int}{ls:List Lv}{ts:List Tm}{s:List UInt8}{f r:Nat}{W:World}
theorem j8k(h:piN f (.mk 6 n s ls ts)=some r):∃f' a b l r',ts=a::b::l∧piN f' b=some r'∧r=r'+1:=by
 cases f with
 |zero=>cases h
 |succ f=>
  unfold piN at h;rw[show decide ((6:Int)=6)=true from rfl] at h
  match ts,h with
  |[],h=>cases h
  |[_],h=>cases h
  |a::b::l,h=>
   dsimp only at h;cases hb:piN f b with
   |none=>rw[hb] at h;cases h
   |some r'=>
    rw[hb] at h;cases h;exact⟨f,a,b,l,r',rfl,hb,rfl⟩
theorem j5E{k:Int}(h:piN f (.mk k n s ls ts)=some r)(hk:¬k=6):r=0:=by
 cases f with
 |zero=>cases h
 |succ f=>
  unfold piN at h;rw[show decide (k=6)=false from decide_eq_false hk] at h
  dsimp only at h;cases h;rfl
def rgS(b:Bool):Nat→Sto
 |0=>[.box 28 (dclC (.sl true 0 []))]
 |j+1=>[.box 28 (dclC (.ms 1 (j+1))),.row b 53 6 (csV (j+1))]
theorem j4s(n:Int)(lg:Bool):Pf CX 4 [iv n,bv lg] [bv true]:=by
 have hal:Pf CX _ _ _:=j5D (C:=CR) rfl j6O
 by_cases hoff:n<0∨7<n
 ·refine run_intro Tryz.func4 rfl rfl rfl ?_;repeat'(first|refine gU ?_|apply gE<;>intro h|apply gM<;>intro h|refine gX hal ?_|apply gK)<;>conv=>whnf
  all_goals first|rfl|(exfalso;omega)|trace_state
 obtain⟨k,rfl⟩:∃k:Nat,n=k:=⟨n.toNat,by omega⟩
 have hk:k≤7:=by omega
 have hty:=jdH;have ht:=jex;have hvec:Pf CX _ _ _:=j5D (C:=CR) rfl jd0;obtain⟨nm1,p1,t1,k1,n1,s1,lb1,lz1,lx1,tb1,tz1,tx1,rb1,rz1,rs1,hT1,hpi1,hl1,hb1⟩:=j6b k (by omega) lg
 obtain⟨nm2,p2,t2,k2,n2,s2,lb2,lz2,lx2,tb2,tz2,tx2,rb2,rz2,rs2,hT2,hpi2,hl2,hb2⟩:=j6b (k+1) (by omega) lg
 obtain⟨nm3,p3,k3,n3,s3,lb3,lz3,lx3,tb3,tz3,tx3,rb3,rz3,rs3,hb3⟩:=jb0 lg;refine run_intro Tryz.func4 rfl rfl rfl ?_;repeat'(first|refine gU ?_|apply gE<;>intro h|apply gM<;>intro h|refine gX hal ?_|refine gX hty ?_|apply gK)<;>conv=>whnf
 refine loop_over (G:=Nat) (fun i=>[(7,iv i)]) (fun i=>rgS false i) (fun i=>i≤k) (fun i=>k-i) 0 (by omega) rfl rfl ?_
 intro i hi;cases i with
 |zero=>
  simp only[rgS,dclC];repeat'(first|refine gU ?_|apply gE<;>intro h|apply gM<;>intro h|apply gK)<;>conv=>whnf
  ·repeat'(first|refine gU ?_|apply gE<;>intro h|apply gM<;>intro h|refine VIdx.mk _ (j5A 0 (by omega)) ?_|refine finds_pf ht fun _=>?_|apply gK)<;>conv=>whnf
   exact VAgain.sq _ rfl _ (j0q (.cons (j00 rfl rfl) (.cons (j03 rfl) (.cons (j03 rfl) .nil))) (.cons (j00 rfl rfl) (.cons j07 (.cons (j03 rfl) .nil))) rfl rfl rfl rfl rfl) rfl _ _ (j0R (.cons (j01 rfl rfl) (.cons j0T (.cons (j0a rfl) .nil))) rfl rfl rfl rfl) ⟨1,by omega,by omega,rfl⟩
  ·obtain rfl:k=0:=by omega
   (conv=>whnf)
   refine gX hb1 ?_;repeat'(first|refine gU ?_|apply gE<;>intro h|apply gM<;>intro h|refine VIdx.mk _ (j5A 0 (by omega)) ?_|refine finds_pf ht fun _=>?_|apply gK)<;>conv=>whnf
   refine j0K (args':=[.ag (dclC (.sl false 6 (csV 1))),bv lg]) (j3X lg (i:=3) (n:=1) (b:=false) (xs:=csV 1) rfl rfl rfl) rfl hb2 rfl ?_;have hp8:(csV 1).all (pur 8)=true:=rfl;repeat'(first|refine gU ?_|apply gE<;>intro h|apply gM<;>intro h|apply gK)<;>conv=>whnf
   all_goals try(exfalso;omega)
   dsimp only[List.nil_append,List.cons_append,List.append_nil,List.set_cons_zero,List.set_cons_succ,List.length_cons,List.length_nil,Nat.zero_add,Nat.add_zero,retV,PV.cells,updP,List.take_succ_cons,List.take_zero,List.drop_succ_cons,List.drop_zero,List.map_cons,List.map_nil];have z25:∀h,(CX.P.types[25]'h).size=5:=fun _=>rfl
   have z28:∀h,(CX.P.types[28]'h).size=15:=fun _=>rfl
   have z53:∀h,(CX.P.types[53]'h).size=6:=fun _=>rfl
   have z9:∀h,(CX.P.types[9]'h).size=1:=fun _=>rfl
   simp only[z25,z28,z53,z9,List.getElem_toArray,List.getElem_cons_zero,List.getElem_cons_succ,List.take_succ_cons,List.take_zero,List.drop_succ_cons,List.drop_zero,Nat.zero_add,Nat.zero_mul,List.range_succ,List.range_zero,List.flatMap_cons,List.flatMap_nil];refine loop_over (G:=Nat×Tm×PV) (fun g=>[(13,match g.1 with
     |0=>.bp 5 0
     |_+1=>.bp 6 0),(12,iv g.1)]) (fun g=>[.box 28 (dclC (.ms 3 1)),.box 33 [sv nm1,iv p1,iv k1,iv n1,sv s1,.sl lb1 lz1 lx1,.sl tb1 tz1 tx1,.sl rb1 rz1 rs1],.row false 53 6 (csV 1),.row true 53 6 (csV 1),.box 33 [sv nm2,iv p2,iv k2,iv n2,sv s2,.sl lb2 lz2 lx2,.sl tb2 tz2 tx2,.sl rb2 rz2 rs2],.box 25 [iv k2,iv n2,sv s2,.sl lb2 lz2 lx2,.sl tb2 tz2 tx2]]++(match g.1 with
     |0=>[]
     |_+1=>[.box 25 g.2.2.cells])) (fun g=>TmP g.2.1 g.2.2∧(∃f r,piN f g.2.1=some r∧g.1+r=0+1+2)∧(g.1=0→g.2.2=.ag [iv k2,iv n2,sv s2,.sl lb2 lz2 lx2,.sl tb2 tz2 tx2])) (fun g=>0+3-g.1) (0,t2,.ag [iv k2,iv n2,sv s2,.sl lb2 lz2 lx2,.sl tb2 tz2 tx2]) ⟨hT2,⟨40,_,hpi2,by dsimp only<;>omega⟩,fun _=>rfl⟩ rfl rfl ?_
   rintro⟨q,u,w⟩ ⟨hu,⟨f,r,hpi,hqr⟩,hq0⟩;dsimp only at hu hpi hqr hq0⊢;obtain⟨k9,n9,s9,l9,ts9,b9,z9,x9,c9,y9,ys9,rfl,rfl,hz9,hx9,hl9,hb9,hy9,hys9,-⟩:=hu.open;cases q with
   |zero=>
    have hw0:=hq0 rfl;have e4:=PV.ag.inj hw0;simp only[List.cons.injEq,and_true,PV.sl.injEq] at e4;obtain⟨e5,e6,e7,⟨rfl,rfl,rfl⟩,rfl,rfl,rfl⟩:=e4
    injection e5 with e5
    injection e5 with _ e5
    injection e6 with e6
    injection e6 with _ e6
    subst e5;subst e6;rw[←e7];simp only[PV.cells,List.append_nil];repeat'(first|refine gU ?_|apply gE<;>intro h|apply gM<;>intro h|apply gK)<;>conv=>whnf
    ·obtain rfl:k9=6:=by assumption
     obtain⟨f',a',b',l',r',rfl,hpb,hr⟩:=j8k hpi;obtain⟨vb,hvb,hlb⟩:=hys9.at (by rfl:(a'::b'::l')[1]?=some b')
     obtain⟨k8,n8,s8,l8,t8,b8,z8,x8,c8,y8,ys8,rfl,rfl,-⟩:=hlb.open;refine VIdx.mk _ hvb (VOk.mk (szOk_of rfl hy9) ?_);repeat'(first|refine gU ?_|apply gE<;>intro h|apply gM<;>intro h|apply gK)<;>conv=>whnf
     exact VAgain.sq _ rfl _ (j0q (.cons (j00 rfl rfl) (.cons (j00 rfl rfl) (.cons (j03 hp8) (.cons (j03 hp8) (.cons (j00 rfl rfl) (.cons (j00 rfl rfl) (.cons (j00 rfl rfl) .nil))))))) (.cons (j00 rfl rfl) (.cons (j00 rfl rfl) (.cons (j03 hp8) (.cons (j03 hp8) (.cons (j00 rfl rfl) (.cons (j00 rfl rfl) (.cons (j00 rfl rfl) .nil))))))) rfl rfl rfl rfl rfl) rfl _ _ (j0B rfl) ⟨(_+1,.mk k8 n8 s8 l8 t8,.ag [iv k8,iv n8,sv s8,.sl b8 z8 x8,.sl c8 y8 ys8]),⟨hlb,⟨f',r',hpb,by dsimp only<;>omega⟩,fun e=>by simp at e⟩,by dsimp only<;>omega,rfl⟩
    ·have hr0:=j5E hpi (by assumption)
     repeat'(first|refine gU ?_|apply gE<;>intro h|apply gM<;>intro h|refine gX hvec ?_|apply gK)<;>conv=>whnf
     refine gX hb3 ?_;repeat'(first|refine gU ?_|apply gE<;>intro h|apply gM<;>intro h|apply gK)<;>conv=>whnf
     all_goals first|rfl|(exfalso;omega)|trace_state
   |succ q=>
    simp only[PV.cells,List.cons_append,List.nil_append];repeat'(first|refine gU ?_|apply gE<;>intro h|apply gM<;>intro h|apply gK)<;>conv=>whnf
    ·obtain rfl:k9=6:=by assumption
     obtain⟨f',a',b',l',r',rfl,hpb,hr⟩:=j8k hpi;obtain⟨vb,hvb,hlb⟩:=hys9.at (by rfl:(a'::b'::l')[1]?=some b')
     obtain⟨k8,n8,s8,l8,t8,b8,z8,x8,c8,y8,ys8,rfl,rfl,-⟩:=hlb.open;refine VIdx.mk _ hvb (VOk.mk (szOk_of rfl hy9) ?_);repeat'(first|refine gU ?_|apply gE<;>intro h|apply gM<;>intro h|apply gK)<;>conv=>whnf
     exact VAgain.sq _ rfl _ (j0q (.cons (j00 rfl rfl) (.cons (j00 rfl rfl) (.cons (j03 hp8) (.cons (j03 hp8) (.cons (j00 rfl rfl) (.cons (j00 rfl rfl) (.cons (j00 rfl rfl) (.cons (j00 rfl rfl) .nil)))))))) (.cons (j00 rfl rfl) (.cons (j00 rfl rfl) (.cons (j03 hp8) (.cons (j03 hp8) (.cons (j00 rfl rfl) (.cons (j00 rfl rfl) (.cons j07 (.cons (j00 rfl rfl) .nil)))))))) rfl rfl rfl rfl rfl) rfl _ _ (j0R (.cons (j01 rfl rfl) (.cons (j01 rfl rfl) (.cons (j0a hp8) (.cons (j0a hp8) (.cons (j01 rfl rfl) (.cons (j01 rfl rfl) (.cons j0T (.cons (j01 rfl rfl) .nil)))))))) rfl rfl rfl rfl) ⟨(_+1,.mk k8 n8 s8 l8 t8,.ag [iv k8,iv n8,sv s8,.sl b8 z8 x8,.sl c8 y8 ys8]),⟨hlb,⟨f',r',hpb,by dsimp only<;>omega⟩,fun e=>by simp at e⟩,by dsimp only<;>omega,rfl⟩
    ·have hr0:=j5E hpi (by assumption)
     repeat'(first|refine gU ?_|apply gE<;>intro h|apply gM<;>intro h|refine gX hvec ?_|apply gK)<;>conv=>whnf
     refine gX hb3 ?_;repeat'(first|refine gU ?_|apply gE<;>intro h|apply gM<;>intro h|apply gK)<;>conv=>whnf
     all_goals first|rfl|(exfalso;omega)|trace_state
 |succ j=>
  have hp9:(csV (j+1)++[PV.ag [sv [UInt8.ofNat (97+(j+1))],iv 3,iv 0,sv [116],.sl true 0 [],.sl true 0 []]]).all (pur 8)=true:=by rw[←j2X];exact j5c _ 6
  have hg6:(csV (j+1)++[PV.ag [sv [UInt8.ofNat (97+(j+1))],iv 3,iv 0,sv [116],.sl true 0 [],.sl true 0 []]]).all (pur 6)=true:=by rw[←j2X];exact j5c _ 4
  have hg1:(csV (j+1)++[PV.ag [sv [UInt8.ofNat (97+(j+1))],iv 3,iv 0,sv [116],.sl true 0 [],.sl true 0 []]]).length=j+1+1:=by rw[←j2X];exact j5b _
  simp only[rgS,dclC];repeat'(first|refine gU ?_|apply gE<;>intro h|apply gM<;>intro h|apply gK)<;>conv=>whnf
  ·repeat'(first|refine gU ?_|apply gE<;>intro h|apply gM<;>intro h|refine VIdx.mk _ (j5A (j+1) (by omega)) ?_|refine finds_pf ht fun _=>?_|refine VOk.mk (j0o (w:=96) (r:=140737488355328) (j5b _) rfl rfl rfl rfl (by simp only[List.length_cons,List.length_nil];omega) (by simp only[List.length_cons,List.length_nil];omega)) ?_|apply gK)<;>conv=>whnf
   refine VAgain.sq _ rfl _ (j0q (.cons (j00 rfl rfl) (.cons (j03 hp9) (.cons (j03 rfl) .nil))) (.cons (j00 rfl rfl) (.cons (j03 hp9) .nil)) rfl rfl rfl rfl rfl) rfl _ _ (j0B rfl) ⟨j+1+1,by omega,by omega,?_⟩
   dsimp only[rgS];rw[j2X (j+1)];rfl
  ·obtain rfl:k=j+1:=by omega
   have hb2':Pf CX 10 [.ag (dclC (.sl false 6 (csV (j+1)++[PV.ag [sv [UInt8.ofNat (97+(j+1))],iv 3,iv 0,sv [116],.sl true 0 [],.sl true 0 []]]))),bv lg] [.ag [sv nm2,iv p2,iv k2,iv n2,sv s2,.sl lb2 lz2 lx2,.sl tb2 tz2 tx2,.sl rb2 rz2 rs2],iv 0]:=by rw[←j2X];exact hb2
   (conv=>whnf)
   refine j0K (args':=[.ag (dclC (.sl false 6 (csV (j+1)))),bv lg]) (j3X lg (i:=1) (n:=j+1) (b:=false) (xs:=csV (j+1)) rfl (j5b _).symm (j5c _ 4)) rfl hb1 rfl ?_;repeat'(first|refine gU ?_|apply gE<;>intro h|apply gM<;>intro h|refine VIdx.mk _ (j5A (j+1) (by omega)) ?_|refine finds_pf ht fun _=>?_|refine VOk.mk (j0o (w:=96) (r:=140737488355328) (j5b _) rfl rfl rfl rfl (by simp only[List.length_cons,List.length_nil];omega) (by simp only[List.length_cons,List.length_nil];omega)) ?_|apply gK)<;>conv=>whnf
   refine j0K (args':=[.ag (dclC (.sl false 6 (csV (j+1)++[PV.ag [sv [UInt8.ofNat (97+(j+1))],iv 3,iv 0,sv [116],.sl true 0 [],.sl true 0 []]]))),bv lg]) (j3X lg (i:=1) (n:=j+1+1) (b:=true) rfl hg1.symm hg6) rfl hb2' rfl ?_;have hp8:=hp9;repeat'(first|refine gU ?_|apply gE<;>intro h|apply gM<;>intro h|apply gK)<;>conv=>whnf
   all_goals try(exfalso;omega)
   dsimp only[List.nil_append,List.cons_append,List.append_nil,List.set_cons_zero,List.set_cons_succ,List.length_cons,List.length_nil,Nat.zero_add,Nat.add_zero,retV,PV.cells,updP,List.take_succ_cons,List.take_zero,List.drop_succ_cons,List.drop_zero,List.map_cons,List.map_nil];have z25:∀h,(CX.P.types[25]'h).size=5:=fun _=>rfl
   have z28:∀h,(CX.P.types[28]'h).size=15:=fun _=>rfl
   have z53:∀h,(CX.P.types[53]'h).size=6:=fun _=>rfl
   have z9:∀h,(CX.P.types[9]'h).size=1:=fun _=>rfl
   simp only[z25,z28,z53,z9,List.getElem_toArray,List.getElem_cons_zero,List.getElem_cons_succ,List.take_succ_cons,List.take_zero,List.drop_succ_cons,List.drop_zero,Nat.zero_add,Nat.zero_mul,List.range_succ,List.range_zero,List.flatMap_cons,List.flatMap_nil];refine loop_over (G:=Nat×Tm×PV) (fun g=>[(13,match g.1 with
     |0=>.bp 5 0
     |_+1=>.bp 6 0),(12,iv g.1)]) (fun g=>[.box 28 (dclC (.ms 1 (j+1+1))),.row true 53 6 (csV (j+1)++[PV.ag [sv [UInt8.ofNat (97+(j+1))],iv 3,iv 0,sv [116],.sl true 0 [],.sl true 0 []]]),.box 33 [sv nm1,iv p1,iv k1,iv n1,sv s1,.sl lb1 lz1 lx1,.sl tb1 tz1 tx1,.sl rb1 rz1 rs1],.row false 53 6 [.ag [sv [UInt8.ofNat (97+(j+1))],iv 3,iv 0,sv [116],.sl true 0 [],.sl true 0 []]],.box 33 [sv nm2,iv p2,iv k2,iv n2,sv s2,.sl lb2 lz2 lx2,.sl tb2 tz2 tx2,.sl rb2 rz2 rs2],.box 25 [iv k2,iv n2,sv s2,.sl lb2 lz2 lx2,.sl tb2 tz2 tx2]]++(match g.1 with
     |0=>[]
     |_+1=>[.box 25 g.2.2.cells])) (fun g=>TmP g.2.1 g.2.2∧(∃f r,piN f g.2.1=some r∧g.1+r=(j+1)+1+2)∧(g.1=0→g.2.2=.ag [iv k2,iv n2,sv s2,.sl lb2 lz2 lx2,.sl tb2 tz2 tx2])) (fun g=>(j+1)+3-g.1) (0,t2,.ag [iv k2,iv n2,sv s2,.sl lb2 lz2 lx2,.sl tb2 tz2 tx2]) ⟨hT2,⟨40,_,hpi2,by dsimp only<;>omega⟩,fun _=>rfl⟩ rfl rfl ?_
   rintro⟨q,u,w⟩ ⟨hu,⟨f,r,hpi,hqr⟩,hq0⟩;dsimp only at hu hpi hqr hq0⊢;obtain⟨k9,n9,s9,l9,ts9,b9,z9,x9,c9,y9,ys9,rfl,rfl,hz9,hx9,hl9,hb9,hy9,hys9,-⟩:=hu.open;cases q with
   |zero=>
    have hw0:=hq0 rfl;have e4:=PV.ag.inj hw0;simp only[List.cons.injEq,and_true,PV.sl.injEq] at e4;obtain⟨e5,e6,e7,⟨rfl,rfl,rfl⟩,rfl,rfl,rfl⟩:=e4
    injection e5 with e5
    injection e5 with _ e5
    injection e6 with e6
    injection e6 with _ e6
    subst e5;subst e6;rw[←e7];simp only[PV.cells,List.append_nil];repeat'(first|refine gU ?_|apply gE<;>intro h|apply gM<;>intro h|apply gK)<;>conv=>whnf
    ·obtain rfl:k9=6:=by assumption
     obtain⟨f',a',b',l',r',rfl,hpb,hr⟩:=j8k hpi;obtain⟨vb,hvb,hlb⟩:=hys9.at (by rfl:(a'::b'::l')[1]?=some b')
     obtain⟨k8,n8,s8,l8,t8,b8,z8,x8,c8,y8,ys8,rfl,rfl,-⟩:=hlb.open;refine VIdx.mk _ hvb (VOk.mk (szOk_of rfl hy9) ?_);repeat'(first|refine gU ?_|apply gE<;>intro h|apply gM<;>intro h|apply gK)<;>conv=>whnf
     exact VAgain.sq _ rfl _ (j0q (.cons (j00 rfl rfl) (.cons (j03 hp8) (.cons (j00 rfl rfl) (.cons (j03 rfl) (.cons (j00 rfl rfl) (.cons (j00 rfl rfl) (.cons (j00 rfl rfl) .nil))))))) (.cons (j00 rfl rfl) (.cons (j03 hp8) (.cons (j00 rfl rfl) (.cons (j03 rfl) (.cons (j00 rfl rfl) (.cons (j00 rfl rfl) (.cons (j00 rfl rfl) .nil))))))) rfl rfl rfl rfl rfl) rfl _ _ (j0B rfl) ⟨(_+1,.mk k8 n8 s8 l8 t8,.ag [iv k8,iv n8,sv s8,.sl b8 z8 x8,.sl c8 y8 ys8]),⟨hlb,⟨f',r',hpb,by dsimp only<;>omega⟩,fun e=>by simp at e⟩,by dsimp only<;>omega,rfl⟩
    ·have hr0:=j5E hpi (by assumption)
     repeat'(first|refine gU ?_|apply gE<;>intro h|apply gM<;>intro h|refine gX hvec ?_|apply gK)<;>conv=>whnf
     refine gX hb3 ?_;repeat'(first|refine gU ?_|apply gE<;>intro h|apply gM<;>intro h|apply gK)<;>conv=>whnf
     all_goals first|rfl|(exfalso;omega)|trace_state
   |succ q=>
    simp only[PV.cells,List.cons_append,List.nil_append];repeat'(first|refine gU ?_|apply gE<;>intro h|apply gM<;>intro h|apply gK)<;>conv=>whnf
    ·obtain rfl:k9=6:=by assumption
     obtain⟨f',a',b',l',r',rfl,hpb,hr⟩:=j8k hpi;obtain⟨vb,hvb,hlb⟩:=hys9.at (by rfl:(a'::b'::l')[1]?=some b')
     obtain⟨k8,n8,s8,l8,t8,b8,z8,x8,c8,y8,ys8,rfl,rfl,-⟩:=hlb.open;refine VIdx.mk _ hvb (VOk.mk (szOk_of rfl hy9) ?_);repeat'(first|refine gU ?_|apply gE<;>intro h|apply gM<;>intro h|apply gK)<;>conv=>whnf
     exact VAgain.sq _ rfl _ (j0q (.cons (j00 rfl rfl) (.cons (j03 hp8) (.cons (j00 rfl rfl) (.cons (j03 rfl) (.cons (j00 rfl rfl) (.cons (j00 rfl rfl) (.cons (j00 rfl rfl) (.cons (j00 rfl rfl) .nil)))))))) (.cons (j00 rfl rfl) (.cons (j03 hp8) (.cons (j00 rfl rfl) (.cons (j03 rfl) (.cons (j00 rfl rfl) (.cons (j00 rfl rfl) (.cons j07 (.cons (j00 rfl rfl) .nil)))))))) rfl rfl rfl rfl rfl) rfl _ _ (j0R (.cons (j01 rfl rfl) (.cons (j0a hp8) (.cons (j01 rfl rfl) (.cons (j0a rfl) (.cons (j01 rfl rfl) (.cons (j01 rfl rfl) (.cons j0T (.cons (j01 rfl rfl) .nil)))))))) rfl rfl rfl rfl) ⟨(_+1,.mk k8 n8 s8 l8 t8,.ag [iv k8,iv n8,sv s8,.sl b8 z8 x8,.sl c8 y8 ys8]),⟨hlb,⟨f',r',hpb,by dsimp only<;>omega⟩,fun e=>by simp at e⟩,by dsimp only<;>omega,rfl⟩
    ·have hr0:=j5E hpi (by assumption)
     repeat'(first|refine gU ?_|apply gE<;>intro h|apply gM<;>intro h|refine gX hvec ?_|apply gK)<;>conv=>whnf
     refine gX hb3 ?_;repeat'(first|refine gU ?_|apply gE<;>intro h|apply gM<;>intro h|apply gK)<;>conv=>whnf
     all_goals first|rfl|(exfalso;omega)|trace_state
open Go Go.ChangeShapes Go.WideShapes Go.ChangeAt Go.RowKit
theorem jdI:ownKnob Tryz.prog.godebug=none:=by kernel_rfl
theorem jcS:laidOutB Tryz.prog=true:=by kernel_rfl
theorem jcQ:Tryz.prog.readableRec 3=true∧3<Tryz.prog.types.size:=⟨by kernel_rfl,of_decide_eq_true (by kernel_rfl)⟩
theorem jbO:Tryz.prog.readableRec 4=true∧4<Tryz.prog.types.size:=⟨by kernel_rfl,of_decide_eq_true (by kernel_rfl)⟩
theorem jaS : "*errors.errorString" = "*" ++ "errors.errorString" :=rfl
theorem jcd (u:TypeId) (h:Tryz.prog.typeName? 3 u=some "*errors.errorString"):u=408:=
 typeName_ptr_named (nm:= "errors.errorString") (by rw[←jaS];kernel_rfl) (by kernel_rfl) (by decide) u (by rw[←jaS];exact h)
theorem j2O{n:String}{g:Nat}{cs:Array Value}(hg:Tryz.prog.globalNamed n=some g)(h:W.var? Tryz.prog n=some cs):∃T fr,W.heap[g]?=some (.cells cs T fr):=by
 unfold World.var? at h;rw[hg,Option.bind_some] at h;split at h
 ·rename_i c T fr e;cases h;exact⟨T,fr,e⟩
 ·cases h
theorem jaw(hsh:W.ShapedOpen Tryz.prog):∃cs T fr,(∃m,cs = #[.int .i64 m])∧W.heap[3]?=some (.cells cs T fr):=by
 have hg:3<Tryz.prog.globals.size:=of_decide_eq_true (by kernel_rfl)
 have h0:((begin Tryz.prog (fun _ _=>0) default).world.heap[3]?).bind Obj.row?=some (#[.int .i64 0],3):=by kernel_rfl
 obtain⟨m,hm⟩:=cell_of_shapedOpen_int hsh hg h0 rfl (by kernel_rfl) (by kernel_rfl) Tryz.underlying3
 obtain⟨cs,hh,hs,hr⟩:=hsh.1 _ _ _ hg h0;refine⟨cs,_,_,⟨m,?_⟩,hh⟩;have h1:cs.size=1:=hs;simp only[World.cell?,hh] at hm;obtain⟨l⟩:=cs;match l,h1 with
 |[x],_=>
  simp at hm;rw[hm]
theorem base_of(h:laidMetH Tryz.prog Rows.recurGrowsRow.laid W)(hsh:W.ShapedOpen Tryz.prog):∀b p,Hb.base b=some p→∃cs T fr,p cs∧W.heap[b]?=some (.cells cs T fr):=by
 rw[MakeChecks.laidMetH_plain _ _ _ (by kernel_rfl)] at h
 have h2:laidMet Tryz.prog (("internal/strconv.uint64pow10",Lib.tabData .u64 Lib.pow10Tab)::Rows.recurGrowsRow.laid.drop 3) W:=laidMet.tail (laidMet.tail h)
 have h4:laidMet Tryz.prog (("strconv.ErrRange",Rows.laid_strconv_ErrRange)::Rows.recurGrowsRow.laid.drop 5) W:=laidMet.tail (laidMet.tail h2)
 have h5:laidMet Tryz.prog (("strconv.ErrSyntax",Rows.laid_strconv_ErrSyntax)::Rows.recurGrowsRow.laid.drop 6) W:=laidMet.tail h4
 have ht:=Lib.tabIs_of_head (g:=0) (by kernel_rfl) (by kernel_rfl) Tryz.underlying350 Tryz.underlying304 (by kernel_rfl) (by kernel_rfl) h2
 obtain⟨a4,s4,hv4,-⟩:=laid_sentinel (g:=5) h4 (by kernel_rfl) (by kernel_rfl) Tryz.underlying252 jcd Tryz.underlying408 Tryz.underlying410 rfl rfl Tryz.underlying9 (by kernel_rfl) (by kernel_rfl)
 obtain⟨a5,s5,hv5,-⟩:=laid_sentinel (g:=4) h5 (by kernel_rfl) (by kernel_rfl) Tryz.underlying252 jcd Tryz.underlying408 Tryz.underlying410 rfl rfl Tryz.underlying9 (by kernel_rfl) (by kernel_rfl)
 intro b p hb;unfold Hb.base at hb;split at hb
 ·rename_i e;subst e;cases hb;obtain⟨T,fr,e⟩:=j2O (by kernel_rfl) ht
  exact⟨_,T,fr,rfl,e⟩
 ·split at hb
  ·rename_i e;subst e;cases hb;exact jaw hsh
  ·split at hb
   ·rename_i e;subst e;cases hb;obtain⟨T,fr,e⟩:=j2O (by kernel_rfl) hv5
    exact⟨_,T,fr,⟨_,_,rfl⟩,e⟩
   ·split at hb
    ·rename_i e;subst e;cases hb;obtain⟨T,fr,e⟩:=j2O (by kernel_rfl) hv4
     exact⟨_,T,fr,⟨_,_,rfl⟩,e⟩
    ·cases hb
section
variable{H:Type}{enc:TypeId×Value→H}{W:World}{r:Reach}{b0:Nat}{v:Value}{d:DataW H}{ps:List MemPlace}
theorem jcH(hv:Value.okWide Tryz.prog W r b0 3 v)(h:DataW.Trod enc Tryz.prog W 0 (fun _=>true) true 3 v d ps):∃n,Am.R (memB W) Am.noPh (iv n) v∧Gw.i64 n:=by
 obtain⟨a0,rfl,rfl,rfl,w0⟩:=open_int Tryz.underlying3 hv h;refine⟨a0,.sc rfl,?_⟩;simp[Lit.wf,IntKind.min,IntKind.max,IntKind.signed,IntKind.bits] at w0;unfold Gw.i64;omega
theorem jbh(hv:Value.okWide Tryz.prog W r b0 4 v)(h:DataW.Trod enc Tryz.prog W 0 (fun _=>true) true 4 v d ps):∃b,Am.R (memB W) Am.noPh (bv b) v:=by
 obtain⟨b,rfl,rfl,rfl⟩:=open_bool Tryz.underlying4 hv h;exact⟨b,.sc rfl⟩
end
end Go.Proofs.YtnfbeplfnblgjaaGreatDoor
namespace Go.Proofs.YtnfbeplfnblgjaaGreatDoor
open Go Go.ChangeShapes Go.WideShapes Go.ChangeAt Go.RowKit
theorem handed_shaped {H : Type} {enc : TypeId × Value → H} {a : Assume} {C : Checked} {os : Os} {f : FuncId} {fn : Func} {s : ChangeSpec} {conds : List PathCond} {apart fresh handsOn again : Bool} {X : World → Array Value → Prop}
    (hX : ∀ (w w' : World) (args : Array Value), w.heap = w'.heap → X w args → X w' args)
    (own : ownKnob C.prog.godebug = none) (started : os.Started) (noInit : C.prog.inits.idxOf? f = none) (hfn : C.prog.funcs[f]? = some fn)
    (witness : ∃ (w : World) (tape : Tape) (i : Input), w.os = os ∧ (w.forCall tape i).Shaped C.prog ∧ i.vars = [] ∧ Input.okWide C.prog (w.forCall tape i) .any w.heap.size f i ∧
      ((s.pre enc C.prog fn conds apart (w.forCall tape i).memory i.args ∧ X (w.forCall tape i).memory i.args) ∧ sizedMet enc C.prog fn (OpenSpec.ofChange s) apart (w.forCall tape i).memory i.args) ∧ a.holds C.prog (lone (Frame.enter C.prog f i.args .normal) [] (w.forCall tape i)))
    (contract : ∀ (W : World) (base : Nat) (args : Array Value) (ds gs : List (DataW H)) (before : List MemPlace),
      (∀ (j : Nat) t v, fn.params[j]? = some t → args[j]? = some v → Value.okWide C.prog W .any base t v) →
      DataW.Whole enc C.prog fn.params.toList s.vars apart W args.toList ds gs before →
      conds.all (PathCond.test C.prog ⟨fn.params.toList, ds, s.plain.varTypes C.prog, gs⟩) = true →
      (DataW.weightsEach C.prog (fn.params.toList ++ s.plain.varTypes C.prog) (ds ++ gs)).all (· ≤ reachBytes) = true → X W args → W.ShapedOpen C.prog →
      a.holds C.prog (lone (Frame.enter C.prog f args .normal) [] W) →
      Calls C.prog f args W fun e W' => ∃ v, e = .returned v ∧ s.post enc C.prog fn apart fresh handsOn again W args v W') :
    ReturnsInHanded a C os f .any (fun w args => (s.pre enc C.prog fn conds apart w args ∧ X w args) ∧ sizedMet enc C.prog fn (OpenSpec.ofChange s) apart w args) (s.post enc C.prog fn apart fresh handsOn again) := by
  refine returnsInHanded_of_calls own started noInit witness ?_
  intro w tape i _ hsh _ hok hpre hholds
  obtain ⟨_, _, _, fn', hfn', _, _, _, _, hval⟩ := hok
  have e : fn' = fn := Option.some.inj (hfn'.symm.trans hfn)
  subst e
  obtain ⟨⟨⟨ds, gs, before, hw, hc⟩, hx⟩, hz⟩ := hpre
  have hw' := DataW.Whole.of_heap (w' := w.forCall tape i) (by rfl) hw
  refine (contract (w.forCall tape i) w.heap.size i.args ds gs before hval hw' hc (hz.weights hw) (hX _ _ _ (by rfl) hx) hsh hholds).mono fun e W' ⟨v, he, hp⟩ => ?_
  subst he
  exact ChangeSpec.post_blind hp
end Go.Proofs.YtnfbeplfnblgjaaGreatDoor
namespace Go.Proofs.YtnfbeplfnblgjaaGreatDoor.recurGrows
open Go
theorem kA:Rows.recurGrowsRow.inPlace=Tryz.prog.inPlace 4:=by kernel_rfl
theorem kB:Rows.recurGrowsRow.unfollowed=Tryz.prog.unfollowed 4:=by kernel_rfl
theorem kC:Rows.recurGrowsRow.recurses=Tryz.prog.recurses 4:=by kernel_rfl
theorem kD:Rows.recurGrowsRow.named=Tryz.prog.varsNamed 4:=by kernel_rfl
open Go
theorem closed:joinedFacts Tryz.prog 4 Tryz.f4 Rows.recurGrowsSpec Rows.recurGrowsRow=true:=by
 unfold joinedFacts;rw[←kA,←kB,←kC,←kD]
 kernel_rfl
open Go Go.ChangeShapes Go.WideShapes Go.ChangeAt Go.RowKit
theorem lifted(os:Os)(started:os.Started)(H:Type)(enc:TypeId×Value→H):
  ReturnsInHanded {} Tryz.checked os 4 .any (fun w args=>(Rows.recurGrowsSpec.pre enc Tryz.prog Tryz.f4 Rows.recurGrowsRow.domain false w args∧laidMetH Tryz.prog Rows.recurGrowsRow.laid w)∧sizedMet enc Tryz.prog Tryz.f4 (OpenSpec.ofChange Rows.recurGrowsSpec) false w args)
   (Rows.recurGrowsSpec.post enc Tryz.prog Tryz.f4 false true false false):=by
 refine handed_shaped (C:=Tryz.checked) (X:=fun w _=>laidMetH Tryz.prog Rows.recurGrowsRow.laid w) (fun _ _ _ hh h=>h.of_heap hh) jdI started (by kernel_rfl) Tryz.func4
  (ChangeSpec.witness_shaped (enc:=enc) (C:=Tryz.checked) (os:=os) (X:=fun w _=>laidMetH Tryz.prog Rows.recurGrowsRow.laid w) false (World.laidAll Tryz.prog os Rows.recurGrowsRow.laid) #[.int .i64 0,.bool false] 8 (World.laidAll_os _ _ _)
   (World.shaped_of_ZipB (by kernel_rfl) (by kernel_rfl)) (by kernel_rfl) (by kernel_rfl) (by kernel_rfl)
   (by rw[MakeChecks.laidMetH_plain _ _ _ (by kernel_rfl)];exact laidMet_laidAll _ (by kernel_rfl) (by kernel_rfl))) ?_
 intro W base args ds gs before hval0 hW _ hsz hL hsh _;have hval:∀(j:Nat) t v,Tryz.f4.params[j]?=some t→args[j]?=some v→Value.okWide Tryz.prog W .any base t v:=hval0;have hW':=hW;obtain⟨p,q,hA0,hV,rfl,hfz,hnd⟩:=hW;have hA:DataW.TrodAll enc Tryz.prog W 0 (fun _=>true) true Tryz.f4.params.toList args.toList ds p:=hA0
 rw[Tryz.params4] at hA hval;obtain⟨v0,vs0,d0,ds0,p0,q0,hargs,rfl,rfl,h0,r0⟩:=trodAll_cons hA;obtain⟨v1,vs1,d1,ds1,p1,q1,rfl,rfl,rfl,h1,r1⟩:=trodAll_cons r0;obtain⟨rfl,rfl,rfl⟩:=trodAll_nil r1;obtain rfl:args = #[v0,v1]:=by cases args;simp_all
 obtain⟨rfl,rfl⟩:=trodVars_none hV;have hw:∀(j:Nat) (t:TypeId) (d:DataW H),(Tryz.f4.params.toList++Rows.recurGrowsSpec.plain.varTypes Tryz.prog)[j]?=some t→([d0,d1]++[])[j]?=some d→∀n∈d.weights Tryz.prog t,n≤reachBytes:=fun j t d ht hd n hn=>by
  have:=List.all_eq_true.1 hsz n (DataW.weights_mem_each (j:=j) ht hd n hn);simpa using this
 obtain⟨l0,hr0,_⟩:=jcH (hval 0 3 v0 rfl rfl) h0;obtain⟨l1,hr1⟩:=jbh (hval 1 4 v1 rfl rfl) h1;refine(j6W (C:=CX) je2 (j4s l0 l1) (base_of hL hsh) (.cons hr0 (.cons hr1 .nil))).mono ?_;rintro e W' ⟨m',φ',us,rfl,hus,hb⟩;obtain⟨u,us',rfl,hu,hus'⟩:=hus.uncons;obtain rfl:us'=[]:=List.eq_nil_of_length_eq_zero hus'.1.symm;obtain rfl:=hu.sc_eq;refine⟨_,rfl,Gw.post_low hW' hb jcS (by
  rw[Tryz.params4]
  intro t ht;simp only[List.mem_cons,List.not_mem_nil,or_false] at ht;rcases ht with rfl|rfl
  ·exact jcQ
  ·exact jbO) rfl rfl rfl (fun b sp hd=>?_) (ok_one (by kernel_rfl) rfl (okWide_bool_mk Tryz.underlying4 _))⟩
 exact trodAll_mk1 (shut_bool Tryz.underlying4 true)
theorem proved:Rows.RecurGrowsSaid:=
 OpenClaim.holds_of_wide 4 Tryz.f4 rfl rfl rfl rfl rfl rfl rfl ⟨rfl,rfl,rfl,rfl,rfl⟩ rfl rfl rfl rfl rfl (by kernel_rfl) Tryz.func4 closed
  (of_decide_eq_true (by kernel_rfl)) (by unfold Func.isWrapper;first|(rw[if_pos (by decide +kernel)];kernel_rfl)|(rw[if_neg (by decide +kernel)];exact⟨rfl,rfl⟩))
  (fun os started H enc _=>lifted os started H enc)
theorem card:Rows.RecurGrowsCardSaid:=
 Claim7.holds_tied_plain_at .later [] [.data,.data,.data,.data,.sentinel,.sentinel,.pinned] true (true,"c59fd739bd3dc36ad6d1ab195e28cefc7fd334f0a990ccab401d1e9e4086a801") true
  proved (fun _ h=>by cases h) (by kernel_rfl) (fun _ h=>by cases h) recurGrows_row_tie rfl ⟨rfl,rfl⟩ (by kernel_rfl) rfl
  (fun f fn hf hfn=>by
   obtain rfl:f=4:=Option.some.inj ((show Tryz.prog.funcNamed "scholium/scholiumlaw19.RecurGrows" = some 4 by kernel_rfl).symm.trans hf) |>.symm
   obtain rfl:fn=Tryz.f4:=(Option.some.inj (Tryz.func4.symm.trans hfn)).symm;exact⟨by kernel_rfl,fun j t ht=>by
    rw[Tryz.params4] at ht;have h3:t=3∨t=4:=by
     rcases j with _|_|j
     all_goals first|(simp at ht;done)|(simp at ht;subst ht;simp)
    rcases h3 with rfl|rfl
    ·exact(show Tryz.prog.wantsStandIn 3=false by kernel_rfl)
    ·exact(show Tryz.prog.wantsStandIn 4=false by kernel_rfl)⟩)
  (j7h jbN rfl)
end Go.Proofs.YtnfbeplfnblgjaaGreatDoor.recurGrows
