/- Names in order, each once, as the document puts them (scholiumref01.Sort); a term's constants, the greatest height over them. -/
import Derived.Test.YtbnodhcijeaceaaGreatDoorXOy
import Derived.Test.YtbnodhcijeaceaaGreatDoorCards
import Derived.Test.YtbnodhcijeaceaaGreatDoorTie
set_option linter.all false
set_option maxHeartbeats 30000000
set_option maxRecDepth 100000
namespace Go.Proofs.YtbnodhcijeaceaaGreatDoor
open Go Go.Am Go.Gw
theorem j3X{E:Nv}{m:Int}:∀(l:List (List UInt8)) (n:Int),j1H E l n≤m↔n≤m∧∀s∈l,htF E s≤m
 |[],n=>by simp[j1H]
 |s::r,n=>by
  rw[j1H,j3X r];simp only[AN,forall_eq_or_imp];split<;>grind
theorem jig{E:Nv}{l r:List (List UInt8)}(h:∀s,s∈l↔s∈r)(n:Int):j1H E l n=j1H E r n:=
 Int.le_antisymm ((j3X l n).2 (by simpa only[h] using(j3X r n).1 (CX _))) ((j3X r n).2 (by simpa only[←h] using(j3X l n).1 (CX _)))
noncomputable def C7:Cfg:=⟨C1.P,C1.fz,C1.raw,C1.keep,C1.lit,fun f=>match Nat.beq f 137 with
 |true=>none
 |false=>some (j5T C1 f),C1.fzc,C1.pst,true⟩
theorem ju1:jhx C7:=fun f F hF=>by
 have hF:(match Nat.beq f 137 with
  |true=>none
  |false=>some (j5T C1 f))=some F:=hF
 split at hF
 ·cases hF
 ·cases hF;exact j5g (fun n=>(jsM n).call) f
theorem juZ(n:Nat):EvOk C7 (ev C7 n):=ji3 (by kernel_rfl) (by kernel_rfl) ju1 n
variable{K:AEnd→Sto→Prop}{f:FuncId}{args xs:List PV}{a:Nat}{st st1:Sto}
theorem jaV{C:Cfg}{e:Ev}{ρ:AEnv}{T:TypeId}{x:Operand}{lo hi mx:Option Operand}{lo' hA mx':Option PV}{id len e' z:Nat}{b:Bool}{v:PV}(hx:aval ρ x=some (.ms id len))(qA:st[id]?=some (.row b e' z xs))(hl:Nat.beq len xs.length=true)(hp:xs.all (pur 6)=true)(h1:optV ρ lo=some lo')(h2:optV ρ hi=some hA)(h3:optV ρ mx=some mx')(hz:szOk C.P T z xs=true)(hv:j6Y false z xs lo' hA mx'=some v)(h':st.set id (.row true e' z xs)=st1):aS C e ρ st (.slice T x lo hi mx)=some (.val v st1):=by
 subst h';simp only[aS,jh8,hx,pubRow,qA,hl,hp,CP,h1,h2,h3,hz,hv,AY]
theorem joV(a:Nat):nat? (iv a)=some a:=rfl
theorem jdN(ha:a≤xs.length):j6Y false 1 xs (some (iv a)) none none=some (.sl false 1 (xs.drop a)):=by
 have e1:Nat.ble a xs.length=true:=BN ha;have e2:Nat.ble xs.length xs.length=true:=BN (AU _);simp only[j6Y,optN,joV,e1,e2,CP,CV,BT]
theorem jkq(ha:a≤xs.length):j6Y false 1 xs none (some (iv a)) (some (iv a))=some (.sl true 1 (xs.take a)):=by
 have e1:Nat.ble a xs.length=true:=BN ha;have e2:Nat.ble 0 a=true:=BN (DD _);have e3:Nat.blt 0 1=true:=rfl;simp only[j6Y,optN,joV,e1,e2,e3,DG,CP,FZ,CH]
def soV(l:List (List UInt8)):PV:=match l with
 |[]=>.sl true 1 []
 |_::r=>.ms 0 (r.length+1)
def soS(l:List (List UInt8)):Sto:=match l with
 |[]=>[]
 |d::r=>[.row false 9 1 (svs (d::r))]
theorem jmM(l:List (List UInt8))(b:Bool)(z:Nat)(hz:z=1∨l=[])(hl:l.length≤1000000):∃r,((∀s,s∈r↔s∈l)∧r.length≤l.length)∧Pf C7 137 [.sl b z (svs l)] [encW r]:=by
 have hlen:(svs l).length=l.length:=by simp
 have wA:z=1∨svs l=[]:=j6b hz;suffices key:Finds C7 137 [.sl b z (svs l)] [] fun q _=>∃r,((∀s,s∈r↔s∈l)∧r.length≤l.length)∧q=.ret [encW r] by
  obtain⟨q,st',⟨r,h1,rfl⟩,N,hN⟩:=key;exact⟨r,h1,_,st',rfl,N,hN⟩
 refine gR Tryz.func137 ?_;repeat'(first|refine gU ?_|apply gE<;>intro h|apply gM<;>intro h|apply gK)<;>conv=>whnf
 refine j04 (G:=Nat×List (List UInt8)) (fun g=>[(4,iv g.1),(3,soV g.2)]) (fun g=>soS g.2) (fun g=>g.1≤l.length∧(∀s,s∈g.2↔s∈l.take g.1)∧g.2.length≤g.1) (fun g=>l.length-g.1) (0,[]) ⟨by omega,by simp,by simp⟩ rfl rfl ?_
 rintro⟨i,O⟩ ⟨hi,hm,hO⟩;dsimp only at hi hm hO⊢;have hA:∀{s:List UInt8}{Q:List (List UInt8)},l[i]?=some s→(∀x,x∈Q↔x∈O∨x=s)→∀x,x∈Q↔x∈l.take (i+1):=fun hs hq x=>by
  rw[hq,take_snoc' hs,BJ,BD,hm]
 cases O with
 |nil=>
  simp only[soV,soS];repeat'(first|refine gU ?_|apply gE<;>intro h|apply gM<;>intro h|apply gK)<;>conv=>whnf
  ·obtain⟨s,hs⟩:∃s,l[i]?=some s:=⟨_,AA (by omega)⟩
   have hv:=j7Q hs;refine j04 (G:=Unit) (fun _=>[(5,iv 0)]) (fun _=>_) (fun _=>True) (fun _=>0) () trivial rfl rfl ?_
   rintro _ _;repeat'(first|refine gU ?_|apply gE<;>intro h|apply gM<;>intro h|apply gK)<;>conv=>whnf
   repeat'(first|refine gU ?_|apply gE<;>intro h|apply gM<;>intro h|refine VNat.mk i rfl ?_|refine VIdx.mk _ hv ?_|refine gZ wA ?_|apply gK)<;>conv=>whnf
   refine VAgain.sq _ rfl _ (j0B (.cons (j05 rfl) .nil) (.cons (j05 rfl) .nil) rfl rfl rfl rfl rfl) rfl _ _ (j0L rfl) ⟨(i+1,[s]),⟨by omega,hA hs (by simp),by simp only[AC,AG];omega⟩,by dsimp only;omega,rfl⟩
  ·exact⟨[],⟨fun s=>by rw[hm,BR (by omega)],by simp⟩,rfl⟩
 |cons d r=>
  simp only[soV,soS];have hC:(svs (d::r)).length=r.length+1:=by simp
  have qD:r.length+1≤1000000:=by
   simp only[AC] at hO;omega
  have gA:(r.length+1).beq (svs (d::r)).length=true:=by rw[hC];exact DG _
  repeat'(first|refine gU ?_|apply gE<;>intro h|apply gM<;>intro h|apply gK)<;>conv=>whnf
  ·obtain⟨s,hs⟩:∃s,l[i]?=some s:=⟨_,AA (by omega)⟩
   have hv:=j7Q hs;refine j04 (G:=Nat) (fun a=>[(5,iv a)]) (fun _=>_) (fun a=>a≤r.length+1) (fun a=>r.length+1-a) 0 (by omega) rfl rfl ?_
   intro a ha;dsimp only at ha ⊢
   by_cases gB:a<r.length+1
   ·obtain⟨x,hx⟩:∃x,(d::r)[a]?=some x:=⟨_,AA (by simpa using gB)⟩
    have wB:=j7Q hx;have qC:((r.length+1).beq (svs (d::r)).length&&a.blt (r.length+1)&&true)=true:=by
     rw[gA,show a.blt (r.length+1)=true by rw[BW];exact gB]
     rfl
    repeat'(first|refine gU ?_|apply gE<;>intro h|apply gM<;>intro h|refine VNat.mk a rfl ?_|refine VNat.mk i rfl ?_|refine VOk.mk gA ?_|refine VOk.mk qC ?_|refine VIdx.mk _ wB ?_|refine VIdx.mk _ hv ?_|refine gZ wA ?_|refine j7h ?_|refine j1w ?_|apply gK)<;>conv=>whnf
    all_goals try(exfalso;omega)
    ·exact VAgain.sq _ rfl _ (j1a rfl) rfl _ _ (j0L rfl) ⟨a+1,by omega,by omega,rfl⟩
    ·have e:x=s:=by simpa using h
     exact VAgain.sq _ rfl _ (j0B (.cons (j05 (j09 _)) .nil) (.cons (j05 (j09 _)) .nil) rfl rfl rfl rfl rfl) rfl _ _ (j0L rfl) ⟨(i+1,d::r),⟨by omega,hA hs (fun y=>⟨.inl,fun h=>h.elim id fun e'=>by rw[e',←e];exact AE hx⟩),by simp only[AC] at hO⊢;omega⟩,by dsimp only;omega,rfl⟩
    ·have e1:(svs (d::r)).drop a=svs (x::(d::r).drop (a+1)):=by
      rw[svs,←List.map_drop,drop_at hx]
     rw[jaV (v:=.sl false 1 (svs (x::(d::r).drop (a+1)))) rfl rfl gA (j2u _) rfl rfl rfl rfl (by rw[←e1];exact jdN (by omega)) rfl]
     have hQ:((d::r).drop (a+1)).length≤1000000:=by
      rw[GC,AC];omega
     generalize wC:(d::r).drop (a+1)=Q at *;repeat'(first|refine gU ?_|apply gE<;>intro h|apply gM<;>intro h|refine VOk.mk (j8G (w:=16) (r:=140737488355328) rfl rfl (by simp;omega) (by simp;omega)) ?_|apply gK)<;>conv=>whnf
     have e2:(svs (d::r)).take a=svs ((d::r).take a):=by
      rw[svs,←List.map_take]
     have hP:((d::r).take a).length≤1000000:=by
      rw[ES];omega
     rw[jaV (v:=.sl true 1 (svs ((d::r).take a))) rfl rfl gA (j2u _) rfl rfl rfl rfl (by rw[←e2];exact jkq (by omega)) rfl]
     generalize hD:(d::r).take a=P at *;have gC:((([]:List PV).length+(svs (x::Q)).length).beq (([]:List PV)++svs (x::Q)).length&&true)=true:=by simp[DG]
     have qB:(svs P++[sv s]).length=(svs P).length+[sv s].length:=by simp
     repeat'(first|refine gU ?_|apply gE<;>intro h|apply gM<;>intro h|refine VNat.mk i rfl ?_|refine VIdx.mk _ hv ?_|refine gZ wA ?_|refine VOk.mk (j8F (w:=16) (r:=140737488355328) rfl rfl rfl (by simp;omega) (by simp;omega)) ?_|refine VOk.mk gC ?_|refine VOk.mk (j0N (w:=16) (r:=140737488355328) qB rfl rfl rfl rfl (by simp;omega) (by simp;omega)) ?_|apply gK)<;>conv=>whnf
     obtain⟨d',r',hB⟩:∃d' r',P++s::x::Q=d'::r':=by cases P<;>exact⟨_,_,rfl⟩
     have qA:svs P++[sv s]++(([]:List PV)++svs (x::Q))=svs (d'::r'):=by rw[←hB];simp[svs]
     have hN:(svs P).length+[sv s].length+(([]:List PV)++svs (x::Q)).length=r'.length+1:=by
      have:=congrArg List.length hB;simp at this⊢;omega
     have hdr:d::r=P++x::Q:=by rw[←hD,←wC,←drop_at hx,CW]
     rw[hN,qA];refine VAgain.sq _ rfl _ (j0B (.cons (j05 (j09 _)) (.cons (j05 (j09 (x::Q))) (.cons (j05 (j09 _)) .nil))) (.cons j0l (.cons j0l (.cons (j05 (j09 _)) .nil))) rfl rfl rfl rfl rfl) rfl _ _ (j2a (.cons j2i (.cons j2i (.cons (j0o (j09 _)) .nil))) rfl rfl rfl rfl) ⟨(i+1,d'::r'),⟨by omega,hA hs (fun y=>by rw[←hB,hdr];simp only[BJ,AN];grind),?_⟩,by dsimp only;omega,rfl⟩
     rw[←hB];have:=congrArg List.length hdr;simp only[AC,AL] at this hO⊢;omega
   ·obtain rfl:a=r.length+1:=by omega
    repeat'(first|refine gU ?_|apply gE<;>intro h|apply gM<;>intro h|refine VOk.mk gA ?_|refine VNat.mk i rfl ?_|refine VIdx.mk _ hv ?_|refine gZ wA ?_|apply gK)<;>conv=>whnf
    all_goals try(exfalso;omega)
    rw[jaV (v:=.sl false 1 []) rfl rfl gA (j2u _) rfl rfl rfl rfl (by rw[jdN (by omega),AV (by omega)]) rfl]
    repeat'(first|refine gU ?_|apply gE<;>intro h|apply gM<;>intro h|apply gK)<;>conv=>whnf
    rw[jaV (v:=.sl true 1 (svs (d::r))) rfl rfl gA (j2u _) rfl rfl rfl rfl (by rw[jkq (by omega),BR (by omega)]) rfl]
    have qB:(svs (d::r)++[sv s]).length=(svs (d::r)).length+[sv s].length:=by simp
    repeat'(first|refine gU ?_|apply gE<;>intro h|apply gM<;>intro h|refine VNat.mk i rfl ?_|refine VIdx.mk _ hv ?_|refine gZ wA ?_|refine VOk.mk (j8F (w:=16) (r:=140737488355328) rfl rfl rfl (by simp;omega) (by simp;omega)) ?_|refine VOk.mk (j0N (w:=16) (r:=140737488355328) qB rfl rfl rfl rfl (by simp;omega) (by simp;omega)) ?_|apply gK)<;>conv=>whnf
    have qA:svs (d::r)++[sv s]=svs (d::(r++[s])):=by simp[svs]
    have hN:(svs (d::r)).length+[sv s].length=(r++[s]).length+1:=by simp
    rw[hN,qA];exact VAgain.sq _ rfl _ (j0B (.cons (j05 (j09 _)) (.cons (j05 (j09 _)) .nil)) (.cons j0l (.cons (j05 (j09 _)) .nil)) rfl rfl rfl rfl rfl) rfl _ _ (j2a (.cons j2i (.cons (j0o (j09 _)) .nil)) rfl rfl rfl rfl) ⟨(i+1,d::(r++[s])),⟨by omega,hA hs (fun y=>by simp only[BJ,AN];grind),by simp only[List.length_cons,List.length_append,List.length_nil] at hO⊢;omega⟩,by dsimp only;omega,rfl⟩
  ·refine j0m rfl (j03 (j0p rfl (by simp) (j2u _)) j0h) rfl ?_
   exact⟨d::r,⟨fun s=>by rw[hm,BR (by omega)],by omega⟩,rfl⟩
open Go Go.Am Go.Gw
def isF8(f:Nat):Bool:=memN [85,37,7] f
noncomputable def nat8(f:Nat):Option (List PV→Sto→Option (AEnd×Sto)):=match isF8 f with
 |true=>none
 |false=>match Nat.beq f 137 with
  |true=>some (j5T C7 f)
  |false=>match Nat.beq f 30 with
   |true=>some (j5T C3 f)
   |false=>some (j5T C1 f)
noncomputable def C8:Cfg:=⟨C1.P,C1.fz,C1.raw,C1.keep,C1.lit,nat8,C1.fzc,C1.pst,false⟩
theorem ju2:jhx C8:=fun f F hF=>by
 have hF:nat8 f=some F:=hF;unfold nat8 at hF;split at hF
 ·cases hF
 ·split at hF
  ·cases hF;exact j5g (C:=C7) (fun n=>(juZ n).call) f
  ·split at hF
   ·cases hF;exact j5g (C:=C3) (fun n=>(juY n).call) f
   ·cases hF;exact j5g (C:=C1) (fun n=>(jsM n).call) f
theorem jv0(n:Nat):EvOk C8 (ev C8 n):=ji3 (by kernel_rfl) (by kernel_rfl) ju2 n
theorem up8{Q:AEnd→Sto→Prop}(hf:(isF8 f||(Nat.beq f 137||Nat.beq f 30))=false)(h:Finds C1 f args st Q):Finds C8 f args st Q:=by
 rw[FN,FN] at hf;obtain⟨h1,h2,h3⟩:=hf;refine jll (C:=C1) (F:=j5T C1 f) (show nat8 f=_ from ?_) (fun r st' h=>h) h
 unfold nat8;rw[h1,h2,h3]
theorem jgf(l:List (List UInt8)):∃b z,encW l=.sl b z (svs l)∧(z=1∨l=[]):=by
 cases l with
 |nil=>exact⟨_,_,rfl,.inr rfl⟩
 |cons d r=>exact⟨_,_,rfl,.inl rfl⟩
theorem jhu(t:Tm)(v:PV)(h:TmP t v):∃r b z,((∀s,s∈r↔s∈j2J t)∧r.length≤2000∧(z=1∨r=[]))∧Pf C8 85 [v] [.sl b z (svs r)]:=by
 have ha:Pf C8 _ _ _:=up8 rfl (jst t v h h.names 4)
 by_cases hA:anyT t=true
 ·have qA:j0s t 4 1125899906842624=true:=hA;have hl:(j0v t).length≤2000:=BL (j4Q t) (j9r hA);have hc:Pf C8 _ _ _:=up8 rfl (jhQ t v h _ _ (j2n hA).2 (by have:=j9r hA;omega))
  obtain⟨b,z,e1,e2⟩:=jgf (j0v t);rw[e1] at hc;obtain⟨r,⟨h1,h2⟩,h3⟩:=jmM (j0v t) b z e2 (by omega)
  have hs:Pf C8 _ _ _:=jiz (C:=C7) (C':=C8) rfl h3;obtain⟨b2,z2,e3,e4⟩:=jgf r;rw[e3] at hs;rw[qA] at ha;refine⟨r,b2,z2,⟨fun s=>by rw[h1,j2J,if_pos hA,jeR],by omega,e4⟩,?_⟩
  cases h.c;refine gR Tryz.func85 ?_;repeat'(first|refine gU ?_|apply gE<;>intro h|apply gM<;>intro h|refine gX ha ?_|refine gX hc ?_|refine gX hs ?_|apply gK)<;>conv=>whnf
  all_goals first|rfl|contradiction
 ·have qA:j0s t 4 1125899906842624=false:=by simpa[anyT] using hA
  rw[qA] at ha;refine⟨[],true,0,⟨fun s=>by rw[j2J,if_neg hA],by simp,.inr rfl⟩,?_⟩
  cases h.c;refine gR Tryz.func85 ?_;repeat'(first|refine gU ?_|apply gE<;>intro h|apply gM<;>intro h|refine gX ha ?_|apply gK)<;>conv=>whnf
  all_goals first|rfl|contradiction
theorem jnJ(s:List UInt8):((j5P s lib14).getD enz).ht=htF nv14 s:=by rw[htF,jua]
theorem jfC(xs:List PV)(hx:EnsP lib14 xs)(t:Tm)(v:PV)(h:TmP t v):Pf C8 37 [.sl false 19 xs,v] [iv (j2l nv14 t)]:=by
 obtain⟨r,b,z,⟨hr,hl,hz⟩,hc⟩:=jhu t v h;have hg:=fun s=>jfA lib14 false 19 xs (.inl rfl) hx (by decide) s
 have wA:(svs r).length=r.length:=by simp
 have gA:z=1∨svs r=[]:=j6b hz;have hh:j2l nv14 t=j1H nv14 r 0:=(jig hr 0).symm;rw[hh];cases h.c;refine gR Tryz.func37 ?_;repeat'(first|refine gU ?_|apply gE<;>intro h|apply gM<;>intro h|refine gX hc ?_|apply gK)<;>conv=>whnf
 refine j04 (G:=Nat×Int) (fun g=>[(7,iv g.1),(6,iv g.2)]) (fun _=>_) (fun g=>g.1≤r.length∧(0≤g.2∧g.2≤1048576)∧j1H nv14 (r.drop g.1) g.2=j1H nv14 r 0) (fun g=>r.length-g.1) (0,0) ⟨by omega,by dsimp only;omega,rfl⟩ rfl rfl ?_
 rintro⟨i,n⟩ ⟨hi,hn,hA⟩;dsimp only at hi hn hA⊢;repeat'(first|refine gU ?_|apply gE<;>intro h|apply gM<;>intro h|apply gK)<;>conv=>whnf
 ·have qA:i<r.length:=by omega
  obtain⟨s,hs⟩:∃s,r[i]?=some s:=⟨_,AA qA⟩;have hv:=j7Q hs;have hb:=jo9 nv14_G.ok s;rw[drop_at hs,j1H,←jnJ] at hA;rw[←jnJ] at hb;obtain⟨w,hw,hG⟩:=hg s;have hG:Pf C8 _ _ _:=up8 rfl hG;cases hq:j5P s lib14 with
  |none=>
   rw[hq] at hw hG hA hb;dsimp only[Option.getD,Option.isSome] at hw hG hA hb;obtain⟨a1,a2,a3,a4,a5,a6,a7,a8,a9,a10,a11,a12,a13,a14,a15,a16,a17,a18,a19,a20,rfl,-⟩:=hw;repeat'(first|refine gU ?_|apply gE<;>intro h|apply gM<;>intro h|refine VIdx.mk _ hv ?_|refine gZ gA ?_|refine j01 hG fun _=>?_|refine gX hG ?_|apply gK)<;>conv=>whnf
   rw[if_neg (show ¬enz.ht>n by simp only[enz];omega)] at hA
   exact VAgain.mk _ rfl _ (j0a rfl rfl rfl) ⟨(i+1,n),⟨qA,hn,hA⟩,by dsimp only;omega,rfl⟩
  |some e=>
   rw[hq] at hw hG hA hb;dsimp only[Option.getD,Option.isSome] at hw hG hA hb;obtain⟨a1,a2,a3,a4,a5,a6,a7,a8,a9,a10,a11,a12,a13,a14,a15,a16,a17,a18,a19,a20,rfl,-⟩:=hw;repeat'(first|refine gU ?_|apply gE<;>intro h|apply gM<;>intro h|refine VIdx.mk _ hv ?_|refine gZ gA ?_|refine j01 hG fun _=>?_|refine gX hG ?_|apply gK)<;>conv=>whnf
   exact VAgain.mk _ rfl _ (j0a rfl rfl rfl) ⟨(i+1,if e.ht>n then e.ht else n),⟨qA,by dsimp only;split<;>omega,hA⟩,by dsimp only;omega,rfl⟩
 ·rw[AV (by omega),j1H] at hA
  rw[←hA]
open Go Go.Am Go.Gw
theorem j1c{i:Nat}{args0:List PV}{cs:List PV}{tot l l':Int}{r:AEnd}(h:Fr f args0 cs tot l r l')(hA:(isF8 f||(Nat.beq f 137||Nat.beq f 30))=false)(hw:handed C8 f args st=some (args,st))(hp:args.all (pur 8)=false)(hπ:(close st 64 (args.flatMap (ids 8)) []).reverse=[i])(hi:args.all (j0e (fun q=>[i].elem q) 8)=true)
  (hf:fetch (fun q=>place q 0 [i]) (fun q=>[i].elem q) st [i]=some [runB cs tot l]) (ha:args.map (j1p (fun q=>place q 0 [i]) 8)=args0) (hb:jbo (fun j=>Nat.blt j 1) r=true) (k:K (j5n (back [i] st.length) r) (st.set i (runB cs tot l'))):VCall C8 f args st K:=by
 refine j0K hw hp hπ hi hf ha (Finds.mono (up8 hA h) ?_);rintro _ _ ⟨rfl,rfl⟩;refine j1z ?_ ?_
 ·simp only[AC,AG,AP,hb,CG];rfl
 ·have e:(st.set i (runB cs tot l'))++[]=st.set i (runB cs tot l'):=BF _;rw[←e] at k;exact k
theorem j7g{rs:List PV}(h:Finds C8 f args [] fun r s=>r=.ret rs∧s=st1)(ha:args.all (pur 8)=true)(hp:rs.all (pur 8)=false)(hb:VBack [] st (.ret rs) st1 K):VCall C8 f args st K:=j1d ha (Finds.mono h (by rintro _ _ ⟨rfl,rfl⟩;exact⟨hp,hb⟩))
theorem jif(d:Dc)(v:PV)(h:DcP d v):Pf C1 23 [v] [bv true]∨(d.cs.length≤1000000∧Pf C1 23 [v] [bv false]):=by
 obtain⟨q,hq⟩:=jbz d v h;cases q with
 |true=>exact .inl hq
 |false=>
  obtain⟨b,hb,hg⟩:=jcU d v h;cases b with
  |false=>exact .inr ⟨by have:=hb rfl;omega,hq⟩
  |true=>
   refine .inl ?_;cases h;refine gR Tryz.func23 ?_;repeat'(first|refine gU ?_|apply gE<;>intro h|apply gM<;>intro h|refine gX hg ?_|apply gK)<;>conv=>whnf
   all_goals first|rfl|contradiction
theorem ht14(t:Tm):0≤j2l nv14 t∧j2l nv14 t≤1000:=by
 have h0:=j9I nv14_G.ok (j2J t) 0 (by omega)
 refine⟨h0.1,(j3X (j2J t) 0).2 ⟨by omega,fun s _=>?_⟩⟩
 have hA:lib14.all (fun e=>decide (e.ht≤1000))=true:=by kernel_rfl
 rw[←jnJ];cases hg:j5P s lib14 with
 |none=>simp[enz]
 |some e=>
  have:∀{es:List En},j5P s es=some e→e∈es:=fun{es}=>by
   induction es with
   |nil=>exact fun h=>by cases h
   |cons x r ih=>
    intro h;rw[j5P] at h;split at h
    ·cases h;exact BG
    ·exact BE _ (ih h)
  exact of_decide_eq_true (AF.1 hA e (this hg))
theorem jj8(cs:List PV)(n:Int)(h:n<0∨1048576<n):Pf C1 57 [.cp cs,iv n] [nilP,iv 12]:=by
 refine gR Tryz.func57 ?_;repeat'(first|refine gU ?_|apply gE<;>intro h|apply gM<;>intro h|apply gK)<;>conv=>whnf
 all_goals first|rfl|(exfalso;omega)
theorem jmK(cs:List PV)(d:Dc)(v:PV)(h:DcP d v)(n:Int)(hn:n<0∨1048576<n):Pf C1 24 [.cp cs,v,iv n] [.ag zEn,iv 0,iv 12]:=by
 have hw:=jj8 cs n hn;cases h;refine gR Tryz.func24 ?_;repeat'(first|refine gU ?_|apply gE<;>intro h|apply gM<;>intro h|refine gX hw ?_|apply gK)<;>conv=>whnf
 all_goals first|rfl|contradiction
theorem jav(d:Dc)(v:PV)(h:DcP d v)(fuel:Int):Pf C8 7 [v,iv fuel] [bv true]:=by
 have ha:Pf C8 _ _ _:=up8 rfl jhC;have gA:Pf C1 23 [v] [bv true]∨(20000<fuel∧fuel≤1048576)→Pf C8 7 [v,iv fuel] [bv true]:=by
  rintro(hg|hf)
  ·have hg:Pf C8 _ _ _:=up8 rfl hg;cases h;refine gR Tryz.func7 ?_;repeat'(first|refine gU ?_|apply gE<;>intro h|apply gM<;>intro h|refine gX ha ?_|refine gX hg ?_|apply gK)<;>conv=>whnf
   all_goals first|rfl|contradiction
  ·obtain⟨q,hg⟩:=jbz d v h;have hg:Pf C8 _ _ _:=up8 rfl hg;cases h;refine gR Tryz.func7 ?_;repeat'(first|refine gU ?_|apply gE<;>intro h|apply gM<;>intro h|refine gX ha ?_|refine gX hg ?_|apply gK)<;>conv=>whnf
   all_goals first|rfl|contradiction|(exfalso;omega)
 rcases jif d v h with hg|⟨wD,hg⟩
 ·exact gA (.inl hg)
 by_cases hf:20000<fuel∧fuel≤1048576
 ·exact gA (.inr hf)
 have hg:Pf C8 _ _ _:=up8 rfl hg;obtain⟨cs,hE,hL⟩:=jgE;have hL:Pf C8 _ _ _:=up8 rfl hL;obtain⟨w,hw,wA⟩:=jfz d v h wD;have wA:Pf C8 _ _ _:=jiz (C:=C3) (C':=C8) rfl wA;have hB:Pf C8 _ _ _:=up8 rfl (jha d w v hw h);have qB:Pf C8 _ _ _:=up8 rfl (j8Z enz _ _ jnK jnK);unfold zEn at qB
 by_cases hr:fuel<0∨1048576<fuel
 ·have hP:Pf C8 _ _ _:=up8 rfl (jmK cs d w hw fuel hr);unfold zEn at hP;cases h;cases hw;refine gR Tryz.func7 ?_;repeat'(first|refine gU ?_|apply gE<;>intro h|apply gM<;>intro h|refine gX ha ?_|refine gX hg ?_|refine gX hL ?_|refine gX wA ?_|refine gX hP ?_|refine gX hB ?_|refine gX qB ?_|apply gK)<;>conv=>whnf
  all_goals first|rfl|(exfalso;omega)|contradiction|skip
 have f0:0≤fuel:=by omega
 have f1:fuel≤1048576:=by omega
 obtain⟨n,r,u,hp,u0,u1,ue⟩:=jlY nv14_G.ok d fuel f0;have hP:Pf C8 _ _ _:=up8 rfl (j8k hE f0 f1 d w hw r u hp);obtain⟨xs,hx,qA⟩:=jgD;have qA:Pf C8 _ _ _:=up8 rfl qA;obtain⟨ew,gD,hA⟩:=jfA lib14 false 19 xs (.inl rfl) hx (by decide) d.nm
 have hA:Pf C8 _ _ _:=up8 rfl hA;rw[←jv4] at hA;have wB:=up8 rfl (jqa cs fuel f0 f1);have hF:Pf C8 _ _ _:=up8 rfl (jb0 d v h);have c1:=joa cs fuel;have r1:=j5E cs fuel;have u1':=jkF cs fuel;have hJ:=fun r' l' hx=>jil (n:=n) hE f1 d v h fuel r' l' f0 (CX _) hx
 unfold j2T plain8 at hp;obtain⟨e1,e2,e3,e4,e5,e6,e7,e8,e9,e10,e11,e12,e13,e14,e15,e16,e17,e18,e19,e20,rfl,-⟩:=gD;cases gC:j1F d with
 |false=>
  rw[gC] at hp hF;cases hp;simp only[plV] at hP;unfold zEn at hP;have c1:=c1 fuel;have r1:=r1 fuel;have u1':=u1' fuel;cases h;cases hw;refine gR Tryz.func7 ?_;repeat'(first|refine gU ?_|apply gE<;>intro h|apply gM<;>intro h|refine gX ha ?_|refine gX hg ?_|refine gX hL ?_|refine gX wA ?_|refine gX hP ?_|refine gX hB ?_|refine j01 qA fun _=>?_|refine j01 hA fun _=>?_|refine gX qA ?_|refine gX hA ?_|refine j7g wB rfl rfl (j1z rfl ?_)|refine jcx ?_|refine gX hF ?_|refine j1c (i:=4) c1 rfl rfl rfl rfl rfl rfl rfl rfl ?_|refine j1c (i:=4) r1 rfl rfl rfl rfl rfl rfl rfl rfl ?_|refine j1c (i:=4) u1' rfl rfl rfl rfl rfl rfl rfl rfl ?_|refine gX qB ?_|apply gK)<;>conv=>whnf
  all_goals first|rfl|(exfalso;omega)|contradiction|skip
 |true=>
  rw[gC] at hp hF
  by_cases c5:d.k=5
  ·have e5:(true && !decide (d.k=5))=false:=by simp[c5]
   rw[e5] at hp;cases hp;simp only[plV] at hP;unfold zEn at hP;have c1:=c1 fuel;have r1:=r1 fuel;have u1':=u1' fuel;cases h;cases hw;cases c5;refine gR Tryz.func7 ?_;repeat'(first|refine gU ?_|apply gE<;>intro h|apply gM<;>intro h|refine gX ha ?_|refine gX hg ?_|refine gX hL ?_|refine gX wA ?_|refine gX hP ?_|refine gX hB ?_|refine j01 qA fun _=>?_|refine j01 hA fun _=>?_|refine gX qA ?_|refine gX hA ?_|refine j7g wB rfl rfl (j1z rfl ?_)|refine jcx ?_|refine gX hF ?_|refine j1c (i:=4) c1 rfl rfl rfl rfl rfl rfl rfl rfl ?_|refine j1c (i:=4) r1 rfl rfl rfl rfl rfl rfl rfl rfl ?_|refine j1c (i:=4) u1' rfl rfl rfl rfl rfl rfl rfl rfl ?_|refine gX qB ?_|apply gK)<;>conv=>whnf
   all_goals first|rfl|(exfalso;omega)|contradiction|skip
  have e5:(true && !decide (d.k=5))=true:=by simp[c5]
  rw[e5] at hp;dsimp only at hp;cases hD:getR d.nm nv14.tr with
  |some i=>
   rw[hD] at hp hA;cases hp;simp only[plV] at hP;unfold zEn at hP;have c1:=c1 fuel;have r1:=r1 fuel;have u1':=u1' fuel;cases h;cases hw;refine gR Tryz.func7 ?_;repeat'(first|refine gU ?_|apply gE<;>intro h|apply gM<;>intro h|refine gX ha ?_|refine gX hg ?_|refine gX hL ?_|refine gX wA ?_|refine gX hP ?_|refine gX hB ?_|refine j01 qA fun _=>?_|refine j01 hA fun _=>?_|refine gX qA ?_|refine gX hA ?_|refine j7g wB rfl rfl (j1z rfl ?_)|refine jcx ?_|refine gX hF ?_|refine j1c (i:=4) c1 rfl rfl rfl rfl rfl rfl rfl rfl ?_|refine j1c (i:=4) r1 rfl rfl rfl rfl rfl rfl rfl rfl ?_|refine j1c (i:=4) u1' rfl rfl rfl rfl rfl rfl rfl rfl ?_|refine gX qB ?_|apply gK)<;>conv=>whnf
   all_goals first|rfl|(exfalso;omega)|contradiction|skip
  |none=>
   rw[hD] at hp hA;dsimp only at hp;cases hj:j3v nv14 n d fuel with
   |none=>rw[hj] at hp;cases hp
   |some y=>
    obtain⟨y,l⟩:=y;have gB:=hJ y l hj;clear hJ;have c1:=c1 l;have r1:=r1 l;have u1':=u1' l;rw[hj] at hp;cases y with
    |error e=>
     cases hp;obtain⟨he,gB⟩:=gB;simp only[plV] at hP;unfold zEn at hP;cases h;cases hw;refine gR Tryz.func7 ?_;repeat'(first|refine gU ?_|apply gE<;>intro h|apply gM<;>intro h|refine gX ha ?_|refine gX hg ?_|refine gX hL ?_|refine gX wA ?_|refine gX hP ?_|refine gX hB ?_|refine j01 qA fun _=>?_|refine j01 hA fun _=>?_|refine gX qA ?_|refine gX hA ?_|refine j7g wB rfl rfl (j1z rfl ?_)|refine jcx ?_|refine gX hF ?_|refine j1c (i:=4) c1 rfl rfl rfl rfl rfl rfl rfl rfl ?_|refine j1c (i:=4) r1 rfl rfl rfl rfl rfl rfl rfl rfl ?_|refine j1c (i:=4) u1' rfl rfl rfl rfl rfl rfl rfl rfl ?_|refine j1c (i:=4) gB rfl rfl rfl rfl rfl rfl rfl rfl ?_|refine gX qB ?_|apply gK)<;>conv=>whnf
     all_goals first|rfl|(exfalso;omega)|contradiction|skip
    |ok a=>
     have gB:Fr _ _ _ _ _ (.ret [iv 0]) _:=gB;obtain⟨q,hq⟩:∃q,entryD d (1+j2l nv14 d.vl)=.ok (enOf d q):=by
      have hb:=ht14 d.vl;have h8:plain8 d=true:=by rw[plain8,gC,e5]
      unfold entryD;rw[h8];dsimp only;split
      ·rw[if_pos (by omega)]
       exact⟨_,rfl⟩
      ·exact⟨_,rfl⟩
     cases hp;rw[Int.add_comm,hq] at hP;simp only[plV] at hP;obtain⟨pw,pe,hC,qC⟩:=jh3 d v h _ q hq;have qC:Pf C8 _ _ _:=up8 rfl qC;have hS:Pf C8 _ _ _:=up8 rfl (j8Z (enOf d q) _ _ (j5H hC) hC);obtain⟨tk,tn,ts,tb,tz',txs,tc,ty',tys,vk,vn,vs,vb,vz,vxs,vc,vy,vys,b',z',kE⟩:=j4h hC;rw[kE] at hP hS;obtain⟨g1,g2,g3,g4,g5,g6,g7,g8,g9,g10,g11,g12,g13,g14,g15,g16,g17,g18,g19,g20,rfl,-⟩:=hC;obtain⟨k,p,nm,ty,vl,fx,dcs,a1,a2,a3,a4,a5,a6,a7,a8,a9,b1,b2,b3,b4,b5,b6,b7,b8,b9,cb,cz,cx,wE,qD,hz,qE,hlen,kF,hk,hp,qF⟩:=h;have wC:=jfC xs hx vl _ qD;have gF:=ht14 vl;cases hw;refine gR Tryz.func7 ?_;repeat'(first|refine gU ?_|apply gE<;>intro h|apply gM<;>intro h|refine gX ha ?_|refine gX hg ?_|refine gX hL ?_|refine gX wA ?_|refine gX hP ?_|refine gX hB ?_|refine j01 qA fun _=>?_|refine j01 hA fun _=>?_|refine gX qA ?_|refine gX hA ?_|refine j7g wB rfl rfl (j1z rfl ?_)|refine jcx ?_|refine gX hF ?_|refine j1c (i:=4) c1 rfl rfl rfl rfl rfl rfl rfl rfl ?_|refine j1c (i:=4) r1 rfl rfl rfl rfl rfl rfl rfl rfl ?_|refine j1c (i:=4) u1' rfl rfl rfl rfl rfl rfl rfl rfl ?_|refine j1c (i:=4) gB rfl rfl rfl rfl rfl rfl rfl rfl ?_|refine j01 wC fun _=>?_|refine gX wC ?_|refine gX qC ?_|refine gX hS ?_|apply gK)<;>conv=>whnf
     all_goals first|rfl|(exfalso;omega)|contradiction|skip
end Go.Proofs.YtbnodhcijeaceaaGreatDoor
namespace Go.Proofs.YtbnodhcijeaceaaGreatDoor.admitAnswers
open Go Go.ChangeShapes Go.WideShapes Go.ChangeAt Go.RowKit
theorem lifted(os:Os)(started:os.Started)(H:Type)(enc:TypeId×Value→H):
  ReturnsInHanded {} Tryz.checked os 7 .any (fun w args=>(Rows.admitAnswersSpec.pre enc Tryz.prog Tryz.f7 Rows.admitAnswersRow.domain false w args∧laidMetH Tryz.prog Rows.admitAnswersRow.laid w)∧sizedMet enc Tryz.prog Tryz.f7 (OpenSpec.ofChange Rows.admitAnswersSpec) false w args)
   (Rows.admitAnswersSpec.post enc Tryz.prog Tryz.f7 false true false false):=by
 refine jey (C:=Tryz.checked) (X:=fun w _=>laidMetH Tryz.prog Rows.admitAnswersRow.laid w) (fun _ _ _ hh h=>h.of_heap hh) juD started (by kernel_rfl) Tryz.func7
  (ChangeSpec.witness_shaped (enc:=enc) (C:=Tryz.checked) (os:=os) (X:=fun w _=>laidMetH Tryz.prog Rows.admitAnswersRow.laid w) false (World.laidAll Tryz.prog os Rows.admitAnswersRow.laid) #[.agg #[.int .i64 0,.int .i64 0,.string ⟨#[]⟩,.int .i64 0,.int .i64 0,.string ⟨#[]⟩,.slice none 0 0,.slice none 0 0,.int .i64 0,.int .i64 0,.string ⟨#[]⟩,.slice none 0 0,.slice none 0 0,.int .i64 0,.slice none 0 0],.int .i64 0] 8 (World.laidAll_os _ _ _)
   (World.shaped_of_ZipB (by kernel_rfl) (by kernel_rfl)) (by kernel_rfl) (by kernel_rfl) (by kernel_rfl)
   (by rw[MakeChecks.laidMetH_plain _ _ _ (by kernel_rfl)];exact laidMet_laidAll _ (by kernel_rfl) (by kernel_rfl))) ?_
 intro W base args ds gs before gA hW _ hsz hL gB _;have qA:∀(j:Nat) t v,Tryz.f7.params[j]?=some t→args[j]?=some v→Value.okWide Tryz.prog W .any base t v:=gA;have qC:=hW;obtain⟨p,q,gC,hV,rfl,hD,wC⟩:=hW;have hA:DataW.TrodAll enc Tryz.prog W 0 (fun _=>true) true Tryz.f7.params.toList args.toList ds p:=gC
 rw[Tryz.params7] at hA qA;obtain⟨v0,vs0,d0,ds0,p0,q0,hB,rfl,rfl,h0,r0⟩:=trodAll_cons hA;obtain⟨v1,vs1,d1,ds1,p1,q1,rfl,rfl,rfl,h1,r1⟩:=trodAll_cons r0;obtain⟨rfl,rfl,rfl⟩:=trodAll_nil r1;obtain rfl:args = #[v0,v1]:=by cases args;simp_all
 obtain⟨rfl,rfl⟩:=trodVars_none hV;have hw:∀(j:Nat) (t:TypeId) (d:DataW H),(Tryz.f7.params.toList++Rows.admitAnswersSpec.plain.varTypes Tryz.prog)[j]?=some t→([d0,d1]++[])[j]?=some d→∀n∈d.weights Tryz.prog t,n≤reachBytes:=fun j t d ht hd n hn=>by
  have:=AF.1 hsz n (DataW.weights_mem_each (j:=j) ht hd n hn);simpa using this
 obtain⟨l0,c0,hC,hr0⟩:=jqi (qA 0 47 v0 rfl rfl) h0 (hw 0 _ _ rfl rfl);obtain⟨l1,wB,_⟩:=jtb (qA 1 3 v1 rfl rfl) h1;refine(jhN (C:=C8) jv0 (jav l0 c0 hC l1) (base_of hL gB) (.cons hr0 (.cons wB .nil))).mono ?_;rintro e W' ⟨m',φ',us,rfl,qB,hb⟩;obtain⟨u,us',rfl,hu,wA⟩:=qB.uncons;obtain rfl:us'=[]:=AJ wA.1.symm;obtain rfl:=hu.sc_eq;refine⟨_,rfl,Gw.post_low qC hb jty (by
  rw[Tryz.params7]
  intro t ht;simp only[AN,FE,or_false] at ht;rcases ht with rfl|rfl
  ·exact jrn
  ·exact jtv) rfl rfl rfl (fun b sp hd=>?_) (ok_one (by kernel_rfl) rfl (okWide_bool_mk Tryz.underlying4 _))⟩
 exact trodAll_mk1 (shut_bool Tryz.underlying4 true)
theorem proved:Rows.AdmitAnswersSaid:=
 OpenClaim.holds_of_wide 7 Tryz.f7 rfl rfl rfl rfl rfl rfl rfl ⟨rfl,rfl,rfl,rfl,rfl⟩ rfl rfl rfl rfl rfl (by kernel_rfl) Tryz.func7 closed
  (of_decide_eq_true (by kernel_rfl)) (by unfold Func.isWrapper;first|(rw[if_pos (by decide +kernel)];kernel_rfl)|(rw[if_neg (by decide +kernel)];exact⟨rfl,rfl⟩))
  (fun os started H enc _=>lifted os started H enc)
theorem card:Rows.AdmitAnswersCardSaid:=
 Claim7.holds_tied_plain_at .later [] [.data,.data,.data,.data,.sentinel,.sentinel,.pinned] true (true,"873e72a25e04a07308bbd18f70a745a76f219266b979719002c632df6bbff8df") true
  proved (fun _ h=>by cases h) (by kernel_rfl) (fun _ h=>by cases h) admitAnswers_row_tie rfl ⟨rfl,rfl⟩ (by kernel_rfl) rfl
  (fun f fn hf hA=>by
   obtain rfl:f=7:=BP ((show Tryz.prog.funcNamed "scholium/scholiumlaw16.AdmitAnswers" = some 7 by kernel_rfl).symm.trans hf) |>.symm
   obtain rfl:fn=Tryz.f7:=(BP (Tryz.func7.symm.trans hA)).symm;exact⟨by kernel_rfl,fun j t ht=>by
    rw[Tryz.params7] at ht;have h3:t=47∨t=3:=by
     rcases j with _|_|j
     all_goals first|(simp at ht;done)|(simp at ht;subst ht;simp)
    rcases h3 with rfl|rfl
    ·exact(show Tryz.prog.wantsStandIn 47=false by kernel_rfl)
    ·exact(show Tryz.prog.wantsStandIn 3=false by kernel_rfl)⟩)
  (jie jr8 rfl)
