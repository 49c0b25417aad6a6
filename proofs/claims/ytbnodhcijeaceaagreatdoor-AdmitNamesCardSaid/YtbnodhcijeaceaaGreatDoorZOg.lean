/- The law of ticks, walked. -/
import Derived.Test.YtbnodhcijeaceaaGreatDoorZOf
set_option linter.all false
set_option maxHeartbeats 8000000
set_option maxRecDepth 1000000
namespace Go.Proofs.YtbnodhcijeaceaaGreatDoor
open Go Go.Am Go.Gw
section
variable{E:Nv}{n:Nat}{d:Dc}{tot l:Int}
theorem jbw(h8:plain8 d=true)(hg:getR d.nm E.tr=none)(hj:j2H E n d tot=some (.ok (),l)):j1o E n d tot=some (entryD d (j3T E d.vl+1),tot-l):=by
 unfold j1o;rw[h8,hg];dsimp only;rw[hj]
theorem jgx{e:Int}(h8:plain8 d=true)(hg:getR d.nm E.tr=none)(hj:j2H E n d tot=some (.error e,l)):j1o E n d tot=some (.error e,tot-l):=by
 unfold j1o;rw[h8,hg];dsimp only;rw[hj]
theorem j9T{i:Int}(h8:plain8 d=true)(hg:getR d.nm E.tr=some i):j1o E n d tot=some (.error 14,0):=by
 unfold j1o;rw[h8,hg]
end
def d16a:Dc:=⟨2,0,nTwo,tNat,ap (ap (cq nAdd) (cq [107])) (cq [107]),0,[]⟩
def d16b:Dc:=⟨3,0,nTwo,tNat,cq [107],0,[]⟩
def d16c:Dc:=⟨3,0,nTwo,cq [112],cq [104],0,[]⟩
def d16d:Dc:=⟨4,0,[111],tNat,cq [107],0,[]⟩
def d16e:Dc:=⟨2,0,[116],cq [112],cq [107],0,[]⟩
def d16f:Dc:=⟨3,0,[104],cq [112],cq [104],0,[]⟩
theorem j16a:j2H nv14 60 d16a 1000=some (.ok (),987):=by kernel_rfl
theorem j16b:j2H nv14 60 d16b 1000=some (.error 19,998):=by kernel_rfl
theorem j16c:j2H nv14 60 d16c 1000=some (.ok (),995):=by kernel_rfl
theorem j16d:j2H nv14 60 d16d 1000=some (.ok (),995):=by kernel_rfl
theorem j16e:j2H (nv14.push (enOf d16d 0)) 60 d16e 1000=some (.error 18,991):=by kernel_rfl
theorem w16:(plain8 d16a&&plain8 d16b&&plain8 d16c&&plain8 d16d&&plain8 d16e&&plain8 d16f&&(getR nTwo nv14.tr).isNone&&(getR [111] nv14.tr).isNone&&(getR [116] (nv14.push (enOf d16d 0)).tr).isNone&&(getR [104] nv14.tr).isSome&&decide (j3T nv14 d16a.vl+1=2)&&decide (j3T (nv14.push (enOf d16a 2)) (cq nTwo)=2)&&Nat.beq nv14.es.length 12)=true:=by kernel_rfl
variable{cs:List PV}{x y:Operand}
theorem evEq:j0j C1.P .eql 54 x y (.cp cs) nilP=some (bv false):=by kernel_rfl
theorem evNe:j0j C1.P .neq 54 x y (.cp cs) nilP=some (bv true):=by kernel_rfl
theorem jp2{op:BinOp}{K:PV→Prop}(h:jqd op false K):VRes (j0j C1.P op 54 x y (.cp cs) nilP) K:=by
 cases op with
 |eql=>exact⟨_,evEq,h⟩
 |neq=>exact⟨_,evNe,h⟩
 |_=>exact h.elim
theorem jaC:Pf C1 22 [] [bv true]:=by
 have w:=w16;simp only[Bool.and_eq_true,decide_eq_true_eq,Option.isNone_iff_eq_none,Option.isSome_iff_exists] at w;obtain⟨⟨⟨⟨⟨⟨⟨⟨⟨⟨⟨⟨pa,pb⟩,pc⟩,pd⟩,pe⟩,pf⟩,g1⟩,g2⟩,g3⟩,⟨i4,g4⟩⟩,hh1⟩,hh2⟩,hlen⟩:=w;have hlen:=Nat.eq_of_beq_eq_true hlen;obtain⟨cs,hE,hL⟩:=jbd;have rn:=j3t jdh;have rk:=j3t jqA;have rp:=j3t jqB;have rh:=j3t jqz;have ra:=j3t jlz;obtain⟨vt,hvt,rt⟩:=j3t jlA;have i2:i64 2:=by unfold i64;omega
 have i3:i64 3:=by unfold i64;omega
 have i4':i64 4:=by unfold i64;omega
 obtain⟨va,ka,fa⟩:=j4y 2 i2 nTwo _ _ _ _ rn ra (by decide)
 obtain⟨vb,kb,fb⟩:=j4y 3 i3 nTwo _ _ _ _ rn rk (by decide)
 obtain⟨vc,kc,fc⟩:=j4y 3 i3 nTwo _ _ _ _ rp rh (by decide)
 obtain⟨vd,kd,fd⟩:=j4y 4 i4' [111] _ _ _ _ rn rk (by decide)
 obtain⟨ve,ke,fe⟩:=j4y 2 i2 [116] _ _ _ _ rp rk (by decide)
 obtain⟨vf,kf,ff⟩:=j4y 3 i3 [104] _ _ _ _ rp rh (by decide)
 have qa:=jbw (d:=d16a) pa g1 j16a;have ea:entryD d16a (j3T nv14 d16a.vl+1)=.ok (enOf d16a 2):=by
  rw[hh1];unfold entryD;rw[pa];rfl
 rw[ea] at qa;have qb:=jgx (d:=d16b) pb g1 j16b;have qc:=jbw (d:=d16c) pc g1 j16c;have ec:∀q,entryD d16c q=.ok (enOf d16c 0):=fun q=>by
  unfold entryD;rw[pc];rfl
 rw[ec] at qc;have qd:=jbw (d:=d16d) pd g2 j16d;have ed:∀q,entryD d16d q=.ok (enOf d16d 0):=fun q=>by
  unfold entryD;rw[pd];rfl
 rw[ed] at qd;have qe:=jgx (d:=d16e) pe g3 j16e;have qf:=j9T (E:=nv14) (n:=60) (tot:=1000) (d:=d16f) pf g4;obtain⟨n1,c1,hE1,hA⟩:=j1k hE nv14_G (by omega) (by omega) (by omega) d16a va ka _ _ (fun e h=>by cases h) qa
 have hB:Pf _ _ _ _:=j1k hE nv14_G (by omega) (by omega) (by omega) d16b vb kb _ _ (fun e h=>by cases h;omega) qb
 have hC:=jay hE (by omega) (by omega) d16c vc kc _ _ qc
 have hD:Pf C1 _ _ _:=jm4 (n:=60) (tot:=1000) hE nv14_G (by omega) (by omega) [d16d,d16e] true 15 [vd,ve] (.inl rfl) (.cons kd (.cons ke .nil)) (by rw[hlen];simp) (none,1,18) (by
  unfold allF;rw[qd];dsimp only;unfold allF;rw[qe];rfl)
 have hF:=jay hE (by omega) (by omega) d16f vf kf _ _ qf
 have hH:=jct _ _ hE1 _ _ hvt;rw[hh2] at hH;have hL1:=jcL _ _ hE1;have hL0:=jcL _ _ hE;have hl1:(nv14.push (enOf d16a 2)).es.length=13:=by simp[Nv.push,hlen]
 rw[hl1] at hL1;rw[hlen] at hL0;have hw:EnP (enOf d16c 0) (encE (enOf d16c 0)):=by
  cases kc with
  |mk _ _ _ _ _ _ _ _ _ _ _ _ _ _ _ _ _ _ _ _ _ _ _ _ _ _ _ _ hty hvl _ _ _ hnm=>exact j5Z (jfQ (ht:=0) hty hvl hnm)
 obtain⟨tk,tn,ts,tb,tz',txs,tc,ty',tys,vk,vn,vs,vb2,vz,vxs,vc2,vy,vys,b9',z9,hE'⟩:=j4z hw;simp only[plV] at hC hF;rw[hE'] at hC;have k3:(enOf d16c 0).kind=3:=rfl;rw[k3] at hC;cases hvt.c;cases ka;cases kb;cases kc;cases kd;cases ke;cases kf;refine j00 Tryz.func22 rfl rfl rfl ?_;repeat'(first|refine gU ?_|apply gE<;>intro h|apply gM<;>intro h|refine gX hL ?_|refine jp2 ?_|refine gX fa ?_|refine gX fb ?_|refine gX fc ?_|refine gX fd ?_|refine gX fe ?_|refine gX ff ?_|refine gX hA ?_|refine gX hB ?_|refine gX hC ?_|refine gX hD ?_|refine gX hF ?_|refine gX rt ?_|refine gX hH ?_|refine gX hL1 ?_|refine gX hL0 ?_|apply gK)<;>conv=>whnf
 all_goals first|rfl|contradiction|(exfalso;omega)
end Go.Proofs.YtbnodhcijeaceaaGreatDoor
