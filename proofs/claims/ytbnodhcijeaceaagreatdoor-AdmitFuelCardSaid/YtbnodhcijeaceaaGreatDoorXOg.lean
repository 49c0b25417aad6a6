/- The law of ticks, walked. -/
import Derived.Test.YtbnodhcijeaceaaGreatDoorXOf
set_option linter.all false
set_option maxHeartbeats 8000000
set_option maxRecDepth 1000000
namespace Go.Proofs.YtbnodhcijeaceaaGreatDoor
open Go Go.Am Go.Gw
section
variable{E:Nv}{n:Nat}{d:Dc}{tot l:Int}
theorem jbm(h8:plain8 d=true)(hg:getR d.nm E.tr=none)(hj:j2z E n d tot=some (.ok (),l)):j1w E n d tot=some (entryD d (j3V E d.vl+1),tot-l):=by
 unfold j1w;rw[h8,hg];dsimp only;rw[hj]
theorem jgm{e:Int}(h8:plain8 d=true)(hg:getR d.nm E.tr=none)(hj:j2z E n d tot=some (.error e,l)):j1w E n d tot=some (.error e,tot-l):=by
 unfold j1w;rw[h8,hg];dsimp only;rw[hj]
theorem jgn{i:Int}(h8:plain8 d=true)(hg:getR d.nm E.tr=some i):j1w E n d tot=some (.error 14,0):=by
 unfold j1w;rw[h8,hg]
end
def d16a:Dc:=⟨2,0,nTwo,tNat,ap (ap (cq nAdd) (cq [107])) (cq [107]),0,[]⟩
def d16b:Dc:=⟨3,0,nTwo,tNat,cq [107],0,[]⟩
def d16c:Dc:=⟨3,0,nTwo,cq [112],cq [104],0,[]⟩
def d16d:Dc:=⟨4,0,[111],tNat,cq [107],0,[]⟩
def d16e:Dc:=⟨2,0,[116],cq [112],cq [107],0,[]⟩
def d16f:Dc:=⟨3,0,[104],cq [112],cq [104],0,[]⟩
theorem j16a:j2z nv14 60 d16a 1000=some (.ok (),987):=by kernel_rfl
theorem j16b:j2z nv14 60 d16b 1000=some (.error 19,998):=by kernel_rfl
theorem j16c:j2z nv14 60 d16c 1000=some (.ok (),995):=by kernel_rfl
theorem j16d:j2z nv14 60 d16d 1000=some (.ok (),995):=by kernel_rfl
theorem j16e:j2z (nv14.push (enOf d16d 0)) 60 d16e 1000=some (.error 18,991):=by kernel_rfl
theorem w16:(plain8 d16a&&plain8 d16b&&plain8 d16c&&plain8 d16d&&plain8 d16e&&plain8 d16f&&(getR nTwo nv14.tr).isNone&&(getR [111] nv14.tr).isNone&&(getR [116] (nv14.push (enOf d16d 0)).tr).isNone&&(getR [104] nv14.tr).isSome&&decide (j3V nv14 d16a.vl+1=2)&&decide (j3V (nv14.push (enOf d16a 2)) (cq nTwo)=2)&&Nat.beq nv14.es.length 12)=true:=by kernel_rfl
variable{cs:List PV}{x y:Operand}
theorem evEq:j0j C1.P .eql 54 x y (.cp cs) nilP=some (bv false):=by kernel_rfl
theorem evNe:j0j C1.P .neq 54 x y (.cp cs) nilP=some (bv true):=by kernel_rfl
theorem jsI{op:BinOp}{K:PV→Prop}(h:jso op false K):VRes (j0j C1.P op 54 x y (.cp cs) nilP) K:=by
 cases op with
 |eql=>exact⟨_,evEq,h⟩
 |neq=>exact⟨_,evNe,h⟩
 |_=>exact h.elim
theorem jh3:Pf C1 22 [] [bv true]:=by
 have w:=w16;simp only[Bool.and_eq_true,decide_eq_true_eq,Option.isNone_iff_eq_none,Option.isSome_iff_exists] at w;obtain⟨⟨⟨⟨⟨⟨⟨⟨⟨⟨⟨⟨pa,pb⟩,pc⟩,pd⟩,pe⟩,pf⟩,g1⟩,g2⟩,g3⟩,⟨i4,g4⟩⟩,hh1⟩,hh2⟩,hlen⟩:=w;have hlen:=Nat.eq_of_beq_eq_true hlen;obtain⟨cs,hE,hL⟩:=jg7;have rn:=j3W jlq;have rk:=j3W jqm;have rp:=j3W jqn;have rh:=j3W jql;have ra:=j3W jlp;obtain⟨vt,hvt,rt⟩:=j3W jlr;have i2:i64 2:=by unfold i64;omega
 have i3:i64 3:=by unfold i64;omega
 have i4':i64 4:=by unfold i64;omega
 obtain⟨va,ka,fa⟩:=j4A 2 i2 nTwo _ _ _ _ rn ra (by decide)
 obtain⟨vb,kb,fb⟩:=j4A 3 i3 nTwo _ _ _ _ rn rk (by decide)
 obtain⟨vc,kc,fc⟩:=j4A 3 i3 nTwo _ _ _ _ rp rh (by decide)
 obtain⟨vd,kd,fd⟩:=j4A 4 i4' [111] _ _ _ _ rn rk (by decide)
 obtain⟨ve,ke,fe⟩:=j4A 2 i2 [116] _ _ _ _ rp rk (by decide)
 obtain⟨vf,kf,ff⟩:=j4A 3 i3 [104] _ _ _ _ rp rh (by decide)
 have qa:=jbm (d:=d16a) pa g1 j16a;have ea:entryD d16a (j3V nv14 d16a.vl+1)=.ok (enOf d16a 2):=by
  rw[hh1];unfold entryD;rw[pa];rfl
 rw[ea] at qa;have qb:=jgm (d:=d16b) pb g1 j16b;have qc:=jbm (d:=d16c) pc g1 j16c;have ec:∀q,entryD d16c q=.ok (enOf d16c 0):=fun q=>by
  unfold entryD;rw[pc];rfl
 rw[ec] at qc;have qd:=jbm (d:=d16d) pd g2 j16d;have ed:∀q,entryD d16d q=.ok (enOf d16d 0):=fun q=>by
  unfold entryD;rw[pd];rfl
 rw[ed] at qd;have qe:=jgm (d:=d16e) pe g3 j16e;have qf:=jgn (E:=nv14) (n:=60) (tot:=1000) (d:=d16f) pf g4;obtain⟨n1,c1,hE1,hA⟩:=j5U hE nv14_G (by omega) (by omega) (by omega) d16a va ka _ _ (fun e h=>by cases h) qa
 have hB:Pf _ _ _ _:=j5U hE nv14_G (by omega) (by omega) (by omega) d16b vb kb _ _ (fun e h=>by cases h;omega) qb
 have hC:=j5S hE (by omega) (by omega) d16c vc kc _ _ qc
 have hD:Pf C1 _ _ _:=jru (n:=60) (tot:=1000) hE nv14_G (by omega) (by omega) [d16d,d16e] true 15 [vd,ve] (.inl rfl) (.cons kd (.cons ke .nil)) (by rw[hlen];simp) (none,1,18) (by
  unfold allF;rw[qd];dsimp only;unfold allF;rw[qe];rfl)
 have hF:=j5S hE (by omega) (by omega) d16f vf kf _ _ qf
 have hH:=jci _ _ hE1 _ _ hvt;rw[hh2] at hH;have hL1:=jcB _ _ hE1;have hL0:=jcB _ _ hE;have hl1:(nv14.push (enOf d16a 2)).es.length=13:=by simp[Nv.push,hlen]
 rw[hl1] at hL1;rw[hlen] at hL0;have hw:EnP (enOf d16c 0) (encE (enOf d16c 0)):=by
  cases kc with
  |mk _ _ _ _ _ _ _ _ _ _ _ _ _ _ _ _ _ _ _ _ _ _ _ _ _ _ _ _ hty hvl _ _ _ hnm=>exact j5n (jcz (ht:=0) hty hvl hnm)
 obtain⟨tk,tn,ts,tb,tz',txs,tc,ty',tys,vk,vn,vs,vb2,vz,vxs,vc2,vy,vys,b9',z9,hE'⟩:=j4B hw;simp only[plV] at hC hF;rw[hE'] at hC;have k3:(enOf d16c 0).kind=3:=rfl;rw[k3] at hC;cases hvt.c;cases ka;cases kb;cases kc;cases kd;cases ke;cases kf;refine j00 Tryz.func22 rfl rfl rfl ?_;repeat'(first|refine gU ?_|apply gE<;>intro h|apply gM<;>intro h|refine gX hL ?_|refine jsI ?_|refine gX fa ?_|refine gX fb ?_|refine gX fc ?_|refine gX fd ?_|refine gX fe ?_|refine gX ff ?_|refine gX hA ?_|refine gX hB ?_|refine gX hC ?_|refine gX hD ?_|refine gX hF ?_|refine gX rt ?_|refine gX hH ?_|refine gX hL1 ?_|refine gX hL0 ?_|apply gK)<;>conv=>whnf
 all_goals first|rfl|contradiction|(exfalso;omega)
theorem jjw{E:Nv}{n:Nat}{tot u:Int}{d:Dc}{v:PV}{r:Except Int En}(h:DcP d v)(hx:j1w E n d tot=some (r,u))(hz:∀e,r=.error e→¬e=0):∃en w e,plV r u=[w,iv u,iv e]∧EnP en w∧(e=22→r=.error 22)∧(r=.error 22→e=22):=by
 cases r with
 |error e=>exact⟨enz,.ag zEn,e,rfl,jrX,fun h=>by rw[h],fun h=>by cases h;rfl⟩
 |ok e=>
  refine⟨e,encE e,0,rfl,?_,fun h=>by omega,fun h=>by cases h⟩
  obtain⟨q,rfl⟩:∃q,e=enOf d q:=by
   unfold j1w at hx;split at hx
   ·cases hx
   split at hx
   ·cases hx
   split at hx
   ·cases hx
   ·cases hx
   ·simp only[Option.some.injEq,Prod.mk.injEq] at hx;exact j7Z hx.1
  cases h with
  |mk _ _ _ _ _ _ _ _ _ _ _ _ _ _ _ _ _ _ _ _ _ _ _ _ _ _ _ _ hty hvl _ _ _ hnm=>exact j5n (jcz (ht:=q) hty hvl hnm)
theorem jdy(d:Dc)(v:PV)(h:DcP d v)(fuel more:Int):Pf C1 5 [v,iv fuel,iv more] [bv true]:=by
 have ha:=jh3;obtain⟨q,hg⟩:=jhF d v h
 by_cases hb:0≤fuel∧fuel≤1000∧0≤more∧more≤1000
 rotate_left
 ·cases h;refine j00 Tryz.func5 rfl rfl rfl ?_;repeat'(first|refine gU ?_|apply gE<;>intro h|apply gM<;>intro h|refine gX ha ?_|refine gX hg ?_|apply gK)<;>conv=>whnf
  all_goals first|rfl|(exfalso;omega)
 obtain⟨f0,f1,m0,m1⟩:=hb;obtain⟨cs,hE,hL⟩:=jg7;obtain⟨n,r,u,r2,u2,x1,x2,d0,d1,d2,d3,z1,z2,d4⟩:=jdz nv14_G.ok d fuel more f0 m0;have p1:=j5S hE f0 (by omega) d v h r u x1
 have p2:=j5S hE (tot:=fuel+more) (by omega) (by omega) d v h r2 u2 x2
 obtain⟨e1,w1,k1,o1,o2,o3,o4⟩:=jjw h x1 z1;obtain⟨e2,w2,k2,o5,o6,o7,o8⟩:=jjw h x2 z2;rw[o1] at p1;rw[o5] at p2;rcases d4 with d4|⟨d4,d5⟩
 ·obtain rfl:=o4 d4;obtain⟨a1,a2,a3,a4,a5,a6,a7,a8,a9,a10,a11,a12,a13,a14,a15,a16,a17,a18,a19,a20,rfl,-⟩:=o2;obtain⟨b1,b2,b3,b4,b5,b6,b7,b8,b9,b10,b11,b12,b13,b14,b15,b16,b17,b18,b19,b20,rfl,-⟩:=o6;cases h;have hS:True:=trivial;refine j00 Tryz.func5 rfl rfl rfl ?_;repeat'(first|refine gU ?_|apply gE<;>intro h|apply gM<;>intro h|refine gX ha ?_|refine gX hg ?_|refine gX hL ?_|refine gX p1 ?_|refine gX p2 ?_|refine j01 hL fun _=>?_|refine j01 p1 fun _=>?_|refine j01 p2 fun _=>?_|refine gX hS ?_|apply gK)<;>conv=>whnf
  all_goals first|rfl|contradiction|(exfalso;omega)|skip
 ·subst d4 d5;rw[o1] at o5;cases o5;have hS:=jeH _ _ _ o2 o2;obtain⟨a1,a2,a3,a4,a5,a6,a7,a8,a9,a10,a11,a12,a13,a14,a15,a16,a17,a18,a19,a20,rfl,-⟩:=o2;have kk:k1=k1:=rfl;have uu:u2=u2:=rfl;cases h;refine j00 Tryz.func5 rfl rfl rfl ?_;repeat'(first|refine gU ?_|apply gE<;>intro h|apply gM<;>intro h|refine gX ha ?_|refine gX hg ?_|refine gX hL ?_|refine gX p1 ?_|refine gX p2 ?_|refine j01 hL fun _=>?_|refine j01 p1 fun _=>?_|refine j01 p2 fun _=>?_|refine gX hS ?_|apply gK)<;>conv=>whnf
  all_goals first|rfl|contradiction|(exfalso;omega)|skip
end Go.Proofs.YtbnodhcijeaceaaGreatDoor
