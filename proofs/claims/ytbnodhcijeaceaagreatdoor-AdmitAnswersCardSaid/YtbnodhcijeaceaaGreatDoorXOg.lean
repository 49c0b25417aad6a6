/- The law of ticks, walked. -/
import Derived.Test.YtbnodhcijeaceaaGreatDoorXOf
set_option linter.all false
set_option maxHeartbeats 8000000
set_option maxRecDepth 1000000
namespace Go.Proofs.YtbnodhcijeaceaaGreatDoor
open Go Go.Am Go.Gw
section
variable{E:Nv}{n:Nat}{d:Dc}{tot l:Int}
def jc0(h8:plain8 d=true)(hg:getR d.nm E.tr=none)(hj:j3v E n d tot=some (.ok (),l)):j2T E n d tot=some (entryD d (j2l E d.vl+1),tot-l):=by
 unfold j2T;rw[h8,hg];dsimp only;rw[hj]
def jgR{e:Int}(h8:plain8 d=true)(hg:getR d.nm E.tr=none)(hj:j3v E n d tot=some (.error e,l)):j2T E n d tot=some (.error e,tot-l):=by
 unfold j2T;rw[h8,hg];dsimp only;rw[hj]
def jgS{i:Int}(h8:plain8 d=true)(hg:getR d.nm E.tr=some i):j2T E n d tot=some (.error 14,0):=by
 unfold j2T;rw[h8,hg]
end
def d16a:Dc:=⟨2,0,nTwo,tNat,ap (ap (cq nAdd) (cq [107])) (cq [107]),0,[]⟩
def d16b:Dc:=⟨3,0,nTwo,tNat,cq [107],0,[]⟩
def d16c:Dc:=⟨3,0,nTwo,cq [112],cq [104],0,[]⟩
def d16d:Dc:=⟨4,0,[111],tNat,cq [107],0,[]⟩
def d16e:Dc:=⟨2,0,[116],cq [112],cq [107],0,[]⟩
def d16f:Dc:=⟨3,0,[104],cq [112],cq [104],0,[]⟩
def j16a:j3v nv14 60 d16a 1000=some (.ok (),987):=by kernel_rfl
def j16b:j3v nv14 60 d16b 1000=some (.error 19,998):=by kernel_rfl
def j16c:j3v nv14 60 d16c 1000=some (.ok (),995):=by kernel_rfl
def j16d:j3v nv14 60 d16d 1000=some (.ok (),995):=by kernel_rfl
def j16e:j3v (nv14.push (enOf d16d 0)) 60 d16e 1000=some (.error 18,991):=by kernel_rfl
def w16:(plain8 d16a&&plain8 d16b&&plain8 d16c&&plain8 d16d&&plain8 d16e&&plain8 d16f&&(getR nTwo nv14.tr).isNone&&(getR [111] nv14.tr).isNone&&(getR [116] (nv14.push (enOf d16d 0)).tr).isNone&&(getR [104] nv14.tr).isSome&&decide (j2l nv14 d16a.vl+1=2)&&decide (j2l (nv14.push (enOf d16a 2)) (cq nTwo)=2)&&Nat.beq nv14.es.length 12)=true:=by kernel_rfl
variable{cs:List PV}{x y:Operand}
def evEq:j0i C1.P .eql 54 x y (.cp cs) nilP=some (bv false):=by kernel_rfl
def evNe:j0i C1.P .neq 54 x y (.cp cs) nilP=some (bv true):=by kernel_rfl
def jtI{op:BinOp}{K:PV→Prop}(h:jqY op false K):VRes (j0i C1.P op 54 x y (.cp cs) nilP) K:=by
 cases op with
 |eql=>exact⟨_,evEq,h⟩
 |neq=>exact⟨_,evNe,h⟩
 |_=>exact h.elim
def jhC:Pf C1 22 [] [bv true]:=by
 have w:=w16;simp only[AB,decide_eq_true_eq,Option.isNone_iff_eq_none,Option.isSome_iff_exists] at w;obtain⟨⟨⟨⟨⟨⟨⟨⟨⟨⟨⟨⟨pa,pb⟩,pc⟩,pd⟩,pe⟩,pf⟩,g1⟩,g2⟩,g3⟩,⟨i4,g4⟩⟩,qD⟩,wC⟩,hlen⟩:=w;have hlen:=AH hlen;obtain⟨cs,hE,hL⟩:=jgE;have rn:=j4l jmb;have rk:=j4l jrl;have rp:=j4l jrm;have rh:=j4l jrk;have ra:=j4l jma;obtain⟨vt,qA,rt⟩:=j4l jmc;have i2:i64 2:=by unfold i64;omega
 have i3:i64 3:=by unfold i64;omega
 have i4':i64 4:=by unfold i64;omega
 obtain⟨va,ka,fa⟩:=j4S 2 i2 nTwo _ _ _ _ rn ra (by decide)
 obtain⟨vb,kb,fb⟩:=j4S 3 i3 nTwo _ _ _ _ rn rk (by decide)
 obtain⟨vc,kc,fc⟩:=j4S 3 i3 nTwo _ _ _ _ rp rh (by decide)
 obtain⟨vd,kd,fd⟩:=j4S 4 i4' [111] _ _ _ _ rn rk (by decide)
 obtain⟨ve,ke,fe⟩:=j4S 2 i2 [116] _ _ _ _ rp rk (by decide)
 obtain⟨vf,kf,ff⟩:=j4S 3 i3 [104] _ _ _ _ rp rh (by decide)
 have qa:=jc0 (d:=d16a) pa g1 j16a;have ea:entryD d16a (j2l nv14 d16a.vl+1)=.ok (enOf d16a 2):=by
  rw[qD];unfold entryD;rw[pa];rfl
 rw[ea] at qa;have qb:=jgR (d:=d16b) pb g1 j16b;have qc:=jc0 (d:=d16c) pc g1 j16c;have ec:∀q,entryD d16c q=.ok (enOf d16c 0):=fun q=>by
  unfold entryD;rw[pc];rfl
 rw[ec] at qc;have qd:=jc0 (d:=d16d) pd g2 j16d;have ed:∀q,entryD d16d q=.ok (enOf d16d 0):=fun q=>by
  unfold entryD;rw[pd];rfl
 rw[ed] at qd;have qe:=jgR (d:=d16e) pe g3 j16e;have qf:=jgS (E:=nv14) (n:=60) (tot:=1000) (d:=d16f) pf g4;obtain⟨n1,c1,qB,hA⟩:=j6r hE nv14_G (by omega) (by omega) (by omega) d16a va ka _ _ (fun e h=>by cases h) qa
 have hB:Pf _ _ _ _:=j6r hE nv14_G (by omega) (by omega) (by omega) d16b vb kb _ _ (fun e h=>by cases h;omega) qb
 have hC:=j8k hE (by omega) (by omega) d16c vc kc _ _ qc
 have hD:Pf C1 _ _ _:=jss (n:=60) (tot:=1000) hE nv14_G (by omega) (by omega) [d16d,d16e] true 15 [vd,ve] (.inl rfl) (.cons kd (.cons ke .nil)) (by rw[hlen];simp) (none,1,18) (by
  unfold allF;rw[qd];dsimp only;unfold allF;rw[qe];rfl)
 have hF:=j8k hE (by omega) (by omega) d16f vf kf _ _ qf
 have hH:=jcV _ _ qB _ _ qA;rw[wC] at hH;have gA:=jdg _ _ qB;have wA:=jdg _ _ hE;have gC:(nv14.push (enOf d16a 2)).es.length=13:=by simp[Nv.push,hlen]
 rw[gC] at gA;rw[hlen] at wA;have hw:EnP (enOf d16c 0) (encE (enOf d16c 0)):=by
  cases kc with
  |mk _ _ _ _ _ _ _ _ _ _ _ _ _ _ _ _ _ _ _ _ _ _ _ _ _ _ _ _ wB gB _ _ _ qC=>exact j5H (jdd (ht:=0) wB gB qC)
 obtain⟨tk,tn,ts,tb,tz',txs,tc,ty',tys,vk,vn,vs,vb2,vz,vxs,vc2,vy,vys,b9',z9,gD⟩:=j4h hw;simp only[plV] at hC hF;rw[gD] at hC;have k3:(enOf d16c 0).kind=3:=rfl;rw[k3] at hC;cases qA.c;cases ka;cases kb;cases kc;cases kd;cases ke;cases kf;refine gR Tryz.func22 ?_;repeat'(first|refine gU ?_|apply gE<;>intro h|apply gM<;>intro h|refine gX hL ?_|refine jtI ?_|refine gX fa ?_|refine gX fb ?_|refine gX fc ?_|refine gX fd ?_|refine gX fe ?_|refine gX ff ?_|refine gX hA ?_|refine gX hB ?_|refine gX hC ?_|refine gX hD ?_|refine gX hF ?_|refine gX rt ?_|refine gX hH ?_|refine gX gA ?_|refine gX wA ?_|apply gK)<;>conv=>whnf
 all_goals first|rfl|contradiction|(exfalso;omega)
