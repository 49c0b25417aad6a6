/- Closed terms and entries, reckoned. -/
import Derived.Test.YtbnodhcijeaceaaGreatDoorZIr
set_option linter.all false
set_option maxRecDepth 1000000
namespace Go.Proofs.YtbnodhcijeaceaaGreatDoor
open Go Go.Am Go.Gw
mutual
def okLv:Lv→PV→Bool
 | .mk k n ls,.ag [.sc (.int .i64 a),.sc (.int .i64 b),.sl _ z xs]=>decide (a=k)&&(decide (b=n)&&((Nat.beq z 3||xs.isEmpty)&&ji0 ls xs))
 |_,_=>false
def ji0:List Lv→List PV→Bool
 |[],[]=>true
 |l::r,x::xs=>okLv l x&&ji0 r xs
 |_,_=>false
end
mutual
def okTm:Tm→PV→Bool
 | .mk k n s ls ts,.ag [.sc (.int .i64 a),.sc (.int .i64 b),.sc (.string u),.sl _ z xs,.sl _ y ys]=>decide (a=k)&&(decide (b=n)&&(decide (u.data.toList=s)&&((Nat.beq z 3||xs.isEmpty)&&(ji0 ls xs&&((Nat.beq y 5||ys.isEmpty)&&jlk ts ys)))))
 |_,_=>false
def jlk:List Tm→List PV→Bool
 |[],[]=>true
 |l::r,x::xs=>okTm l x&&jlk r xs
 |_,_=>false
end
mutual
def smLv:Lv→Bool
 | .mk _ _ ls=>Nat.ble ls.length 1000&&joH ls
def joH:List Lv→Bool
 |[]=>true
 |l::r=>smLv l&&joH r
end
mutual
def smTm:Tm→Bool
 | .mk _ n s ls ts=>decide (-1000000≤n∧n≤1000000)&&(Nat.ble s.length 1000&&(Nat.ble ls.length 1000&&(joH ls&&(Nat.ble ts.length 1000&&jqJ ts))))
def jqJ:List Tm→Bool
 |[]=>true
 |l::r=>smTm l&&jqJ r
end
variable{f:FuncId}{n:Nat}
theorem emp{xs:List PV}{z:Nat}(h:(Nat.beq z n||xs.isEmpty)=true):z=n∨xs=[]:=by
 rw[Bool.or_eq_true] at h;rcases h with h|h
 ·exact .inl (Nat.eq_of_beq_eq_true h)
 ·exact .inr (by simpa using h)
mutual
theorem jsD:∀{l:Lv}{v:PV},okLv l v=true→smLv l=true→LvP l v
 | .mk k n ls,v,h,hs=>by
  unfold okLv at h;split at h
  ·rename_i a b f z xs heq;cases heq;simp only[Bool.and_eq_true,decide_eq_true_eq] at h;obtain⟨rfl,rfl,h1,h2⟩:=h;simp only[smLv,Bool.and_eq_true] at hs;simp only[LvP];exact⟨_,_,_,rfl,emp h1,jeB h2 hs.2,Nat.le_trans (Nat.le_of_ble_eq_true hs.1) (by omega)⟩
  ·cases h
theorem jeB:∀{ls:List Lv}{xs:List PV},ji0 ls xs=true→joH ls=true→LvsP ls xs
 |[],[],_,_=>by simp only[LvsP]
 |[],_::_,h,_=>by simp[ji0] at h
 |_::_,[],h,_=>by simp[ji0] at h
 |l::r,x::xs,h,hs=>by
  simp only[ji0,Bool.and_eq_true] at h;simp only[joH,Bool.and_eq_true] at hs;simp only[LvsP];exact⟨_,_,rfl,jsD h.1 hs.1,jeB h.2 hs.2⟩
end
mutual
theorem jeC:∀{t:Tm}{v:PV},okTm t v=true→smTm t=true→TmP t v
 | .mk k n s ls ts,v,h,hs=>by
  unfold okTm at h;split at h
  ·rename_i a b u f z xs f2 y ys heq;cases heq;simp only[Bool.and_eq_true,decide_eq_true_eq] at h;obtain⟨rfl,rfl,rfl,h1,h2,h3,h4⟩:=h;simp only[smTm,Bool.and_eq_true,decide_eq_true_eq] at hs;obtain⟨s1,s2,s3,s4,s5,s6⟩:=hs;simp only[TmP];refine⟨f,z,xs,f2,y,ys,?_,emp h1,jeB h2 s4,Nat.le_trans (Nat.le_of_ble_eq_true s3) (by omega),emp h3,jjA h4 s6,Nat.le_trans (Nat.le_of_ble_eq_true s5) (by omega),Nat.le_trans (Nat.le_of_ble_eq_true s2) (by omega),by unfold i64;omega⟩
   rw[j9Y u]
  ·cases h
theorem jjA:∀{ls:List Tm}{xs:List PV},jlk ls xs=true→jqJ ls=true→TmsP ls xs
 |[],[],_,_=>by simp only[TmsP]
 |[],_::_,h,_=>by simp[jlk] at h
 |_::_,[],h,_=>by simp[jlk] at h
 |l::r,x::xs,h,hs=>by
  simp only[jlk,Bool.and_eq_true] at h;simp only[jqJ,Bool.and_eq_true] at hs;simp only[TmsP];exact⟨_,_,rfl,jeC h.1 hs.1,jjA h.2 hs.2⟩
end
def isTm(t:Tm)(r:Option (AEnd×Sto)):Bool:=match r with
 |some (.ret [v],_)=>okTm t v&&smTm t
 |_=>false
theorem j3t{t:Tm}{args:List PV}(h:isTm t ((ev C1 n).call f args [])=true):∃v,TmP t v∧Pf C1 f args [v]:=by
 unfold isTm at h;split at h
 ·rename_i v st hc;rw[Bool.and_eq_true] at h;exact⟨v,jeC h.1 h.2,joi n hc⟩
 ·cases h
def isTx(s:List UInt8)(r:Option (AEnd×Sto)):Bool:=match r with
 |some (.ret [.sc (.string u)],_)=>decide (u.data.toList=s)
 |_=>false
def vr(n:Int):Tm:=.mk 1 n [] [] []
def ap(a b:Tm):Tm:=.mk 4 0 [] [] [a,b]
def pi_(a b:Tm):Tm:=.mk 6 0 [] [] [a,b]
def cq(s:List UInt8):Tm:=.mk 3 0 s [] []
def okSs:List (List UInt8)→List PV→Bool
 |[],[]=>true
 |s::r,.sc (.string u)::xs=>decide (u.data.toList=s)&&okSs r xs
 |_,_=>false
theorem joe:∀{l:List (List UInt8)}{xs:List PV},okSs l xs=true→xs=svs l
 |[],[],_=>rfl
 |[],_::_,h=>by simp[okSs] at h
 |s::r,xs,h=>by
  unfold okSs at h;split at h
  ·rename_i heq;cases heq
  ·rename_i s' r' u xs' e1;cases e1;rw[Bool.and_eq_true,decide_eq_true_eq] at h;obtain⟨h1,h2⟩:=h;have h3:=joe h2;subst h3 h1;show PV.sc (.string u)::svs r=sv u.data.toList::svs r
   rw[j9Y u]
  ·cases h
def smEn(e:En):Bool:=smTm e.ty&&(smTm e.val&&(Nat.ble e.nm.length 1000&&(Nat.ble e.fam.length 1000&&(Nat.ble e.ctors.length 1000&&e.ctors.all fun s=>Nat.ble s.length 1000))))
def okEn(e:En):PV→Bool
 | .ag [.sc (.int .i64 a),.sc (.int .i64 p),.sc (.string u),t1,t2,t3,t4,t5,v1,v2,v3,v4,v5,.sc (.int .i64 hh),.sc (.string fa),.sc (.int .i64 fx),.sc (.int .i64 ix),.sc (.int .i64 fl),.sl b z cs]=>decide (a=e.kind∧p=e.pars∧u.data.toList=e.nm∧hh=e.ht∧fa.data.toList=e.fam∧fx=e.fixd∧ix=e.idx∧fl=e.flds)&&(okTm e.ty (.ag [t1,t2,t3,t4,t5])&&(okTm e.val (.ag [v1,v2,v3,v4,v5])&&(okSs e.ctors cs&&((Nat.beq z 1 && !e.ctors.isEmpty)||(e.ctors.isEmpty&&(b&&Nat.beq z 0))))))
 |_=>false
theorem jsC{e:En}{v:PV}(h:okEn e v=true)(hs:smEn e=true):EnP e v:=by
 unfold okEn at h;split at h
 ·rename_i a p u t1 t2 t3 t4 t5 v1 v2 v3 v4 v5 hh fa fx ix fl b z cs;simp only[Bool.and_eq_true,decide_eq_true_eq] at h;obtain⟨⟨rfl,rfl,h3,rfl,h5,rfl,rfl,rfl⟩,ht,hv,hc,hz⟩:=h;simp only[smEn,Bool.and_eq_true] at hs;obtain⟨s1,s2,s3,s4,s5,s6⟩:=hs;have ht:=jeC ht s1;have hv:=jeC hv s2;have ht':=ht;have hv':=hv;obtain⟨k1,n1,q1,l1,r1,b1,z1,x1,c1,y1,ys1,-,e1,-⟩:=ht'.open;obtain⟨k2,n2,q2,l2,r2,b2,z2,x2,c2,y2,ys2,-,e2,-⟩:=hv'.open;cases e1;cases e2;have hc:=joe hc;subst hc;refine⟨k1,n1,q1,b1,z1,x1,c1,y1,ys1,k2,n2,q2,b2,z2,x2,c2,y2,ys2,b,z,?_,ht,hv,?_,Nat.le_trans (Nat.le_of_ble_eq_true s3) (by omega),Nat.le_trans (Nat.le_of_ble_eq_true s4) (by omega),Nat.le_trans (Nat.le_of_ble_eq_true s5) (by omega),fun s hs=>Nat.le_trans (Nat.le_of_ble_eq_true (List.all_eq_true.1 s6 s hs)) (by omega)⟩
  ·rw[←h3,←h5,j9Y u,j9Y fa]
  ·rw[Bool.or_eq_true] at hz;simp only[Bool.and_eq_true] at hz;rcases hz with⟨a1,a2⟩|⟨a1,a2,a3⟩
   ·exact .inl ⟨Nat.eq_of_beq_eq_true a1,by simpa using a2⟩
   ·exact .inr ⟨by simpa using a1,a2,Nat.eq_of_beq_eq_true a3⟩
 ·cases h
def jlj:List En→List PV→Bool
 |[],[]=>true
 |e::r,x::xs=>(okEn e x&&smEn e)&&jlj r xs
 |_,_=>false
theorem jjz:∀{es:List En}{xs:List PV},jlj es xs=true→EnsP es xs
 |[],[],_=>rfl
 |[],_::_,h=>by simp[jlj] at h
 |_::_,[],h=>by simp[jlj] at h
 |e::r,x::xs,h=>by
  simp only[jlj,Bool.and_eq_true] at h;exact⟨_,_,rfl,jsC h.1.1 h.1.2,jjz h.2⟩
def jsr(es:List En)(r:Option (AEnd×Sto)):Bool:=match r with
 |some (.ret [.ms 0 n],[.row false T 19 xs])=>Nat.beq n es.length&&(Nat.beq T 51&&jlj es xs)
 |_=>false
theorem jpR{es:List En}(h:jsr es ((ev C1 n).call f [] [])=true):∃xs,EnsP es xs∧Finds C1 f [] [] fun r st=>r=.ret [.ms 0 es.length]∧st=[.row false 51 19 xs]:=by
 unfold jsr at h;split at h
 ·rename_i m T xs hc;rw[Bool.and_eq_true,Bool.and_eq_true] at h;have e1:=Nat.eq_of_beq_eq_true h.1;have e2:=Nat.eq_of_beq_eq_true h.2.1;subst e1 e2;exact⟨xs,jjz h.2.2,je9 n hc ⟨rfl,rfl⟩⟩
 ·cases h
def so_(l:Lv):Tm:=.mk 2 0 [] [l] []
def la_(a b:Tm):Tm:=.mk 5 0 [] [] [a,b]
def cl_(s:List UInt8)(l:Lv):Tm:=.mk 3 0 s [l] []
def lu:Lv:=.mk 2 0 []
def l1:Lv:=.mk 1 1 []
def l0:Lv:=.mk 1 0 []
def nNat:List UInt8:=[110,97,116]
def j6p:List UInt8:=[110,97,116,46,122,101,114,111]
def j7C:List UInt8:=[110,97,116,46,115,117,99,99]
def nRec:List UInt8:=[110,97,116,46,114,101,99]
def nAdd:List UInt8:=[97,100,100]
def nMul:List UInt8:=[109,117,108]
def tNat:Tm:=cq nNat
def jrP:Tm:=ap (ap (ap (ap (cl_ nRec lu) (vr 3)) (vr 2)) (vr 1)) (vr 0)
def jrI:Tm:=la_ tNat (la_ tNat (la_ tNat (vr 1)))
def jrE:Tm:=la_ tNat (la_ tNat (la_ tNat (la_ tNat (ap (ap (vr 1) (vr 0)) jrP))))
def jjw:Tm:=la_ tNat tNat
def jtx:Tm:=la_ tNat (la_ tNat (ap (cq j7C) (vr 0)))
def jt5:Tm:=la_ tNat (la_ tNat (ap (ap (ap (ap (cl_ nRec l1) jjw) (vr 1)) jtx) (vr 0)))
def jtv:Tm:=la_ tNat (la_ tNat (ap (ap (cq nAdd) (vr 0)) (vr 3)))
def jtw:Tm:=la_ tNat (la_ tNat (ap (ap (ap (ap (cl_ nRec l1) jjw) (cq j6p)) jtv) (vr 0)))
def jts:List En:=[⟨5,0,nNat,so_ l1,tz,0,[],0,0,0,[j6p,j7C]⟩,⟨6,0,j6p,tNat,jrI,0,nNat,0,0,0,[]⟩,⟨6,0,j7C,pi_ tNat tNat,jrE,0,nNat,0,1,1,[]⟩,⟨7,1,nRec,so_ lu,tz,0,nNat,0,0,0,[j6p,j7C]⟩,⟨2,0,nAdd,so_ l1,jt5,1,[],0,0,0,[]⟩,⟨2,0,nMul,so_ l1,jtw,2,[],0,0,0,[]⟩,⟨1,0,[107],tNat,tz,0,[],0,0,0,[]⟩]
theorem jq0:jsr jts ((ev C1 60).call 82 [] [])=true:=by kernel_rfl
theorem jnT:∃xs,EnsP jts xs∧Finds C1 82 [] [] fun r st=>r=.ret [.ms 0 7]∧st=[.row false 51 19 xs]:=jpR jq0
end Go.Proofs.YtbnodhcijeaceaaGreatDoor
