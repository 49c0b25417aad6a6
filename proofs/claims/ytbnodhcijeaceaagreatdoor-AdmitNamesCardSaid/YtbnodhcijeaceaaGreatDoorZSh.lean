/- Plain functions of package term: counting, being right, the spine. -/
import Derived.Test.YtbnodhcijeaceaaGreatDoorZTm
import Derived.Lib.Join
import Derived.Test.YtbnodhcijeaceaaGreatDoorZSo
set_option linter.all false
namespace Go.Gw
open Go
def Tm.kind:Tm→Int | .mk k _ _ _ _=>k
def Tm.num:Tm→Int | .mk _ n _ _ _=>n
def Tm.name:Tm→List UInt8 | .mk _ _ s _ _=>s
def Tm.levels:Tm→List Lv | .mk _ _ _ ls _=>ls
def Tm.args:Tm→List Tm | .mk _ _ _ _ ts=>ts
def Tm.zero:Tm:=.mk 0 0 [] [] []
mutual
def cntT:Tm→Int→Int
 | .mk _ _ _ ls ts,left=>j5h ts (j0z ls (left-1))
def j5h:List Tm→Int→Int
 |[],left=>left
 |t::r,left=>if left<0 then left else j5h r (cntT t left)
end
def j0v(t:Tm):Int:=2000-max (cntT t 2000) (-1)
mutual
theorem jdX:∀(t:Tm) (left:Int),0≤left→-1≤cntT t left∧cntT t left≤left
 | .mk _ _ _ ls ts,left,h=>by
  simp only[cntT];have h1:=j4x ls (left-1) (by omega)
  have h2:=jiU ts (j0z ls (left-1)) h1.1;omega
theorem jiU:∀(ts:List Tm) (left:Int),-1≤left→-1≤j5h ts left∧j5h ts left≤left
 |[],left,h=>by simp only[j5h];omega
 |t::r,left,h=>by
  simp only[j5h];split
  ·omega
  ·have h1:=jdX t left (by omega)
   have h2:=jiU r (cntT t left) (by omega)
   omega
end
theorem j4w(ts:List Tm)(left:Int)(h:left<0):j5h ts left=left:=by
 cases ts<;>simp[j5h,h]
def j1f(k:Int):Int:=if k=4∨k=5∨k=6 then 2 else if k=7 then 3 else 0
def j0O(k:Int):Int:=if k=2 then 1 else 0
def j0g(k:Int):Int:=if k=0 then 0 else if k=5∨k=6 then 1 else if k=7 then 2 else -1
def j0k(binds at_ deep:Int):Int:=if at_=binds then deep+1 else deep
def jbu(c:UInt8):Bool:=(97≤c&&c≤122)||(48≤c&&c≤57)||c == 95
def j7e(s:List UInt8):Bool:=match s with
 |[]=>false
 |c::r=>!(48≤c&&c≤57)&&(c::r).all jbu
def j2Z:List UInt8→List UInt8→List (List UInt8)
 |acc,[]=>[acc.reverse]
 |acc,c::r=>if c == 46 then acc.reverse::j2Z [] r else j2Z (c::acc) r
def j4R(s:List UInt8):List (List UInt8):=j2Z [] s
def j2G(s:List UInt8):Bool:=decide (s.length≤40)&&(j4R s).all j7e
def j3W:Tm→Int→Bool
 | .mk k n s ls _,kk=>if k=1 then decide (0≤n)&&(decide (n<kk)&&(s == []&&decide (ls.length=0))) else if k=3 then decide (n=0)&&(j2G s&&decide (ls.length≤4)) else decide (n=0)&&(s == []&&decide ((ls.length:Int)=j0O k))
def j1F:List Lv→Int→Bool
 |[],_=>true
 |l::r,p=>j0x l p&&j1F r p
mutual
def allT:Tm→Int→Int→Bool
 | .mk k n s ls ts,p,kk=>(decide (1≤k)&&decide (k≤7))&&(decide ((ts.length:Int)=j1f k)&&(j3W (.mk k n s ls ts) kk&&(j1F ls p&&j0T ts k 0 p kk)))
def j0T:List Tm→Int→Int→Int→Int→Bool
 |[],_,_,_,_=>true
 |t::r,k,i,p,kk=>allT t p (j0k (j0g k) i kk)&&j0T r k (i+1) p kk
end
def j0w(t:Tm)(p kk:Int):Bool:=decide (0≤p)&&(decide (p≤4)&&(decide (0≤kk)&&(decide (j0v t≤2000)&&allT t p (min kk 1125899906842624))))
mutual
def depT:Tm→Nat
 | .mk _ _ _ _ ts=>jch ts+1
def jch:List Tm→Nat
 |[]=>0
 |t::r=>max (depT t) (jch r)
end
theorem j7W:∀{ts:List Tm}{t:Tm},t∈ts→depT t≤jch ts
 |x::r,t,h=>by
  rw[jch];rcases List.mem_cons.1 h with rfl|h
  ·omega
  ·have:=j7W h;omega
mutual
theorem jiS:∀(t:Tm) (left:Int),0≤left→0≤cntT t left→(depT t:Int)≤left
 | .mk _ _ _ ls ts,left,h,hc=>by
  simp only[cntT] at hc;rw[depT];have h1:=j4x ls (left-1) (by omega)
  have h2:=jfF ts (j0z ls (left-1)) h1.1 hc;omega
theorem jfF:∀(ts:List Tm) (left:Int),-1≤left→0≤j5h ts left→(jch ts:Int)≤left
 |[],left,h,hc=>by simp only[j5h] at hc;simp[jch,hc]
 |t::r,left,h,hc=>by
  simp only[j5h] at hc;split at hc
  ·omega
  ·rename_i h0;have h1:=jdX t left (by omega)
   have h2:=jfF r (cntT t left) (by omega) hc
   have h3:0≤cntT t left:=by
    by_cases h4:cntT t left<0
    ·rw[j4w r _ h4] at hc;omega
    ·omega
   have h4:=jiS t left (by omega) h3
   rw[jch];omega
end
theorem jgs{t:Tm}(h:j0v t≤2000):depT t≤2000:=by
 unfold j0v at h;have:=jiS t 2000 (by omega) (by omega)
 omega
def jtL:Tm→List Tm→Tm×List Tm
 | .mk 4 n s ls [f,x],acc=>jtL f (x::acc)
 |t,acc=>(t,acc)
open Go
def j7l(parts:List (List UInt8)):List UInt8:=[40]++Lib.join parts [32]++[41]
def joG(k:Int):List UInt8:=if k=3 then[43] else if k=4 then[124] else if k=5 then[63] else[]
def jmt(k:Int):List UInt8:=if k=5 then[92] else if k=6 then[62] else if k=7 then[61] else[]
mutual
def j6m:Lv→List UInt8
 | .mk k n ls=>if k=1 then Lib.itoa n else if k=2 then[117]++Lib.itoa n else j7l (joG k::j3V ls)
def j3V:List Lv→List (List UInt8)
 |[]=>[]
 |l::r=>j6m l::j3V r
end
def jtr(l:Lv):List UInt8:=if j0x l 4=true then j6m l else[]
mutual
def txT:Tm→List UInt8×List (List UInt8)
 | .mk k n s ls ts=>
  let cs:=txTs ts
  if k=4 then
   let parts:=(cs.getD 0 ([],[])).2++[(cs.getD 1 ([],[])).1]
   (j7l parts,parts)
  else
   let t:=if k=1 then[35]++Lib.itoa n else if k=2 then j7l [[42],j6m (ls.getD 0 (.mk 0 0 []))] else if k=3 then(if ls.length=0 then s else j7l ([64]::s::j3V ls)) else j7l (jmt k::cs.map (·.1))
   (t,[t])
def txTs:List Tm→List (List UInt8×List (List UInt8))
 |[]=>[]
 |t::r=>txT t::txTs r
end
def jtX(t:Tm):List UInt8:=if j0w t 4 1125899906842624=true then(txT t).1 else[]
def ju9(c:UInt8):Bool:=c == 32||c == 40||c == 41
def jlZ:List UInt8→List UInt8×List UInt8
 |[]=>([],[])
 |c::r=>if ju9 c then([],c::r) else((c::(jlZ r).1),(jlZ r).2)
def numF(s:List UInt8):Option Int:=if s=[] then none else if s.length≤18∧s.all (fun c=>48≤c&&c≤57) then some (s.foldl (fun a c=>a*10+((c.toNat:Int)-48)) 0) else none
def jun(s:List UInt8):Int:=if s=[43] then 3 else if s=[124] then 4 else if s=[63] then 5 else 0
mutual
def jrA:Nat→List UInt8→Option (Lv×List UInt8)
 |0,_=>none
 |fuel+1,s=>match s with
  |[]=>none
  |40::r=>
   let w:=jlZ r
   match ji9 fuel w.2 with
   |some (ls,41::r')=>some (.mk (jun w.1) 0 ls,r')
   |_=>none
  |s=>
   let w:=jlZ s
   match w.1 with
   |117::d=>(numF d).map fun n=>(.mk 2 n [],w.2)
   |d=>(numF d).map fun n=>(.mk 1 n [],w.2)
def ji9:Nat→List UInt8→Option (List Lv×List UInt8)
 |0,_=>none
 |fuel+1,s=>match s with
  |32::r=>match jrA fuel r with
   |some (l,r')=>(ji9 fuel r').map fun p=>(l::p.1,p.2)
   |none=>none
  |s=>some ([],s)
end
def jmu(s:List UInt8):Int:=if s=[92] then 5 else if s=[62] then 6 else if s=[61] then 7 else 0
def appF(f:Tm):List Tm→Tm
 |[]=>f
 |x::r=>appF (.mk 4 0 [] [] [f,x]) r
mutual
def joq:Nat→List UInt8→Option (Tm×List UInt8)
 |0,_=>none
 |fuel+1,s=>match s with
  |[]=>none
  |40::r=>match jtG fuel r with
   |some (t,41::r')=>some (t,r')
   |_=>none
  |s=>
   let w:=jlZ s
   match w.1 with
   |35::d=>(numF d).map fun n=>(.mk 1 n [] [] [],w.2)
   |d=>some (.mk 3 0 d [] [],w.2)
def jtG:Nat→List UInt8→Option (Tm×List UInt8)
 |0,_=>none
 |fuel+1,s=>match s with
  |42::32::r=>(jrA fuel r).map fun p=>(.mk 2 0 [] [p.1] [],p.2)
  |64::32::r=>let w:=jlZ r
   (ji9 fuel w.2).map fun p=>(.mk 3 0 w.1 p.1 [],p.2)
  |c::32::r=>if jmu [c]=0 then(match joq fuel (c::32::r) with
    |some (t,r')=>(jeO fuel r').map fun p=>(appF t p.1,p.2)
    |none=>none)
   else(jeO fuel (32::r)).map fun p=>(.mk (jmu [c]) 0 [] [] p.1,p.2)
  |s=>match joq fuel s with
    |some (t,r')=>(jeO fuel r').map fun p=>(appF t p.1,p.2)
    |none=>none
def jeO:Nat→List UInt8→Option (List Tm×List UInt8)
 |0,_=>none
 |fuel+1,s=>match s with
  |32::r=>match joq fuel r with
   |some (t,r')=>(jeO fuel r').map fun p=>(t::p.1,p.2)
   |none=>none
  |s=>some ([],s)
end
open Go
theorem j9n:∀ls:List Lv,j3V ls=ls.map j6m
 |[]=>rfl
 |l::r=>by rw[j3V,j9n r];rfl
theorem jg8(xs:List (List UInt8)):(j7l xs).length=(Lib.join xs [32]).length+2:=by simp[j7l]
theorem jpk{k n:Int}{ls:List Lv}(h:allF (.mk k n ls) 4=true)(h1:¬k=1)(h2:¬k=2):(3≤k∧k≤5)∧0<ls.length∧ls.length≤2:=by
 rw[allF,Bool.and_eq_true] at h;have h:=h.1;rw[ja4] at h;split at h
 ·rename_i hw;unfold jh5 at hw;split at hw<;>(try split at hw)<;>(try split at hw)<;>(try split at hw)<;>omega
 ·cases h
mutual
theorem jnW:∀(l:Lv),allF l 4=true→(j6m l).length≤30*j0M l
 | .mk k n ls,h=>by
  have h0:=h;rw[allF,Bool.and_eq_true] at h;rw[j6m,j0M]
  by_cases h1:k=1
  ·subst h1;rw[if_pos rfl];have hn:0≤n∧n≤100:=by
    have h:=h.1;rw[ja4] at h;split at h<;>simp at h
    exact h
   have:=Lib.itoa_length_le n (by omega) (by omega)
   omega
  ·rw[if_neg h1]
   by_cases h2:k=2
   ·subst h2;rw[if_pos rfl];have hn:0≤n∧n<4:=by
     have h:=h.1;rw[ja4] at h;split at h<;>simp at h
     exact h
    have:=Lib.itoa_length_le n (by omega) (by omega)
    simp;omega
   ·rw[if_neg h2];have hk:=jpk h0 h1 h2;have hs:=jd6 ls h.2;have h3:(joG k).length≤1:=by unfold joG;split<;>(try split)<;>(try split)<;>simp
    rw[jg8,Lib.join_length,j9n];rw[j9n] at hs;have h4:Lib.lens (joG k::ls.map j6m)=(joG k).length+Lib.lens (ls.map j6m):=by simp[Lib.lens]
    rw[h4];simp;omega
theorem jd6:∀(ls:List Lv),j4p ls 4=true→Lib.lens (j3V ls)≤30*j0c ls
 |[],_=>by simp[j3V,Lib.lens]
 |l::r,h=>by
  rw[j4p,Bool.and_eq_true] at h;have h1:=jnW l h.1;have h2:=jd6 r h.2;have h4:Lib.lens (j6m l::j3V r)=(j6m l).length+Lib.lens (j3V r):=by simp[Lib.lens]
  rw[j3V,j0c,h4];omega
end
mutual
def jug:Tm→Bool
 | .mk k _ _ _ ts=>decide (k≠4)&&jrw ts
def jrw:List Tm→Bool
 |[]=>true
 |t::r=>jug t&&jrw r
end
mutual
def txN:Tm→List UInt8
 | .mk k n s ls ts=>if k=1 then[35]++Lib.itoa n else if k=2 then j7l [[42],j6m (ls.getD 0 (.mk 0 0 []))] else if k=3 then(if ls.length=0 then s else j7l ([64]::s::j3V ls)) else j7l (jmt k::txNs ts)
def txNs:List Tm→List (List UInt8)
 |[]=>[]
 |t::r=>txN t::txNs r
end
def juF(t:Tm):List UInt8:=if j0w t 4 1125899906842624=true then txN t else[]
end Go.Gw
namespace Go.Am
open Go
inductive FindsY (C:Cfg) (args:List PV) (st:Sto) (Q:AEnd→Sto→Prop):Prop where
 |mk (r:AEnd) (st':Sto) (hq:Q r st') (N:Nat) (h:∀n,N≤n→(ev C n).yield args st=some (r,st'))
section
variable{C:Cfg}
variable{Q:AEnd→Sto→Prop}{vs:List PV}{id:Nat}{st:Sto}
theorem j1O{args:List PV}{Q':AEnd→Sto→Prop}(h:FindsY C args st Q)(hq:∀r st',Q r st'→Q' r st'):FindsY C args st Q':=by
 obtain⟨r,st',h1,N,h2⟩:=h;exact⟨r,st',hq _ _ h1,N,h2⟩
def jfp(id k0:Nat)(Q:AEnd→Sto→Prop):AX→AEnv→Sto→Prop:=fun x _ s2=>match s2[id]? with
 |some (.lp ρ2 ps2 a2 b2 .busy)=>match x with
  | .normal=>Q (.ret [.sc (.bool true)]) (j1B k0 (s2.set id (.lp ρ2 ps2 a2 b2 .ready)))
  | .ret=>Q (.ret [.sc (.bool false)]) (j1B k0 (s2.set id (.lp ρ2 ps2 a2 b2 (.done none))))
  | .exit i=>Q (.ret [.sc (.bool false)]) (j1B k0 (s2.set id (.lp ρ2 ps2 a2 b2 (.done (some i)))))
  | .pan _=>False
 |_=>False
theorem j1U{ρ:AEnv}{ps:List Nat}{a b:Code}(hlp:st[id]?=some (.lp ρ ps a b .ready))(hn:(Nat.beq vs.length ps.length&&(j0Y a&&j0Y b))=true)
  (h:VC C a (ji4 ps vs ρ) st fun x ρ1 s1=>match x with
   | .normal=>match s1[id]? with
    |some (.lp ρ' ps' a' b' .ready)=>VC C b ρ1 (s1.set id (.lp ρ' ps' a' b' .busy)) (jfp id st.length Q)
    |_=>False
   |_=>False):FindsY C (.yl id::vs) st Q:=by
 obtain⟨x,s1,hk,N,hN⟩:=jfg h;cases x with
 |normal=>
  simp only at hk;split at hk
  ·rename_i ρ' ps' a' b' h1;obtain⟨x2,s2,hk2,N2,hN2⟩:=jfg hk;unfold jfp at hk2;split at hk2
   ·rename_i ρ2 ps2 a2 b2 h2;have main:∃r st',Q r st'∧(match x2 with
      | .normal=>some (AEnd.ret [.sc (.bool true)],j1B st.length (s2.st.set id (.lp ρ2 ps2 a2 b2 .ready)))
      | .ret=>some (AEnd.ret [.sc (.bool false)],j1B st.length (s2.st.set id (.lp ρ2 ps2 a2 b2 (.done none))))
      | .exit i=>some (AEnd.ret [.sc (.bool false)],j1B st.length (s2.st.set id (.lp ρ2 ps2 a2 b2 (.done (some i)))))
      | .pan _=>none)=some (r,st'):=by
     cases x2 with
     |normal=>exact⟨_,_,hk2,rfl⟩
     |ret=>exact⟨_,_,hk2,rfl⟩
     |exit i=>exact⟨_,_,hk2,rfl⟩
     |pan v=>exact hk2.elim
    obtain⟨r,st',hq,hr⟩:=main;refine⟨r,st',hq,max N N2+1,fun n hn'=>?_⟩
    obtain⟨m,rfl⟩:∃m,n=m+1:=⟨n-1,by omega⟩
    show ja0 C (ev C m) (.yl id::vs) st=_
    simp only[ja0,hlp,hn,hN m (by omega),h1,hN2 m (by omega),h2]
    rw[←hr];cases x2<;>rfl
   ·exact hk2.elim
  ·exact hk.elim
 |_=>exact hk.elim
theorem jrH{vs' args0:List PV}{st0 st1:Sto}{π:List Nat}{K:AR→Prop}(hw:pubL C vs st=some (vs',st1))(hπ:(close st1 64 ((PV.yl id::vs').flatMap (ids 8)) []).reverse=π)
  (hi:(PV.yl id::vs').all (j0e (fun i=>π.elem i) 8)=true) (hf:fetch (fun i=>place i 0 π) (fun i=>π.elem i) st1 π=some st0) (ha:(PV.yl id::vs').map (j1n (fun i=>place i 0 π) 8)=args0)
  (h:FindsY C args0 st0 fun r st2=>VBack π st1 r st2 fun r st'=>match r with
   | .ret rs=>K (.val (retV rs) st')
   | .pan _=>False):VYield C id vs st K:=by
 obtain⟨r,st2,⟨r',st',h1,h2⟩,N,hN⟩:=h;cases r' with
 |ret rs=>
  refine⟨_,h2,N,fun n hn=>?_⟩
  simp only[jgL,hw,hπ,j4t,hi,hf,ha,hN n hn,h1]
 |pan v=>exact h2.elim
end
open Go
def Sh(o:SO)(l:List Nat):Prop:=j8h o=l∧∀f:Nat→Bool,(∀i∈l,f i=true)→soIn f o=true
def ShL:Sto→List (List Nat)→Prop
 |[],L=>L=[]
 |o::r,L=>∃l L',L=l::L'∧Sh o l∧ShL r L'
theorem ShL.nil:ShL [] []:=rfl
variable{ρ:AEnv}{b:Bool}{C:Cfg}{a:Code}{L:List (List Nat)}{l ps:List Nat}{cs:List PV}{s:LpS}{n z:Nat}{f:PV→Sto→Option (PV×Sto)}{o:SO}{r st st':Sto}{T:TypeId}
theorem ShL.cons(h:Sh o l)(k:ShL r L):ShL (o::r) (l::L):=⟨l,L,rfl,h,k⟩
theorem j6Q{f g:Nat→Bool}(h:∀i,f i=true→g i=true):∀{n:Nat}{x:PV},j0e f n x=true→j0e g n x=true
 |0,x,hx=>by simp[j0e] at hx
 |n+1,x,hx=>by
  have hall:∀{l:List PV},l.all (j0e f n)=true→l.all (j0e g n)=true:=fun hl=>List.all_eq_true.2 fun y hy=>j6Q h (List.all_eq_true.1 hl y hy)
  cases x with
  |ag cs=>simp only[j0e] at hx⊢;exact hall hx
  |tu cs=>simp only[j0e] at hx⊢;exact hall hx
  |ci cs=>simp only[j0e] at hx⊢;exact hall hx
  |fn q a b=>simp only[j0e,Bool.and_eq_true] at hx⊢;exact⟨hall hx.1,hall hx.2⟩
  |ifc t x=>simp only[j0e] at hx⊢;exact j6Q h hx
  |ms id len=>simp only[j0e] at hx⊢;exact h _ hx
  |bp id off=>simp only[j0e] at hx⊢;exact h _ hx
  |yl id=>simp only[j0e] at hx⊢;exact h _ hx
  |mr id=>simp only[j0e] at hx⊢;exact h _ hx
  |cr id=>simp only[j0e] at hx⊢;exact h _ hx
  |rp id len i off=>simp only[j0e] at hx⊢;exact h _ hx
  |_=>rfl
theorem j02(h1:cs.flatMap (ids 8)=l)(h2:cs.all (j0e (fun j=>l.elem j) 8)=true):Sh (.box T cs) l:=
 ⟨h1,fun f hf=>List.all_eq_true.2 fun x hx=>j6Q (fun i hi=>hf i (by simpa using hi)) (List.all_eq_true.1 h2 x hx)⟩
theorem j08(h:cs.all (pur 8)=true):Sh (.row b T z cs) []:=by
 rw[List.all_eq_true] at h;have key:∀{n:Nat}{x:PV},pur n x=true→ids n x=[]∧∀f,j0e f n x=true:=by
  intro n
  induction n with
  |zero=>intro x hx;simp[pur] at hx
  |succ n ih=>
   intro x hx;have hall:∀{l:List PV},l.all (pur n)=true→l.flatMap (ids n)=[]∧∀f,l.all (j0e f n)=true:=fun{l} hl=>by
    rw[List.all_eq_true] at hl;exact⟨by rw[List.flatMap_eq_nil_iff];exact fun y hy=>(ih (hl y hy)).1,fun f=>List.all_eq_true.2 fun y hy=>(ih (hl y hy)).2 f⟩
   cases x with
   |ag cs=>simp only[pur] at hx;exact hall hx
   |tu cs=>simp only[pur] at hx;exact hall hx
   |fn f a b=>
    simp only[pur,Bool.and_eq_true] at hx;refine⟨by simp only[ids,(hall hx.1).1,(hall hx.2).1,List.append_nil],fun f=>by simp only[j0e,(hall hx.1).2 f,(hall hx.2).2 f,Bool.and_self]⟩
   |ifc t x=>
    simp only[pur] at hx;show ids n x=[]∧∀f,j0e f n x=true
    exact ih hx
   |_=>first|(simp[pur] at hx;done)|exact⟨rfl,fun _=>rfl⟩
 exact⟨by simp only[j8h];rw[List.flatMap_eq_nil_iff];exact fun y hy=>(key (h y hy)).1,fun f _=>List.all_eq_true.2 fun y hy=>(key (h y hy)).2 f⟩
theorem j0i:Sh .dead []:=⟨rfl,fun _ _=>rfl⟩
def j9I(L:List (List Nat)):Nat→List Nat→List Nat→List Nat
 |0,_,acc=>acc
 |n+1,work,acc=>match work with
  |[]=>acc
  |i::r=>match acc.elem i with
   |true=>j9I L n r acc
   |false=>j9I L n (r++(match L[i]? with
    |some l=>l
    |none=>[])) (i::acc)
theorem ShL.at_:∀{st:Sto}{L:List (List Nat)},ShL st L→∀(i:Nat),(∃o l,st[i]?=some o∧L[i]?=some l∧Sh o l)∨(st[i]?=none∧L[i]?=none)
 |[],L,h,i=>by
  have h:L=[]:=h;subst h;exact .inr ⟨by simp,by simp⟩
 |o::r,L,h,i=>by
  obtain⟨l,L',rfl,h1,h2⟩:=h;cases i with
  |zero=>exact .inl ⟨o,l,rfl,rfl,h1⟩
  |succ i=>simpa using ShL.at_ h2 i
theorem j6N{st:Sto}{L:List (List Nat)}(h:ShL st L):∀(n:Nat) (work acc:List Nat),close st n work acc=j9I L n work acc
 |0,_,_=>rfl
 |n+1,[],_=>rfl
 |n+1,i::r,acc=>by
  simp only[close,j9I];cases hb:acc.elem i with
  |true=>exact j6N h n _ _
  |false=>
   rcases h.at_ i with⟨o,l,h1,h2,h3⟩|⟨h1,h2⟩
   ·rw[h1,h2];simp only[h3.1];exact j6N h n _ _
   ·rw[h1,h2];exact j6N h n _ _
theorem ShL.take:∀{st:Sto}{L:List (List Nat)}{k:Nat},ShL st L→(st.take k).flatMap j8h=(L.take k).flatten
 |[],L,k,h=>by
  have h:L=[]:=h;subst h;simp
 |o::r,L,0,h=>by simp
 |o::r,L,k+1,h=>by
  obtain⟨l,L',rfl,h1,h2⟩:=h;simp only[List.take_succ_cons,List.flatMap_cons,List.flatten_cons,h1.1,ShL.take h2]
theorem ShL.soIn{f:Nat→Bool}:∀{st:Sto}{L:List (List Nat)},ShL st L→L.all (fun l=>l.all f)=true→st.all (soIn f)=true
 |[],_,_,_=>rfl
 |o::r,L,h,hf=>by
  obtain⟨l,L',rfl,h1,h2⟩:=h;simp only[List.all_cons,Bool.and_eq_true] at hf;simp only[List.all_cons,Bool.and_eq_true];exact⟨h1.2 f fun i hi=>List.all_eq_true.1 hf.1 i hi,ShL.soIn h2 hf.2⟩
theorem j0L{k0:Nat}{L':List (List Nat)}{acc:List Nat}(h:ShL st L)(h':ShL st' L')(hb:Nat.beq st.length k0=false)(hacc:j9I L 64 (ρ.flatMap (fun p=>ids 8 p.2)++(L.take k0).flatten) []=acc)(hs:trim k0 (sweep k0 acc 0 st)=st')
  (hρ:ρ.all (fun p=>j0e (fun i=>Nat.blt i st'.length) 8 p.2)=true) (hL:L'.all (fun l=>l.all fun i=>Nat.blt i st'.length)=true):gc k0 ρ st=st':=by
 unfold gc;simp only[hb,j6N h,h.take,hacc,hs,hρ,h'.soIn hL,Bool.and_self]
theorem j0n{f:FuncId}{rs rs':List PV}{Q:AEnd→Sto→Prop}(hk:C.keep f=false)(hp:pubL C rs st=some (rs',st'))(hr:rs'.all (pur 8)=true)(k:Q (.ret rs') []):VRet C f 0 rs st Q:=by
 refine⟨rs',[],?_,k⟩;simp only[aret,hk,hp,hr];rfl
theorem j04{x y:PV}{l l':List PV}{st1 st2:Sto}(h:f x st=some (y,st1))(k:mapS f l st1=some (l',st2)):mapS f (x::l) st=some (y::l',st2):=by
 simp only[mapS,h,k]
theorem j0m:mapS f [] st=some ([],st):=rfl
theorem j0D{i len:Nat}{xs:List PV}(hst:st[i]?=some (.row b T z xs))(hn:len=xs.length)(hp:xs.all (pur 6)=true):pubV C (n+1) (.ms i len) st=some (.sl false z xs,st.set i (.row true T z xs)):=by
 have:(Nat.beq len xs.length&&xs.all (pur 6))=true:=by rw[hp,hn,Nat.beq_refl];rfl
 simp only[pubV,pubRow,hst,this]
theorem j5z{cs':List PV}(h:mapS (pubV C n) cs st=some (cs',st')):pubV C (n+1) (.ag cs) st=some (.ag cs',st'):=by
 simp only[pubV,h]
open Go
structure Shr (o:SO) (l:List Nat) (ρ:(Nat→Nat)→SO):Prop where
 sh:Sh o l
 ren:∀g,j4e g o=ρ g
def ShrL:Sto→List (List Nat)→List ((Nat→Nat)→SO)→Prop
 |[],L,R=>L=[]∧R=[]
 |o::r,L,R=>∃l L' ρ R',L=l::L'∧R=ρ::R'∧Shr o l ρ∧ShrL r L' R'
theorem ShrL.nil:ShrL [] [] []:=⟨rfl,rfl⟩
theorem ShrL.cons{ρ:(Nat→Nat)→SO}{R:List ((Nat→Nat)→SO)}(h:Shr o l ρ)(k:ShrL r L R):ShrL (o::r) (l::L) (ρ::R):=⟨l,L,ρ,R,rfl,rfl,h,k⟩
theorem ShrL.shl:∀{st:Sto}{L:List (List Nat)}{R:List ((Nat→Nat)→SO)},ShrL st L R→ShL st L
 |[],_,_,h=>h.1
 |o::r,_,_,h=>by
  obtain⟨l,L',ρ,R',rfl,rfl,h1,h2⟩:=h;exact .cons h1.sh h2.shl
theorem j4T:∀{n:Nat}{x:PV}{g:Nat→Nat},pur n x=true→j1n g n x=x
 |0,x,g,h=>by simp[pur] at h
 |n+1,x,g,h=>by
  have hall:∀{l:List PV},l.all (pur n)=true→l.map (j1n g n)=l:=fun{l} hl=>by
   rw[List.all_eq_true] at hl;rw[List.map_congr_left (g:=id) (fun y hy=>by rw[j4T (hl y hy)];rfl),List.map_id]
  cases x with
  |ag cs=>simp only[pur] at h;simp only[j1n,hall h]
  |tu cs=>simp only[pur] at h;simp only[j1n,hall h]
  |fn f a b=>simp only[pur,Bool.and_eq_true] at h;simp only[j1n,hall h.1,hall h.2]
  |ifc t x=>simp only[pur] at h;simp only[j1n,j4T h]
  |_=>first|(simp[pur] at h;done)|rfl
theorem j5F{b:Code}(h1:ρ.flatMap (fun p=>ids 8 p.2)=l)(h2:ρ.all (fun p=>j0e (fun j=>l.elem j) 8 p.2)=true):Sh (.lp ρ ps a b s) l:=
 ⟨h1,fun f hf=>List.all_eq_true.2 fun x hx=>j6Q (fun i hi=>hf i (by simpa using hi)) (List.all_eq_true.1 h2 x hx)⟩
theorem j05(h1:cs.flatMap (ids 8)=l)(h2:cs.all (j0e (fun j=>l.elem j) 8)=true):Shr (.box T cs) l (fun g=>.box T (cs.map (j1n g 8))):=⟨j02 h1 h2,fun _=>rfl⟩
theorem j0H{b:Code}(h1:ρ.flatMap (fun p=>ids 8 p.2)=l)(h2:ρ.all (fun p=>j0e (fun j=>l.elem j) 8 p.2)=true):Shr (.lp ρ ps a b s) l (fun g=>.lp (ρ.map fun p=>(p.1,j1n g 8 p.2)) ps a b s):=⟨j5F h1 h2,fun _=>rfl⟩
theorem j2Y:Shr .dead [] (fun _=>.dead):=⟨j0i,fun _=>rfl⟩
theorem j0l(h:cs.all (pur 8)=true):Shr (.row b T z cs) [] (fun _=>.row b T z cs):=by
 refine⟨j08 h,fun g=>?_⟩
 rw[List.all_eq_true] at h;simp only[j4e];congr 1;rw[List.map_congr_left (g:=id) (fun y hy=>by rw[j4T (h y hy)];rfl),List.map_id]
theorem jap(h:cs.all (pur 8)=true):Shr (.box T cs) [] (fun _=>.box T cs):=by
 have hr:=j08 (b:=true) (T:=T) (z:=0) h;refine⟨⟨hr.1,fun f hf=>hr.2 f hf⟩,fun g=>?_⟩
 rw[List.all_eq_true] at h;simp only[j4e];congr 1;rw[List.map_congr_left (g:=id) (fun y hy=>by rw[j4T (h y hy)];rfl),List.map_id]
theorem ShrL.get:∀{st:Sto}{L:List (List Nat)}{R:List ((Nat→Nat)→SO)},ShrL st L R→∀{i:Nat}{l:List Nat}{ρ:(Nat→Nat)→SO},L[i]?=some l→R[i]?=some ρ→∃o,st[i]?=some o∧Shr o l ρ
 |[],_,_,h,i,l,ρ,h1,h2=>by rw[h.1] at h1;simp at h1
 |o::r,_,_,h,i,l,ρ,h1,h2=>by
  obtain⟨l0,L',ρ0,R',rfl,rfl,h3,h4⟩:=h;cases i with
  |zero=>simp at h1 h2;subst h1;subst h2;exact⟨o,rfl,h3⟩
  |succ i=>simpa using h4.get (i:=i) (by simpa using h1) (by simpa using h2)
def jaZ(L:List (List Nat))(R:List ((Nat→Nat)→SO))(g:Nat→Nat)(f:Nat→Bool):List Nat→Option Sto
 |[]=>some []
 |i::π=>match L[i]?,R[i]? with
  |some l,some ρ=>match l.all f with
   |true=>match jaZ L R g f π with
    |some r=>some (ρ g::r)
    |none=>none
   |false=>none
  |_,_=>none
theorem j8b{st:Sto}{L:List (List Nat)}{R:List ((Nat→Nat)→SO)}(h:ShrL st L R){g:Nat→Nat}{f:Nat→Bool}:∀{π:List Nat}{st0:Sto},jaZ L R g f π=some st0→fetch g f st π=some st0
 |[],st0,hx=>by
  simp only[jaZ,Option.some.injEq] at hx;subst hx;rfl
 |i::π,st0,hx=>by
  unfold jaZ at hx;split at hx
  ·rename_i l ρ h1 h2;split at hx
   ·rename_i hl;split at hx
    ·rename_i r hr;cases hx;obtain⟨o,h3,h4⟩:=h.get h1 h2;have ih:=j8b h hr;have hso:soIn f o=true:=h4.sh.2 f fun i hi=>List.all_eq_true.1 hl i hi
     unfold fetch at ih⊢;simp only[mapO,h3,hso,h4.ren,ih]
    ·cases hx
   ·cases hx
  ·cases hx
def putR(g:Nat→Nat):List Nat→List ((Nat→Nat)→SO)→Sto→Sto
 |i::π,ρ::R,st=>putR g π R (st.set i (ρ g))
 |_,_,st=>st
theorem jdg{g:Nat→Nat}:∀{π:List Nat}{os st:Sto}{L:List (List Nat)}{R:List ((Nat→Nat)→SO)},ShrL os L R→j2f g π os st=putR g π R st
 |[],os,st,L,R,h=>by cases R<;>simp[j2f,putR]
 |i::π,[],st,L,R,h=>by rw[h.2];simp[j2f,putR]
 |i::π,o::os,st,L,R,h=>by
  obtain⟨l0,L',ρ0,R',rfl,rfl,h3,h4⟩:=h;simp only[j2f,putR,h3.ren,jdg h4]
theorem ShrL.map{g:Nat→Nat}:∀{st:Sto}{L:List (List Nat)}{R:List ((Nat→Nat)→SO)},ShrL st L R→st.map (j4e g)=R.map fun ρ=>ρ g
 |[],_,_,h=>by rw[h.2];rfl
 |o::r,_,_,h=>by
  obtain⟨l0,L',ρ0,R',rfl,rfl,h3,h4⟩:=h;simp only[List.map_cons,h3.ren,h4.map]
theorem ShrL.drop:∀{st:Sto}{L:List (List Nat)}{R:List ((Nat→Nat)→SO)}(k:Nat),ShrL st L R→ShrL (st.drop k) (L.drop k) (R.drop k)
 |_,_,_,0,h=>by simpa using h
 |[],_,_,k+1,h=>by rw[h.1,h.2];exact .nil
 |o::r,_,_,k+1,h=>by
  obtain⟨l0,L',ρ0,R',rfl,rfl,h3,h4⟩:=h;simpa using h4.drop k
theorem ShL.get:∀{st:Sto}{L:List (List Nat)},ShL st L→∀{i:Nat}{o:SO},st[i]?=some o→∃l,L[i]?=some l∧Sh o l
 |[],_,h,i,o,h1=>by simp at h1
 |q::r,_,h,i,o,h1=>by
  obtain⟨l,L',rfl,h2,h3⟩:=h;cases i with
  |zero=>simp at h1;subst h1;exact⟨l,rfl,h2⟩
  |succ i=>simpa using h3.get (i:=i) (by simpa using h1)
section
variable{C:Cfg}
variable{r:AEnd}{K Q:AEnd→Sto→Prop}{f:FuncId}{R:List ((Nat→Nat)→SO)}{L:List (List Nat)}{π:List Nat}{args0 rs:List PV}{k0:Nat}{st st' st0 st1:Sto}
theorem j0W{args args':List PV}(hw:handed C f args st=some (args',st1))(hp:args'.all (pur 8)=false)(hs:ShrL st1 L R)(hπ:(j9I L 64 (args'.flatMap (ids 8)) []).reverse=π)
  (hi:args'.all (j0e (fun i=>π.elem i) 8)=true) (hf:jaZ L R (fun i=>place i 0 π) (fun i=>π.elem i) π=some st0) (ha:args'.map (j1n (fun i=>place i 0 π) 8)=args0)
  (h:Finds C f args0 st0 fun r st2=>VBack π st1 r st2 K):VCall C f args st K:=
 j0F hw hp (by rw[j6N hs.shl];exact hπ) hi (j8b hs hf) ha h
theorem j2W{id:Nat}{vs vs':List PV}{K:AR→Prop}(hw:pubL C vs st=some (vs',st1))(hs:ShrL st1 L R)(hπ:(j9I L 64 ((PV.yl id::vs').flatMap (ids 8)) []).reverse=π)
  (hi:(PV.yl id::vs').all (j0e (fun i=>π.elem i) 8)=true) (hf:jaZ L R (fun i=>place i 0 π) (fun i=>π.elem i) π=some st0) (ha:(PV.yl id::vs').map (j1n (fun i=>place i 0 π) 8)=args0)
  (h:FindsY C args0 st0 fun r st2=>VBack π st1 r st2 fun r st'=>match r with
   | .ret rs=>K (.val (retV rs) st')
   | .pan _=>False):VYield C id vs st K:=
 jrH hw (by rw[j6N hs.shl];exact hπ) hi (j8b hs hf) ha h
theorem j1v(hs:ShrL st1 L R)(hi:(jck (fun j=>Nat.blt j st1.length) r&&L.all (fun l=>l.all fun j=>Nat.blt j st1.length))=true)
  (k:K (j5O (back π st.length) r) (putR (back π st.length) π R st++(R.drop π.length).map (fun ρ=>ρ (back π st.length)))):VBack π st r st1 K:=by
 rw[Bool.and_eq_true] at hi;refine j1Y (by rw[hi.1,hs.shl.soIn hi.2];rfl) ?_
 rw[jdg hs,(hs.drop π.length).map];exact k
def fpv(v:PV)(k:PV→Prop):Prop:=match v with
 | .sc x=>k (.sc x)
 | .sl b z xs=>k (.sl b z xs)
 | .ms i n=>k (.ms i n)
 |v=>k v
theorem jtn{v:PV}{k:PV→Prop}:fpv v k↔k v:=by cases v<;>exact Iff.rfl
def fpvs:List PV→(List PV→Prop)→Prop
 |[],k=>k []
 |v::r,k=>fpv v fun v'=>fpvs r fun r'=>k (v'::r')
theorem jnh:∀{cs:List PV}{k:List PV→Prop},fpvs cs k↔k cs
 |[],_=>Iff.rfl
 |v::r,k=>by
  unfold fpvs;rw[jtn];exact jnh (cs:=r) (k:=fun r'=>k (v::r'))
def fso(o:SO)(k:SO→Prop):Prop:=match o with
 | .box T cs=>fpvs cs fun cs'=>k (.box T cs')
 | .lp ρ ps a b s=>k (.lp ρ ps a b s)
 | .row p e z xs=>k (.row p e z xs)
 | .frz cs=>k (.frz cs)
 | .mp ks vs=>k (.mp ks vs)
 | .ch c q=>k (.ch c q)
 | .dead=>k .dead
theorem jto{o:SO}{k:SO→Prop}:fso o k↔k o:=by
 cases o with
 |box T cs=>exact jnh (cs:=cs) (k:=fun cs'=>k (.box T cs'))
 |_=>exact Iff.rfl
def fsto:Sto→(Sto→Prop)→Prop
 |[],k=>k []
 |o::r,k=>fso o fun o'=>fsto r fun r'=>k (o'::r')
theorem jni:∀{st:Sto}{k:Sto→Prop},fsto st k↔k st
 |[],_=>Iff.rfl
 |o::r,k=>by
  unfold fsto;rw[jto];exact jni (st:=r) (k:=fun r'=>k (o::r'))
theorem j4d(hs:ShrL st1 L R)(hi:(jck (fun j=>Nat.blt j st1.length) r&&L.all (fun l=>l.all fun j=>Nat.blt j st1.length))=true)
  (k:fsto (putR (back π st.length) π R st++(R.drop π.length).map (fun ρ=>ρ (back π st.length))) fun st'=>K (j5O (back π st.length) r) st'):VBack π st r st1 K:=j1v hs hi (jni.1 k)
theorem j1K{r':AEnd}(hs:ShrL st1 L R)(hi:(jck (fun j=>Nat.blt j st1.length) r&&L.all (fun l=>l.all fun j=>Nat.blt j st1.length))=true)
  (hr:j5O (back π st.length) r=r') (ht:putR (back π st.length) π R st++(R.drop π.length).map (fun ρ=>ρ (back π st.length))=st') (k:K r' st'):VBack π st r st1 K:=by
 subst hr;subst ht;exact j1v hs hi k
theorem j2U(hs:ShrL st L R)(hπ:j7H 0 k0++j3x k0 (st.drop k0)=π)(hb:Nat.beq π.length st.length=false)(hi:rs.all (j0e (fun i=>π.elem i) 8)=true)
  (hf:jaZ L R (fun i=>place i 0 π) (fun i=>π.elem i) π=some st'):squeeze k0 rs st=(rs.map (j1n (fun i=>place i 0 π) 8),st'):=by
 unfold squeeze;rw[hπ];unfold j6C;simp only[hb,hi,j8b hs hf]
theorem j1a(hb:Nat.beq (j7H 0 k0++j3x k0 (st.drop k0)).length st.length=true):squeeze k0 rs st=(rs,st):=by
 unfold squeeze j6C;simp only[hb]
theorem j1j{rs1 rs2:List PV}{st2 st3:Sto}(hp:(C.keep f=true∧rs1=rs∧st1=st)∨(C.keep f=false∧pubL C rs st=some (rs1,st1)))(hn:(rs1.all (pur 8)&&(st1.take k0).all (soIn fun i=>Nat.blt i k0))=false)(hg:gc k0 (rs1.map fun r=>(0,r)) st1=st2)(hs:squeeze k0 rs1 st2=(rs2,st3))(k:Q (.ret rs2) st3):VRet C f k0 rs st Q:=by
 refine⟨rs2,st3,?_,k⟩;unfold aret;rcases hp with⟨h1,rfl,rfl⟩|⟨h1,h2⟩
 ·simp only[h1,hn,hg,hs]
 ·simp only[h1,h2,hn,hg,hs]
theorem j0Z(hp:rs.all (pur 8)=true)(ht:st.take k0=st')(hs:ShrL st' L R)(hL:L.all (fun l=>l.all fun i=>Nat.blt i k0)=true)(k:Q (.ret rs) st'):VRet C f k0 rs st Q:=by
 subst ht;exact vret_take hp (hs.shl.soIn hL) k
theorem j5J(ht:st.take k0=st')(hs:ShrL st' L R)(hL:L.all (fun l=>l.all fun i=>Nat.blt i k0)=true):j1B k0 st=st':=by
 subst ht;unfold j1B;simp only[hs.shl.soIn hL]
end
end Go.Am
namespace Go.Gw
open Go
mutual
def eqLv:Lv→Lv→Bool
 | .mk k n ls,.mk k' n' ls'=>decide (k=k')&&(decide (n=n')&&(decide (ls.length=ls'.length)&&jcl ls ls'))
def jcl:List Lv→List Lv→Bool
 |l::r,m::s=>eqLv l m&&jcl r s
 |_,_=>true
end
mutual
theorem js9:∀(l m:Lv),eqLv l m=true↔l=m
 | .mk k n ls,.mk k' n' ls'=>by
  simp only[eqLv,Bool.and_eq_true,decide_eq_true_eq,Lv.mk.injEq];constructor
  ·rintro⟨h1,h2,h3,h4⟩;exact⟨h1,h2,(j8a ls ls' h3).1 h4⟩
  ·rintro⟨rfl,rfl,rfl⟩;exact⟨rfl,rfl,rfl,(j8a ls ls rfl).2 rfl⟩
theorem j8a:∀(ls ms:List Lv),ls.length=ms.length→(jcl ls ms=true↔ls=ms)
 |[],[],_=>by simp[jcl]
 |l::r,m::s,h=>by
  simp only[jcl,Bool.and_eq_true,List.cons.injEq];rw[js9 l m,j8a r s (by simpa using h)]
 |[],_::_,h=>by simp at h
 |_::_,[],h=>by simp at h
end
mutual
def eqTm:Tm→Tm→Bool
 | .mk k n s ls ts,.mk k' n' s' ls' ts'=>decide (k=k')&&(decide (n=n')&&((s == s')&&(decide (ls.length=ls'.length)&&(decide (ts.length=ts'.length)&&(jcl ls ls'&&je6 ts ts')))))
def je6:List Tm→List Tm→Bool
 |l::r,m::s=>eqTm l m&&je6 r s
 |_,_=>true
end
mutual
theorem jsa:∀(l m:Tm),eqTm l m=true↔l=m
 | .mk k n s ls ts,.mk k' n' s' ls' ts'=>by
  simp only[eqTm,Bool.and_eq_true,decide_eq_true_eq,beq_iff_eq,Tm.mk.injEq];constructor
  ·rintro⟨h1,h2,h3,h4,h5,h6,h7⟩;exact⟨h1,h2,h3,(j8a ls ls' h4).1 h6,(je7 ts ts' h5).1 h7⟩
  ·rintro⟨rfl,rfl,rfl,rfl,rfl⟩;exact⟨rfl,rfl,rfl,rfl,rfl,(j8a ls ls rfl).2 rfl,(je7 ts ts rfl).2 rfl⟩
theorem je7:∀(ls ms:List Tm),ls.length=ms.length→(je6 ls ms=true↔ls=ms)
 |[],[],_=>by simp[je6]
 |l::r,m::s,h=>by
  simp only[je6,Bool.and_eq_true,List.cons.injEq];rw[jsa l m,je7 r s (by simpa using h)]
 |[],_::_,h=>by simp at h
 |_::_,[],h=>by simp at h
end
mutual
def useN:Tm→Int→Int
 | .mk _ _ s ls ts,q=>min (jbV ts (lnFs ls (1+((s.length/16:Nat):Int)) q) q) (q+1)
def jbV:List Tm→Int→Int→Int
 |[],acc,_=>acc
 |t::r,acc,q=>if acc≤q then jbV r (acc+useN t q) q else acc
end
mutual
def refN:Tm→Int→Int
 | .mk _ _ _ ls ts,q=>min (jeP ts (lnFs ls 1 q) q) (q+1)
def jeP:List Tm→Int→Int→Int
 |[],acc,_=>acc
 |t::r,acc,q=>if acc≤q then jeP r (acc+refN t q) q else acc
end
end Go.Gw
