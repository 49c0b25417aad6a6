/- The library's functions at their word, for the plain machine: what the shelf says of them. -/
import Derived.Test.YtbnodhcijeaceaaGreatDoorXShelf
import Derived.Lib.AppendIntMem
import Derived.Sort.OwnSorted
import Derived.Test.YtbnodhcijeaceaaGreatDoorXSh
set_option linter.all false
set_option maxRecDepth 100000
namespace Go.Am
open Go Go.Hb Go.RowKit
variable{f:FuncId}{F:List PV→Option (List PV)}{vs:List Value}{m:Mem}{x:PV}{P:Program}{v:Value}{w w':World}
def Good.under{E:Entry}{μ:Own}(h:Hb.Good E w m μ)(hb:Below w.heap.size w w'):Hb.Good E w' m μ:=
 ⟨hb.os.trans h.os,hb.tape.trans h.tape,hb.output.trans h.output,BL h.size hb.size,fun b hA hF=>(hb.block b (EM hA h.size)).trans (h.keep b hA hF),
  fun b o v e=>(let⟨c,T,fr,h1,h2⟩:=h.sub b o v e;⟨c,T,fr,(hb.block b (j1Y h1)).trans h1,h2⟩),h.mem,h.fresh,fun r hr=>Res.holds_of (h.holds r hr) (fun b hf=>hb.block b (Res.holds_lt (h.holds r hr) hf)),h.feet,h.apart,
  fun b cs hc=>(let⟨⟨cs',T,fr,hp,h1⟩,h2⟩:=h.glob b cs hc;⟨⟨cs',T,fr,hp,(hb.block b (j1Y h1)).trans h1⟩,h2⟩)⟩
def Good.below{m':Mem}{μ':Own}{F:Nat→Prop}(h:Hb.Good ⟨w,m,F⟩ w' m' μ')(hF:∀b,¬F b):Below w.heap.size w w':=
 ⟨h.os,h.tape,h.output,h.size,fun b hb=>h.keep b hb (hF b)⟩
def jcE(P:Program)(f:FuncId)(F:List PV→Option (List PV)):Prop:=∀args rs,F args=some rs→∀w m vs,Hb.Good ⟨w,m,fun _=>False⟩ w m []→Rl m noPh args vs →
 Calls P f vs.toArray w fun en w'=>∃m' us,Hb.Good ⟨w,m,fun _=>False⟩ w' m' []∧en=.returned (Gw.tup us)∧Rl m' noPh rs us
theorem j2G(h:jcE P f F):j2Z (j8i P f) (natP F):=fun args st r st' hx w m φ μ vs hs hr=>by
 unfold natP at hx;split at hx
 ·split at hx
  ·rename_i rs hf;cases hx;have hμ:μ=[]:=hs.sto;subst hμ;have hA:feetOf ([]:Own)=fun _=>False:=by funext b;simp[feetOf]
   have hφ:φ=noPh:=by funext id;exact hs.dom id (DD _)
   subst hφ;rw[hA] at hs;refine(h args rs hf w m vs hs.good hr).mono fun en w' ⟨m',us,h1,h2,h3⟩=>?_
   rw[hA];exact⟨m',noPh,[],Ext.refl _ _,⟨h1,rfl,fun _ _=>rfl⟩,us,h2,h3⟩
  ·cases hx
 ·cases hx
def j1Z(h:∀args rs,F args=some rs→∀w m vs,Hb.Good ⟨w,m,fun _=>False⟩ w m []→Rl m noPh args vs →
  ∃us,Rl m noPh rs us∧Calls P f vs.toArray w fun en w'=>en=.returned (Gw.tup us)∧Below w.heap.size w w'):jcE P f F:=fun args rs hF w m vs hg hr=>by
 obtain⟨us,h1,h2⟩:=h args rs hF w m vs hg hr;exact h2.mono fun en w' ⟨h3,h4⟩=>⟨m,us,Good.under hg h4,h3,h1⟩
def Rl.one(h:Rl m noPh [x] vs):∃v,vs=[v]∧R m noPh x v:=by
 obtain⟨v,vs',rfl,h1,h2⟩:=h.uncons;have:vs'=[]:=AJ h2.1.symm;exact⟨v,by rw[this],h1⟩
def Rl.two{y:PV}(h:Rl m noPh [x,y] vs):∃u v,vs=[u,v]∧R m noPh x u∧R m noPh y v:=by
 obtain⟨u,vs',rfl,h1,h2⟩:=h.uncons;obtain⟨v,rfl,h3⟩:=h2.one;exact⟨u,v,rfl,h1,h3⟩
def Rl.sc1(h:isSc v=true):Rl m noPh [.sc v] [v]:=.cons (.sc h) .nil
def Rl.sc2{u:Value}(h:isSc u=true)(h':isSc v=true):Rl m noPh [.sc u,.sc v] [u,v]:=.cons (.sc h) (Rl.sc1 h')
def strOf:PV→Option ByteArray
 | .sc (.string s)=>some s
 |_=>none
def bl(s:ByteArray):List UInt8:=s.data.toList
def ls(l:List UInt8):Value:=.string ⟨l.toArray⟩
def j9y:List PV→Option (List PV)
 |[.sc (.string s),.sc (.string p)]=>some [.sc (ls (Lib.trimPrefix (bl s) (bl p))),.sc (.bool (Lib.hasPrefix (bl s) (bl p)))]
 |_=>none
def j9H:List PV→Option (List PV)
 |[.sc (.string s),.sc (.string p)]=>some [.sc (.bool (Lib.hasPrefix (bl s) (bl p)))]
 |_=>none
def digK:Nat→Nat→List UInt8
 |0,_=>[]
 |k+1,n=>match Nat.blt n 10 with
  |true=>[UInt8.ofNat (48+n)]
  |false=>digK k (n/10)++[UInt8.ofNat (48+n%10)]
def jhU:∀{k n:Nat},n<10^(k+1)→digK (k+1) n=Lib.decDigits n
 |k,n,h=>by
  rw[digK,Lib.decDigits]
  by_cases hn:n<10
  ·rw[dif_pos hn];have:Nat.blt n 10=true:=by rw[BW];exact hn
   rw[this]
  ·rw[dif_neg hn];have:Nat.blt n 10=false:=by rw[CM];intro e;rw[BW] at e;exact hn e
   rw[this];simp only;cases k with
   |zero=>simp at h;omega
   |succ k=>rw[jhU (by rw[Nat.pow_succ] at h;omega)]
def jqF(n:Int):List UInt8:=match n with
 | .ofNat q=>digK 20 q
 | .negSucc q=>45::digK 20 (q+1)
def jqG{n:Int}(h:n.natAbs≤9223372036854775807):jqF n=Lib.itoa n:=by
 cases n with
 |ofNat q=>
  simp only[jqF,Lib.itoa];rw[if_neg (by simp),jhU (by simp at h;omega)]
  rfl
 |negSucc q=>
  simp only[jqF,Lib.itoa];rw[if_pos (Int.negSucc_lt_zero q),jhU (by simp at h;omega)]
  rfl
def jtf:List PV→Option (List PV)
 |[.sc (.int .i64 n)]=>match Nat.ble n.natAbs 9223372036854775807 with
  |true=>some [.sc (ls (jqF n))]
  |false=>none
 |_=>none
def jsJ:List PV→Option (List PV)
 |[.sc (.string s)]=>match Nat.ble (bl s).length 18,Lib.atoi (bl s) with
  |true,some n=>some [.sc (.int .i64 n),.sc .nilIface]
  |_,_=>none
 |_=>none
def ascii(l:List UInt8):Bool:=l.all fun b=>Nat.blt b.toNat 128
def jbC:List PV→Option (List PV)
 |[.sc (.string s),.sc (.string c)]=>match Nat.ble (bl s).length 1000000&&Nat.ble (bl c).length 1000000&&(ascii (bl s)&&ascii (bl c)) with
  |true=>some [.sc (.int .i64 (Lib.indexAny (bl s) (bl c)))]
  |false=>none
 |_=>none
def jof:List PV→Option (List PV)
 |[.sc (.string s),.sc (.string c)]=>match bl c with
  |[b]=>some [.sc (.int .i64 (Lib.indexByte (bl s) b))]
  |_=>none
 |_=>none
def jcP:List PV→Option (List PV)
 |[.sl _ _ xs,.sc (.string sep)]=>match mapO strOf xs with
  |some ss=>match Nat.ble ss.length 1000000000&&Nat.ble (Lib.join (ss.map bl) (bl sep)).length 1000000000 with
   |true=>some [.sc (ls (Lib.join (ss.map bl) (bl sep)))]
   |false=>none
  |none=>none
 |_=>none
def j5m(c:Nat):Bool:=decide (97≤c∧c≤122∨48≤c∧c≤57∨c=95)
def j9K(g:FuncId):List PV→Option (List PV)
 |[.sc (.string s),.fn f [] []]=>match Nat.beq f g with
  |true=>some [.sc (.int .i64 (Lib.idxFunc (fun c=>!j5m c) true s))]
  |false=>none
 |_=>none
def jtY(s:ByteArray):(⟨(bl s).toArray⟩:ByteArray)=s:=by unfold bl;simp
def jaO:∀{xs:List PV}{ss:List ByteArray},mapO strOf xs=some ss→xs=ss.map fun s=>.sc (.string s)
 |[],ss,h=>by simp only[mapO,AD] at h;subst h;rfl
 |x::xs,ss,h=>by
  obtain⟨y,l,rfl,h1,h2⟩:=j5c h;rw[jaO h2];unfold strOf at h1;split at h1
  ·cases h1;rfl
  ·cases h1
end Go.Am
namespace Go.Proofs.YtbnodhcijeaceaaGreatDoor
open Go Go.Am Go.Hb Go.RowKit
def jeS:jcE Tryz.prog 189 j9y:=j1Z fun args rs hF w m vs hg hr=>by
 unfold j9y at hF;split at hF
 ·cases hF;obtain⟨u,v,rfl,h1,h2⟩:=hr.two;obtain rfl:=h1.sc_eq;obtain rfl:=h2.sc_eq;exact⟨_,Rl.sc2 rfl rfl,(Tryz.strings_CutPrefix _ _ w).mono fun e w' ⟨h3,h4⟩=>⟨h3,by rw[h4];exact Below.refl _ _⟩⟩
 ·cases hF
def jeT:jcE Tryz.prog 292 j9H:=j1Z fun args rs hF w m vs hg hr=>by
 unfold j9H at hF;split at hF
 ·cases hF;obtain⟨u,v,rfl,h1,h2⟩:=hr.two;obtain rfl:=h1.sc_eq;obtain rfl:=h2.sc_eq;exact⟨_,Rl.sc1 rfl,(Tryz.strings_HasPrefix _ _ w).mono fun e w' ⟨h3,h4⟩=>⟨h3,by rw[h4];exact Below.refl _ _⟩⟩
 ·cases hF
def juK {E:Entry}{w:World}{m:Mem}{μ:Own}(hg:Hb.Good E w m μ):Lib.TabIs Tryz.prog w "internal/strconv.uint64pow10" .u64 Lib.pow10Tab:=by
 obtain⟨⟨cs,T,fr,rfl,h1⟩,_⟩:=hg.glob 0 _ rfl
 have hn:Tryz.prog.globalNamed "internal/strconv.uint64pow10" = some 0:=by kernel_rfl
 unfold Lib.TabIs World.var?;rw[hn];simp only[EF,h1]
def jqW:jcE Tryz.prog 165 jtf:=j1Z fun args rs hF w m vs hg hr=>by
 unfold jtf at hF;split at hF
 ·rename_i n;split at hF
  ·rename_i hb;cases hF;obtain⟨u,rfl,h1⟩:=hr.one;obtain rfl:=h1.sc_eq;have:=AM hb;rw[jqG this];exact⟨_,Rl.sc1 rfl,(Tryz.strconv_Itoa n (by omega) (by omega) w (juK hg)).mono fun e w' ⟨h3,k,os,hk⟩=>⟨h3,by subst hk;exact Lib.below_grow _ _ (AU _) _ _⟩⟩
  ·cases hF
 ·cases hF
def jhJ(w:World)(e:TypeId)(s:ByteArray):Below w.heap.size w (Lib.bytesWorld w e s):=by
 exact⟨rfl,rfl,rfl,by rw[Lib.bytesWorld_size];omega,fun k hk=>Lib.bytesWorld_at_old w e s k hk⟩
def jqV:jcE Tryz.prog 248 jsJ:=j1Z fun args rs hF w m vs hg hr=>by
 unfold jsJ at hF;split at hF
 ·rename_i s;split at hF
  ·rename_i n hb hn;cases hF;obtain⟨u,rfl,h1⟩:=hr.one;obtain rfl:=h1.sc_eq;have:=AM hb;exact⟨_,Rl.sc2 rfl rfl,(Tryz.strconv_Atoi s n this hn w).mono fun e w' ⟨h3,t,hk⟩=>⟨h3,by subst hk;exact jhJ _ _ _⟩⟩
  ·cases hF
 ·cases hF
def jjl{l:List UInt8}(h:ascii l=true)(j:Nat)(b:UInt8)(hb:l[j]?=some b):b.toNat<128:=by
 have:=AF.1 h b (AE hb)
 rwa [BW] at this
def jgK:jcE Tryz.prog 246 jbC:=j1Z fun args rs hF w m vs hg hr=>by
 unfold jbC at hF;split at hF
 ·rename_i s c;split at hF
  ·rename_i hb;cases hF;simp only[AB] at hb;obtain⟨⟨h5,h6⟩,h7,h8⟩:=hb;have h5:=AM h5;have h6:=AM h6;have e1:s.size=(bl s).length:=by rw[bl];exact Lib.size_eq s
   have e2:c.size=(bl c).length:=by rw[bl];exact Lib.size_eq c
   obtain⟨u,v,rfl,h1,h2⟩:=hr.two;obtain rfl:=h1.sc_eq;obtain rfl:=h2.sc_eq;exact⟨_,Rl.sc1 rfl,Tryz.strings_IndexAny_laid s c w (by omega) (by omega) (jjl h7) (jjl h8)⟩
  ·cases hF
 ·cases hF
def joU:jcE Tryz.prog 283 jof:=j1Z fun args rs hF w m vs hg hr=>by
 unfold jof at hF;split at hF
 ·rename_i s c;split at hF
  ·rename_i b hb;cases hF;have hc:c=⟨#[b]⟩:=by rw[←jtY c,hb]
   subst hc;obtain⟨u,v,rfl,h1,h2⟩:=hr.two;obtain rfl:=h1.sc_eq;obtain rfl:=h2.sc_eq;exact⟨_,Rl.sc1 rfl,(Tryz.strings_Index_one s b w).mono fun e w' ⟨h3,h4⟩=>⟨h3,by rw[h4];exact Below.refl _ _⟩⟩
  ·cases hF
 ·cases hF
def nat_join:jcE Tryz.prog 221 jcP:=j1Z fun args rs hF w m vs hg hr=>by
 unfold jcP at hF;split at hF
 ·rename_i b z xs sep;split at hF
  ·rename_i ss gB;split at hF
   ·rename_i hb;cases hF;simp only[AB] at hb;obtain⟨h5,h6⟩:=hb;have h5:=AM h5;have h6:=AM h6;have gA:=jaO gB;obtain⟨u,v,rfl,h1,h2⟩:=hr.two;obtain rfl:=h2.sc_eq;have hlen:xs.length=ss.length:=by rw[gA];simp
    cases h1 with
    | @sl _ _ _ _ a cap bk off g ha wA gC hB hD wB hC=>
     refine⟨[_],Rl.sc1 rfl,?_⟩;cases hA:ss with
     |nil=>
      subst hA;have qB:xs=[]:=by simpa using gA
      subst qB;exact(Tryz.strings_Join_none a cap sep w).mono fun e w' ⟨h3,h4⟩=>⟨h3,by rw[h4];exact Below.refl _ _⟩
     |cons s0 sr=>
      rw[←hA];have qC:xs≠[]:=by rw[gA,hA];simp
      have qA:∀(j:Nat) x,ss[j]?=some x→w.cell? ⟨bk,off+j,none⟩=some (.string x):=fun j x hj=>by
       have hx:xs[j]?=some (.sc (.string x)):=by rw[gA,BA,hj];rfl
       obtain⟨q1,q2,q3,q4⟩:=hD j _ hx;simp only[PV.cells,List.length_singleton] at q1;subst q1;have wC:∃v,g j=[v]:=List.length_eq_one_iff.1 q2;obtain⟨v,hv⟩:=wC;have:=wB j _ 0 (.sc (.string x)) v hx rfl (by rw[hv];rfl)
       obtain rfl:=this.sc_eq;have hm:=q3 0 (.string x) (by rw[hv];rfl)
       have:=hg.cell hm;simpa using this
      rw[ha qC,hlen];have qD:bk<w.heap.size:=by
       have h0:=qA 0 s0 (by rw[hA];rfl)
       simp only[World.cell?] at h0;cases e:w.heap[bk]? with
       |none=>simp[e] at h0
       |some o=>exact j1Y e
      exact Tryz.strings_Join bk off cap ss sep w qA qD (by omega) (by rw[←hlen];exact wA) (by exact BL h6 (by omega))
   ·cases hF
  ·cases hF
 ·cases hF
def jhO(x:Nat)(W:World):Calls Tryz.prog 244 #[.int .i32 (x:Int)] W fun e w'=>e=.returned (.bool (j5m x))∧w'=W:=by
 go_enter Tryz.func244,Tryz.ntmps244
 go_wp2
 all_goals(go_ret;refine⟨congrArg (fun b=>Ending.returned (.bool b)) ?_,rfl⟩;rw[CL];simp[j5m];try omega)
def jid(x:Nat)(hx:x≤1114111)(W:World):FnGives Tryz.prog 243 #[] #[encR x] (.bool (!j5m x)) W:=by
 show Calls Tryz.prog 243 #[.int .i32 (x:Int)] W _
 go_enter Tryz.func243,Tryz.ntmps243
 go_wp2_with (go_at_call 244;refine(jhO _ _).mono ?_;rintro e w' ⟨rfl,rfl⟩)
 all_goals(go_ret;exact⟨by simp,0,rfl⟩)
def jeU:jcE Tryz.prog 245 (j9K 243):=j1Z fun args rs hF w m vs hg hr=>by
 unfold j9K at hF;split at hF
 ·rename_i s f;split at hF
  ·rename_i hb;cases hF;obtain rfl:=AH hb;obtain⟨u,v,rfl,h1,h2⟩:=hr.two;obtain rfl:=h1.sc_eq;cases h2 with
   | @fn _ _ _ _ us ws hl hA _ _=>
    have e1:us=[]:=AJ hl.symm;have e2:ws=[]:=AJ hA.symm;subst e1;subst e2;exact⟨_,Rl.sc1 rfl,Tryz.strings_IndexFunc_runes 243 #[] (fun args w=>by kernel_rfl) (fun c=>!j5m c) s w (fun W x hx _=>jid x hx W)⟩
  ·cases hF
 ·cases hF
abbrev NatF:=List PV→Sto→Option (AEnd×Sto)
def jbT(f:FuncId):List (FuncId×NatF)→Option NatF
 |[]=>none
 |(g,F)::r=>match Nat.beq f g with
  |true=>some F
  |false=>jbT f r
def jbU{f:FuncId}{F:NatF}:∀{l:List (FuncId×NatF)},jbT f l=some F→(f,F)∈l
 |[],h=>by cases h
 |(g,G)::r,h=>by
  simp only[jbT] at h;split at h
  ·rename_i hb;obtain rfl:=AH hb;cases h;exact BG
  ·exact BE _ (jbU h)
def jqU{C:Cfg}{l:List (FuncId×NatF)}(hl:∀f,C.nat f=jbT f l)(h:∀p∈l,j2Z (j8i C.P p.1) p.2):jhx C:=fun f F hF=>h (f,F) (jbU (by rw[←hl];exact hF))
def nat1:List (FuncId×NatF):=[
 (221,natP jcP),
 (189,natP j9y),
 (292,natP j9H),
 (165,natP jtf),
 (248,natP jsJ),
 (246,natP jbC),
 (283,natP jof),
 (245,natP (j9K 243))]
def jtn:∀p∈nat1,j2Z (j8i Tryz.prog p.1) p.2:=by
 intro p hp;simp only[nat1,AN,FE,or_false] at hp;rcases hp with rfl|rfl|rfl|rfl|rfl|rfl|rfl|rfl
 ·exact j2G nat_join
 ·exact j2G jeS
 ·exact j2G jeT
 ·exact j2G jqW
 ·exact j2G jqV
 ·exact j2G jgK
 ·exact j2G joU
 ·exact j2G jeU
end Go.Proofs.YtbnodhcijeaceaaGreatDoor
namespace Go.Am
open Go Go.Hb Go.RowKit Go.Sort Go.Proofs
def svL(l:List (List UInt8)):List PV:=l.map fun s=>.sc (ls s)
def jmn(args:List PV)(st:Sto):Option (AEnd×Sto):=match args,st with
 |[.ms 0 n],[.row false T 1 xs]=>match mapO strOf xs with
  |some ss=>match(Nat.beq n ss.length && !Hb.markT T)&&Nat.ble n 1000000000 with
   |true=>some (.ret [],[.row false T 1 (svL (j3i (ss.map bl)))])
   |false=>none
  |none=>none
 |[.sl _ _ []],[]=>some (.ret [],[])
 |_,_=>none
def jl0(args:List PV)(st:Sto):Option (AEnd×Sto):=match args,st with
 |[.ms 0 n],[.row false T 1 xs]=>match mapO strOf xs with
  |some ss=>match(Nat.beq n ss.length && !Hb.markT T)&&(Nat.ble n 1000000000&&Nat.ble 1 n) with
   |true=>some (.ret [.ms 1 (j5D (ss.map bl)).length],[.dead,.row false T 1 (svL (j5D (ss.map bl)))])
   |false=>none
  |none=>none
 |[.sl b z []],[]=>some (.ret [.sl b z []],[])
 |_,_=>none
def jgd(ss:List ByteArray):(ss.map bl).map encStr=ss.map Value.string:=by
 rw[FX];refine DL fun s _=>?_
 show Value.string ⟨(bl s).toArray⟩=_
 rw[jtY]
theorem jbx{α β:Type}(f:α→β):∀l:List α,(l.map fun s=>[f s]).flatten=l.map f
 |[]=>rfl
 |x::r=>by simp only[BC,CC,jbx f r];rfl
section
variable{P:Program}{E:Entry}{m:Mem}{φ:Ph}{μ:Own}{w:World}
variable{id:Nat}{T:TypeId}
theorem jh6{ss:List ByteArray}{rs:Own}(h:SRo m φ id (.row false T 1 (ss.map fun s=>.sc (.string s))) rs):∃a cap,φ id=some (.row (.slice a ss.length cap) ss.length 1)∧rs=[.row false (.slice a ss.length cap) T 1 ss.length (ss.map Value.string)]:=by
 obtain⟨a,cap,vss,h1,h2,h3,h4⟩:=h;rw[AZ] at h1 h2;refine⟨a,cap,h1,?_⟩;have:vss.flatten=ss.map Value.string:=by
  have hl:=h4.1;rw[AZ] at hl;have:vss=ss.map fun s=>[Value.string s]:=by
   apply List.ext_getElem
   ·simp[hl]
   ·intro i h5 h6;have hi:i<ss.length:=by omega
    obtain⟨q1,q2,q3,q4⟩:=h4.2 i (.sc (.string ss[i])) vss[i] (by simp[hi]) (AA h5)
    have hc:((PV.sc (.string ss[i])).cells:List PV)=[.sc (.string ss[i])]:=rfl;rw[hc] at q4;obtain⟨u,us,e1,e2,e3⟩:=q4.uncons;have:us=[]:=AJ e3.1.symm;subst this;have:=e2.sc_eq;subst this;rw[e1];simp
  rw[this];exact jbx _ _
 rw[h2,this]
theorem jhh{ts:List (List UInt8)}{a:Option Addr}{cap:Nat}(h:φ id=some (.row (.slice a ts.length cap) ts.length 1)):SRo m φ id (.row false T 1 (svL ts)) [.row false (.slice a ts.length cap) T 1 ts.length (ts.map encStr)]:=by
 refine⟨a,cap,ts.map fun s=>[encStr s],by rw[svL,AZ];exact h,?_,by omega,by simp[svL],fun i x vs h1 h2=>?_⟩
 ·rw[svL,AZ];rw[jbx]
 ·rw[svL,BA] at h1;rw[BA] at h2;obtain⟨s,hs,rfl⟩:=BQ.1 h1;rw[hs] at h2;cases h2;exact⟨rfl,rfl,rfl,.cons (.sc rfl) .nil⟩
def one_row{o:SO}(hs:SR m φ 0 [o] μ):SRo m φ 0 o μ:=by
 obtain⟨rs,μ',h1,h2,h3⟩:=hs;have h3:μ'=[]:=h3;subst h3;rw[BF] at h1;subst h1;exact h2
end
end Go.Am
namespace Go.Proofs.YtbnodhcijeaceaaGreatDoor
open Go Go.Am Go.Hb Go.RowKit Go.Sort
theorem jsT:j2Z (j8i Tryz.prog 279) jmn:=fun args st r st' hx w m φ μ vs hs hr=>by
 unfold jmn at hx;split at hx
 ·rename_i n T xs;split at hx
  ·rename_i ss qC;split at hx
   ·rename_i hb;cases hx;simp only[AB,EB] at hb;have qD:=hb.1.2;obtain rfl:=AH hb.1.1;have hn:=AM hb.2;have gB:=jaO qC;subst gB;obtain⟨v,vs',rfl,h1,h2⟩:=hr.uncons;have:vs'=[]:=AJ h2.1.symm;subst this;have wC:=one_row hs.sto;obtain⟨a,cap,hφ,hμ⟩:=jh6 wC;cases h1 with
    | @ms _ _ _ n sz sv _ hφ' qE hv kE=>
     rw[hφ] at hφ';cases hφ';obtain rfl:=hv rfl;have gA:w.ownsRow 0 T 1 (.slice a ss.length cap) ss.length (ss.map Value.string):=rowM.own (hs.good.own (r:=.row false (.slice a ss.length cap) T 1 ss.length (ss.map Value.string)) (by rw[hμ];simp)) qD
     rcases gA.2 with⟨wA,hz⟩|⟨g,cap',cur,hC,qA,hB,r1,r2,r3,r4⟩
     ·have:ss=[]:=AJ hz;subst this;refine(Tryz.slices_Sort_string_none a cap w).mono ?_;rintro e w' ⟨rfl,rfl⟩;refine⟨m,φ,μ,Ext.refl _ _,⟨hs.good,?_,fun id hid=>hs.dom id (by simpa using hid)⟩,[],rfl,.nil⟩
      simpa[svL,j3i] using hs.sto
     ·cases hC;have hH:Holds encStr w g 0 (ss.map bl).toArray:=holds_of_block hB (by rw[jgd,AZ];simpa using r4)
      have wD:g<w.heap.size:=(CB.1 hB).1;have cS:=Tryz.slices_Sort_string g 0 cap (ss.map bl) w hH wD (by rw[AZ];omega)
      rw[AZ] at cS;refine cS.mono ?_;rintro e w' ⟨rfl,k,os,rfl⟩;rw[jrv];have hg:=grownBy_sorted (w:=w) (g:=g) (n:=k) (os:=os) (j3i (ss.map bl)).toArray;have hlen:(j3i (ss.map bl)).length=ss.length:=by rw[j3C,AZ]
      have hA:=ownsRow_sorted (n:=k) (os:=os) (ss:=ss.map bl) (ts:=j3i (ss.map bl)) (by rw[j3C]) qA hB (by rw[AZ];exact r1) r2 r3
      rw[AZ] at hA;have hφ2:φ 0=some (.row (.slice (some ⟨g,0,none⟩) (j3i (ss.map bl)).length cap) (j3i (ss.map bl)).length 1):=by rw[hlen];exact hφ
      obtain⟨μ',gC,wB⟩:=hs.turn (i:=0) (o':=.row false T 1 (svL (j3i (ss.map bl)))) (r:=.row false (.slice (some ⟨g,0,none⟩) ss.length cap) T 1 ss.length (ss.map Value.string)) (r':=.row false (.slice (some ⟨g,0,none⟩) (j3i (ss.map bl)).length cap) T 1 (j3i (ss.map bl)).length ((j3i (ss.map bl)).map encStr)) (μ1:=[]) (μ2:=[]) (w':=grow (putRow encStr (Sort.ahead w k) g 0 (j3i (ss.map bl)).toArray) os) rfl (by simp) (by rw[hμ];rfl)
       ⟨_,[],rfl,jhh hφ2,rfl⟩ hg.os hg.tape hg.output hg.size (fun b hb hD=>hg.block b hb (fun e=>hD e.symm)) (fun b o v hf hm=>by
        have:=(hs.good.feet (.row false (.slice (some ⟨g,0,none⟩) ss.length cap) T 1 ss.length (ss.map Value.string)) (by rw[hμ];simp) b hf).2 o (DD _)
        rw[hm] at this;cases this) (by rw[hlen];exact j9W hA) (fun b hb=>.inl ⟨hb,AU _⟩)
      exact⟨m,φ,μ',wB,gC,[],rfl,.nil⟩
   ·cases hx
  ·cases hx
 ·cases hx;obtain⟨v,vs',rfl,h1,h2⟩:=hr.uncons;have:vs'=[]:=AJ h2.1.symm;subst this;cases h1 with
  |sl b off g ha hE gD qB wE hr wA=>
   refine(Tryz.slices_Sort_string_none _ _ w).mono ?_;rintro e w' ⟨rfl,rfl⟩;exact⟨m,φ,μ,Ext.refl _ _,hs,[],rfl,.nil⟩
 ·cases hx
theorem jl8:j2Z (j8i Tryz.prog 239) jl0:=fun args st r st' hx w m φ μ vs hs hr=>by
 unfold jl0 at hx;split at hx
 ·rename_i n T xs;split at hx
  ·rename_i ss wD;split at hx
   ·rename_i hb;cases hx;simp only[AB,EB] at hb;have wE:=hb.1.2;obtain rfl:=AH hb.1.1;have hn:=AM hb.2.1;have hG:=AM hb.2.2;have hD:=jaO wD;subst hD;obtain⟨v,vs',rfl,h1,h2⟩:=hr.uncons;have:vs'=[]:=AJ h2.1.symm;subst this;have hE:=one_row hs.sto;obtain⟨a,cap,hφ,hμ⟩:=jh6 hE;cases h1 with
    | @ms _ _ _ n sz sv _ hφ' gC hv wF=>
     rw[hφ] at hφ';cases hφ';obtain rfl:=hv rfl;have gB:w.ownsRow 0 T 1 (.slice a ss.length cap) ss.length (ss.map Value.string):=rowM.own (hs.good.own (r:=.row false (.slice a ss.length cap) T 1 ss.length (ss.map Value.string)) (by rw[hμ];simp)) wE
     rcases gB.2 with⟨kE,hz⟩|⟨g,cap',cur,gD,qB,wC,r1,r2,r3,r4⟩
     ·omega
     ·cases gD;have hH:Holds encStr w g 0 (ss.map bl).toArray:=holds_of_block wC (by rw[jgd,AZ];simpa using r4)
      have cS:=Tryz.slices_Compact_string g 0 cap (ss.map bl) w hH (by rw[AZ];omega) (by rw[AZ];exact r1)
      rw[AZ] at cS;refine cS.mono ?_;rintro e w' ⟨rfl,k,rfl⟩;rw[jl2];generalize qF:j5D (ss.map bl)=cs;have gF:cs.length≤ss.length:=by rw[←qF];have:=jad (ss.map bl);rwa [AZ] at this
      generalize qC:cs++List.replicate (ss.length-cs.length) []=ts;have qD:ts.length=(ss.map bl).length:=by rw[←qC];simp;omega
      have hg:=grownBy_sorted (w:=w) (g:=g) (n:=k) (os:=#[]) ts.toArray;have qA:=ownsRow_sorted (n:=k) (os:=#[]) (ss:=ss.map bl) (ts:=ts) qD qB wC (by rw[AZ];exact r1) r2 r3
      rw[grow_empty] at hg qA;have hA:(putRow encStr (Sort.ahead w k) g 0 ts.toArray).ownsRow 0 T 1 (.slice (some ⟨g,0,none⟩) cs.length cap) cs.length (cs.map encStr):=by
       rcases qA.2 with⟨h0,_⟩|⟨g1,cap1,cur1,e1,e2,e3,e4,e5,e6,e7⟩
       ·cases h0
       ·cases e1;refine⟨by simp,.inr ⟨g,cap,cur1,rfl,e2,e3,by omega,e5,e6,?_⟩⟩
        have:=congrArg (List.take cs.length) e7;rw[List.take_take,←qC,DQ,List.take_left' (by simp)] at this
        rw[FD] at this ⊢
        rwa [AZ,Nat.min_eq_left gF] at this
      have wA:Hb.Good ⟨w,m,feetOf μ⟩ (putRow encStr (Sort.ahead w k) g 0 ts.toArray) m [.row false (.slice (some ⟨g,0,none⟩) cs.length cap) T 1 cs.length (cs.map encStr)]:=by
       have h0:Hb.Good ⟨w,m,feetOf μ⟩ w m (.row false (.slice (some ⟨g,0,none⟩) ss.length cap) T 1 ss.length (ss.map Value.string)::[]):=by rw[←hμ];exact hs.good
       exact h0.turn hg.os hg.tape hg.output hg.size (fun b hb qE=>hg.block b hb (fun e=>qE e.symm)) (fun b o v hf hm=>by
        have:=(h0.feet _ BG b hf).2 o (DD _);rw[hm] at this;cases this) (j9W hA) (fun b hb=>.inl ⟨hb,AU _⟩)
      have kF:=hs.dom 1 (by simp)
      have gC:=j6I (p:=.row (.slice (some ⟨g,0,none⟩) cs.length cap) cs.length 1) kF;refine⟨m,more φ 1 (.row (.slice (some ⟨g,0,none⟩) cs.length cap) cs.length 1),_,⟨gC,by simp,fun id hid=>?_⟩,⟨wA,⟨[],_,rfl,rfl,⟨_,[],(BF _).symm,jhh (j0u _ _ _),rfl⟩⟩,fun id hid=>?_⟩,[.slice (some ⟨g,0,none⟩) cs.length cap],rfl,.cons (.ms (j0u _ _ _) (AU _) (fun _=>rfl) ⟨_,_,_,rfl⟩) .nil⟩
      ·exfalso;cases id with
       |zero=>simp at hid
       |succ id=>simp at hid
      ·simp only[AC,AG] at hid;rw[j0X (by omega)]
       exact hs.dom id (by simp;omega)
   ·cases hx
  ·cases hx
 ·rename_i b0 z0;cases hx;obtain⟨v,vs',rfl,h1,h2⟩:=hr.uncons;have:vs'=[]:=AJ h2.1.symm;subst this;cases h1 with
  | @sl _ _ _ _ a cap b off g ha hC wB hB hF hr0 gA=>
   refine(Tryz.slices_Compact_string_empty a cap w).mono ?_;rintro e w' ⟨rfl,rfl⟩;exact⟨m,φ,μ,Ext.refl _ _,hs,[_],rfl,.cons (R.sl (xs:=[]) b off g ha hC wB hB hF hr0 gA) .nil⟩
 ·cases hx
open Go Go.Am Go.Hb
def memN(l:List Nat)(f:Nat):Bool:=match l with
 |[]=>false
 |g::r=>match Nat.beq f g with
  |true=>true
  |false=>memN r f
def rawL:List Nat:=[279,239,222,384,364,338,340,311]
def jv7:List Nat:=[314,278,240,169,4294967295,82,384,364,338,340,311]
def litL:List Nat:=[45,67]
def fzL:List Nat:=[4294967295,119,151,154,102,112]
def fzcL:List Nat:=[257,213,4294967295,280,237,4294967295,298,4294967295,4294967295,
 366,367,385,388,235,255,198]
def natC:List (FuncId×NatF):=
 (279,jmn)::
 (239,jl0)::
 (393,jlt)::
 nat1
def jto:∀p∈natC,j2Z (j8i Tryz.prog p.1) p.2:=by
 intro p hp;unfold natC at hp;rcases AN.1 hp with rfl|hp
 ·exact jsT
 rcases AN.1 hp with rfl|hp
 ·exact jl8
 rcases AN.1 hp with rfl|hp
 ·exact jsS
 exact jtn p hp
noncomputable def C1:Cfg:=⟨Tryz.prog,memN fzL,memN rawL,memN jv7,memN litL,fun f=>jbT f natC,fun f T=>memN fzcL f && !Nat.beq T 104,fun _=>false,false⟩
def jtZ:jhx C1:=jqU (fun _=>rfl) jto
def jsM(n:Nat):EvOk C1 (ev C1 n):=ji3 (by kernel_rfl) (by kernel_rfl) jtZ n
open Go Go.Am Go.Gw
abbrev iv(n:Int):PV:=.sc (.int .i64 n)
abbrev bv(b:Bool):PV:=.sc (.bool b)
mutual
def LvP:Lv→PV→Prop
 | .mk k n ls,v=>∃b z xs,v=.ag [iv k,iv n,.sl b z xs]∧(z=3∨xs=[])∧LvsP ls xs∧ls.length≤3518437208780
def LvsP:List Lv→List PV→Prop
 |[],xs=>xs=[]
 |l::r,xs=>∃v xs',xs=v::xs'∧LvP l v∧LvsP r xs'
end
def LvsP.len:∀{ls:List Lv}{xs:List PV},LvsP ls xs→xs.length=ls.length
 |[],xs,h=>by simp only[LvsP] at h;simp[h]
 |l::r,xs,h=>by
  simp only[LvsP] at h;obtain⟨v,xs',rfl,_,h⟩:=h;simp[LvsP.len h]
def LvsP.at:∀{ls:List Lv}{xs:List PV}{i:Nat}{l:Lv},LvsP ls xs→ls[i]?=some l→∃v,xs[i]?=some v∧LvP l v
 |[],xs,i,l,_,h=>by simp at h
 |x::r,xs,i,l,h,e=>by
  simp only[LvsP] at h;obtain⟨v,xs',rfl,h1,h2⟩:=h;cases i with
  |zero=>simp at e;subst e;exact⟨v,rfl,h1⟩
  |succ i=>simpa using LvsP.at h2 (by simpa using e)
variable{xs:List PV}{a b:List UInt8}{NM:List UInt8→Prop}{l:Lv}{by_ m n r w:Nat}{x y:Operand}{v:PV}{P:Program}{T:TypeId}
def LvP.open(h:LvP l v):∃k n ls b z xs,l=.mk k n ls∧v=.ag [iv k,iv n,.sl b z xs]∧(z=3∨xs=[])∧LvsP ls xs∧xs.length=ls.length∧ls.length≤3518437208780:=by
 obtain⟨k,n,ls⟩:=l;simp only[LvP] at h;obtain⟨b,z,xs,rfl,hz,hA,hb⟩:=h;exact⟨k,n,ls,b,z,xs,rfl,rfl,hz,hA,hA.len,hb⟩
inductive LvC:PV→Prop where
 |mk (k n:Int) (b:Bool) (z:Nat) (xs:List PV):LvC (.ag [iv k,iv n,.sl b z xs])
def LvP.c(h:LvP l v):LvC v:=by
 obtain⟨k,n,ls,b,z,xs,-,rfl,-⟩:=h.open;exact⟨k,n,b,z,xs⟩
abbrev sv(l:List UInt8):PV:=.sc (str l)
abbrev svs(l:List (List UInt8)):List PV:=l.map sv
mutual
def TmP:Tm→PV→Prop
 | .mk k n s ls ts,v=>∃b z xs c y ys,v=.ag [iv k,iv n,sv s,.sl b z xs,.sl c y ys]∧(z=3∨xs=[])∧LvsP ls xs∧ls.length≤3518437208780∧(y=5∨ys=[])∧TmsP ts ys∧ts.length≤1759218604441∧s.length≤140737488355328∧i64 n
def TmsP:List Tm→List PV→Prop
 |[],xs=>xs=[]
 |l::r,xs=>∃v xs',xs=v::xs'∧TmP l v∧TmsP r xs'
end
def TmsP.len:∀{ls:List Tm}{xs:List PV},TmsP ls xs→xs.length=ls.length
 |[],xs,h=>by simp only[TmsP] at h;simp[h]
 |l::r,xs,h=>by
  simp only[TmsP] at h;obtain⟨v,xs',rfl,_,h⟩:=h;simp[TmsP.len h]
def TmsP.at:∀{ls:List Tm}{xs:List PV}{i:Nat}{l:Tm},TmsP ls xs→ls[i]?=some l→∃v,xs[i]?=some v∧TmP l v
 |[],xs,i,l,_,h=>by simp at h
 |x::r,xs,i,l,h,e=>by
  simp only[TmsP] at h;obtain⟨v,xs',rfl,h1,h2⟩:=h;cases i with
  |zero=>simp at e;subst e;exact⟨v,rfl,h1⟩
  |succ i=>simpa using TmsP.at h2 (by simpa using e)
def TmP.open{t:Tm}(h:TmP t v):∃k n s ls ts b z xs c y ys,t=.mk k n s ls ts∧v=.ag [iv k,iv n,sv s,.sl b z xs,.sl c y ys]∧(z=3∨xs=[])∧LvsP ls xs∧xs.length=ls.length∧ls.length≤3518437208780∧(y=5∨ys=[])∧TmsP ts ys∧ys.length=ts.length∧ts.length≤1759218604441∧s.length≤140737488355328:=by
 obtain⟨k,n,s,ls,ts⟩:=t;simp only[TmP] at h;obtain⟨b,z,xs,c,y,ys,rfl,hz,qA,hb,hy,hA,hc,hs,_⟩:=h;exact⟨k,n,s,ls,ts,b,z,xs,c,y,ys,rfl,rfl,hz,qA,qA.len,hb,hy,hA,hA.len,hc,hs⟩
inductive TmC:PV→Prop where
 |mk (k n:Int) (s:List UInt8) (b:Bool) (z:Nat) (xs:List PV) (c:Bool) (y:Nat) (ys:List PV):TmC (.ag [iv k,iv n,sv s,.sl b z xs,.sl c y ys])
def TmP.c{t:Tm}{v:PV}(h:TmP t v):TmC v:=by
 obtain⟨k,n,s,ls,ts,b,z,xs,c,y,ys,-,rfl,-⟩:=h.open;exact⟨k,n,s,b,z,xs,c,y,ys⟩
def TmP.num{k n:Int}{s:List UInt8}{ls:List Lv}{ts:List Tm}(h:TmP (.mk k n s ls ts) v):i64 n:=by
 simp only[TmP] at h;obtain⟨b,z,xs,c,y,ys,rfl,hz,qA,hb,hy,hA,hc,hs,hn⟩:=h;exact hn
def sadd(h:a.length+b.length≤9223372036854775807):j0i P .add T x y (sv a) (sv b)=some (sv (a++b)):=by
 have:¬(((⟨a.toArray⟩:ByteArray).size+(⟨b.toArray⟩:ByteArray).size:Nat):Int)>IntKind.i64.max:=by
  rw[j2A,j2A];simp[IntKind.max,IntKind.signed,IntKind.bits];omega
 simp only[j0i,j5r,eqGuard,binOp,Op.stringOp,if_neg this,jn3];rfl
def seql:j0i P .eql T x y (sv a) (sv b)=some (bv (a == b)):=by
 simp only[j0i,j5r,eqGuard,binOp,Op.stringOp,j8t];rfl
def sneq:j0i P .neq T x y (sv a) (sv b)=some (bv (!(a == b))):=by
 simp only[j0i,j5r,eqGuard,binOp,Op.stringOp,j8t];rfl
def jvj(op:BinOp)(a b:List UInt8)(K:PV→Prop):Prop:=match op with
 | .add=>VOk (decide (a.length+b.length≤9223372036854775807)) (K (sv (a++b)))
 | .eql=>K (bv (a == b))
 | .neq=>K (bv (!(a == b)))
 |_=>False
def j1w{op:BinOp}{K:PV→Prop}(h:jvj op a b K):VRes (j0i P op T x y (sv a) (sv b)) K:=by
 cases op with
 |add=>exact⟨_,sadd (of_decide_eq_true h.h),h.k⟩
 |eql=>exact⟨_,seql,h⟩
 |neq=>exact⟨_,sneq,h⟩
 |_=>exact h.elim
def jf2(o:SO):Prop:=j8J o=[]∧∀f,soIn f o=true
def j9S:∀{n:Nat}{x:PV},pur n x=true→ids n x=[]∧∀f,j0e f n x=true
 |0,x,h=>by simp[pur] at h
 |n+1,x,h=>by
  have hA:∀{l:List PV},l.all (pur n)=true→l.flatMap (ids n)=[]∧∀f,l.all (j0e f n)=true:=fun{l} hl=>by
   rw[AF] at hl;exact⟨by rw[EJ];exact fun y hy=>(j9S (hl y hy)).1,fun f=>AF.2 fun y hy=>(j9S (hl y hy)).2 f⟩
  cases x with
  |ag cs=>simp only[pur] at h;exact hA h
  |tu cs=>simp only[pur] at h;exact hA h
  |fn f a b=>
   simp only[pur,AB] at h;refine⟨by simp only[ids,(hA h.1).1,(hA h.2).1,BF],fun f=>by simp only[j0e,(hA h.1).2 f,(hA h.2).2 f,CP]⟩
  |ifc t x=>
   simp only[pur] at h;show ids n x=[]∧∀f,j0e f n x=true
   exact j9S (n:=n) h
  |_=>first|(simp[pur] at h;done)|exact⟨rfl,fun _=>rfl⟩
def jp7{cs:List PV}(h:cs.all (pur 8)=true):jf2 (.box T cs):=by
 rw[AF] at h;exact⟨by simp only[j8J];rw[EJ];exact fun y hy=>(j9S (h y hy)).1,fun f=>AF.2 fun y hy=>(j9S (h y hy)).2 f⟩
def PlainL:Sto→Prop
 |[]=>True
 |o::r=>jf2 o∧PlainL r
def PlainL.mem:∀{st:Sto},PlainL st→∀o∈st,jf2 o
 |[],_,o,h=>by cases h
 |a::r,h,o,ho=>by
  rcases AN.1 ho with rfl|ho
  ·exact h.1
  ·exact PlainL.mem h.2 o ho
def j09(l:List (List UInt8)):(svs l).all (pur 8)=true:=by
 rw[AF]
 intro x hx;obtain⟨s,_,rfl⟩:=DC.1 hx;rfl
def j2u(l:List (List UInt8)):(svs l).all (pur 6)=true:=by
 rw[AF]
 intro x hx;obtain⟨s,_,rfl⟩:=DC.1 hx;rfl
def jrG{C:Cfg}{f:FuncId}{b:Bool}{z i:Nat}{st:Sto}{Q:AEnd→Sto→Prop}(hk:C.keep f=false)(hA:st[i]?=some (.row b T z xs))(hn:n=xs.length)(hp:xs.all (pur 6)=true)(k:Q (.ret [.sl false z xs]) []):VRet C f 0 [.ms i n] st Q:=by
 refine⟨[.sl false z xs],[],?_,k⟩;have:(Nat.beq n xs.length&&xs.all (pur 6))=true:=by rw[hp,hn,DG];rfl
 simp only[aret,hk,pubL,mapS,pubV,pubRow,hA,this];rfl
def j0N{t t' a b:Nat}(h:xs.length=n)(ht:Nat.beq t t'=true)(ha:Nat.beq a b=true)(hw:by_=w)(hr:room=r)(h1:m*w≤r)(h2:m≤r):(Nat.beq n xs.length&&Nat.beq t t'&&Nat.beq a b&&fits m by_)=true:=by
 subst h hw hr;rw[ht,ha,DG,fits,BN h1,BN h2];rfl
def j8F{a b:Nat}{e:Bool}(ha:Nat.beq a b=true)(hw:by_=w)(hr:room=r)(h1:m*w≤r)(h2:m≤r):(true&&(Nat.beq a b||e)&&fits m by_)=true:=by
 subst hw hr;rw[ha,fits,BN h1,BN h2];rfl
open Go Go.Am Go.Gw
def jrM(k:Int):Pf C1 272 [iv k] [iv (jcB k)]:=by
 refine gR Tryz.func272 ?_;repeat'(first|refine gU ?_|apply gE<;>intro h)<;>conv=>whnf
 all_goals simp_all[jcB]
def jqZ(l:Lv)(v:PV)(h:LvP l v)(n:Int):Pf C1 233 [v,iv n] [bv (j7G l n)]:=by
 obtain⟨k,nn,ls,b,z,xs,rfl,rfl,hz,hA,hlen,qA⟩:=h.open;refine gR Tryz.func233 ?_;repeat'(first|refine gU ?_|apply gE<;>intro h|refine j01 (jrM _) fun _=>?_|apply gK)<;>conv=>whnf
 all_goals simp_all[jcB,j7G]
 all_goals omega
def jsG(l:Lv):∀v,LvP l v→∀n,Pf C1 176 [v,iv n] [bv (allF l n)]:=by
 induction l using Lv.ind with
 |_ k nn ls ih=>
 intro v h n;have qA:=jqZ _ _ h n;obtain⟨_,_,_,b,z,xs,⟨rfl,rfl,rfl⟩,rfl,hz,wB,hlen,gC⟩:=h.open;refine gR Tryz.func176 ?_;repeat'(first|refine gU ?_|apply gM<;>intro h|refine gX qA ?_)<;>conv=>whnf
 ·refine j04 (G:=Nat) (fun i=>[(14,iv i)]) (fun _=>_) (fun i=>i≤ls.length∧j3n (ls.drop i) n=j3n ls n) (fun i=>ls.length-i) 0 ⟨by omega,rfl⟩ rfl rfl ?_
  rintro i ⟨hi,hA⟩;repeat'(first|refine gU ?_|apply gE<;>intro h)<;>conv=>whnf
  ·have qB:i<ls.length:=by omega
   obtain⟨lc,gA⟩:∃lc,ls[i]?=some lc:=⟨_,AA qB⟩;obtain⟨v,hv,hl⟩:=wB.at gA;have wA:=ih _ (AE gA) _ hl n;obtain⟨k1,n1,l1,b1,z1,x1,rfl,rfl,qC,gB,hB,hC⟩:=hl.open;refine VIdx.mk _ hv (VOk.mk (j0z rfl hz) ?_);repeat'(first|refine gU ?_|apply gM<;>intro h|refine gX wA ?_)<;>conv=>whnf
   ·refine VAgain.mk _ rfl _ (j0a rfl rfl rfl) ⟨i+1,⟨qB,?_⟩,by omega,rfl⟩
    rw[←hA,drop_at gA];simp[j3n,h]
   ·rw[drop_at gA] at hA;simp only[j3n] at hA;have:j3n ls n=false:=by rw[←hA];simp[h]
    simp[allF,this]
  ·have:i=ls.length:=by omega
   subst this;rw[BU] at hA
   simp_all[allF,j3n]
 ·simp_all[allF]
def jnt(l:Lv):∀v,LvP l v→∀(left:Int),0≤left→left≤1000000→Finds C1 232 [v,.bp 0 0] [.box 3 [iv left]] fun r st=>r=.ret []∧st=[.box 3 [iv (j1T l left)]]:=by
 induction l using Lv.ind with
 |_ k nn ls ih=>
 intro v h left h0 h1;obtain⟨_,_,_,b,z,xs,⟨rfl,rfl,rfl⟩,rfl,hz,wB,hlen,wC⟩:=h.open;refine gR Tryz.func232 ?_;repeat'(refine gU ?_)<;>conv=>whnf
 refine j04 (G:=Nat×Int) (fun g=>[(14,iv g.1)]) (fun g=>[.box 3 [iv g.2],_]) (fun g=>g.1≤ls.length∧-1≤g.2∧g.2≤1000000∧j0H (ls.drop g.1) g.2=j0H ls (left-1)) (fun g=>ls.length-g.1) (0,left-1) ⟨by omega,by dsimp only;omega,by dsimp only;omega,rfl⟩ rfl rfl ?_
 rintro⟨i,lf⟩ ⟨hi,gA,qA,hA⟩;dsimp only at hi gA qA hA⊢;repeat'(first|refine gU ?_|apply gE<;>intro h)<;>conv=>whnf
 ·have qB:i<ls.length:=by omega
  obtain⟨lc,wA⟩:∃lc,ls[i]?=some lc:=⟨_,AA qB⟩;obtain⟨v,hv,hl⟩:=wB.at wA;obtain⟨k1,n1,l1,b1,z1,x1,rfl,rfl,qC,gB,hB,hC⟩:=hl.open;refine VIdx.mk _ hv (VOk.mk (j0z rfl hz) ?_);repeat'(first|refine gU ?_|apply gE<;>intro h)<;>conv=>whnf
  ·have:j1T (.mk k nn ls) left=lf:=by rw[j1T,←hA,j4g _ _ (by omega)]
   exact⟨rfl,by rw[this];rfl⟩
  ·refine j0K rfl rfl rfl rfl rfl rfl (Finds.mono (ih _ (AE wA) _ hl lf (by omega) (by omega)) ?_)
   rintro _ _ ⟨rfl,rfl⟩;refine j1z rfl ?_;repeat'(refine gU ?_)<;>conv=>whnf
   have gC:=j6w (.mk k1 n1 l1) lf (by omega)
   refine VAgain.mk _ rfl _ (j0a rfl rfl rfl) ⟨(i+1,j1T (.mk k1 n1 l1) lf),⟨qB,by dsimp only;omega,by dsimp only;omega,?_⟩,by dsimp only;omega,rfl⟩
   rw[←hA,drop_at wA,j0H,if_neg (by omega)]
 ·have:j1T (.mk k nn ls) left=lf:=by
   obtain rfl:i=ls.length:=by omega
   rw[BU,j0H] at hA;rw[j1T,←hA]
  exact⟨rfl,by rw[this];rfl⟩
def jgM(l:Lv)(v:PV)(h:LvP l v):Pf C1 175 [v] [iv (j6l l)]:=by
 have h0:=h;obtain⟨k,nn,ls,b,z,xs,rfl,rfl,hz,hA,hlen,gA⟩:=h.open;have qA:=j6w (.mk k nn ls) 64 (by omega)
 refine gR Tryz.func175 ?_;repeat'(refine gU ?_)<;>conv=>whnf
 refine j0K rfl rfl rfl rfl rfl rfl (Finds.mono (jnt _ _ h0 64 (by omega) (by omega)) ?_)
 rintro _ _ ⟨rfl,rfl⟩;refine j1z rfl ?_;repeat'(refine gU ?_)<;>conv=>whnf
 all_goals simp only[j6l,jk7]
 all_goals simp_all
 all_goals omega
def j2W(l:Lv)(v:PV)(h:LvP l v)(n:Int):Pf C1 106 [v,iv n] [bv (j0C l n)]:=by
 have hn:=jgM l v h;have ha:=jsG l v h n;obtain⟨k,nn,ls,b,z,xs,rfl,rfl,hz,hA,hlen,qA⟩:=h.open;refine gR Tryz.func106 ?_;repeat'(first|refine gU ?_|apply gE<;>intro h|refine gX hn ?_|refine gX ha ?_)<;>conv=>whnf
 all_goals simp_all[j0C,retV]
 all_goals omega
def j4o(a b:Int):(if b<a then b else a)=min a b:=by
 by_cases h:b<a
 ·rw[if_pos h];omega
 ·rw[if_neg h];omega
def j4q(l:Lv):1≤j0T l:=by cases l;simp[j0T]
def j4J(l:Lv):∀v,LvP l v→∀(q:Int),0≤q→q≤1000000→Pf C1 103 [v,iv q] [iv (lnF l q)]:=by
 induction l using Lv.ind with
 |_ k nn ls ih=>
 intro v h q h0 h1;obtain⟨_,_,_,b,z,xs,⟨rfl,rfl,rfl⟩,rfl,hz,gB,hlen,qD⟩:=h.open;refine gR Tryz.func103 ?_;all_goals try conv=>whnf
 refine j04 (G:=Nat×Int) (fun g=>[(6,iv g.1),(5,iv g.2)]) (fun g=>_) (fun g=>g.1≤ls.length∧1≤g.2∧g.2≤2*q+2∧lnFs (ls.drop g.1) g.2 q=lnFs ls 1 q) (fun g=>ls.length-g.1) (0,1) ⟨by omega,by dsimp only;omega,by dsimp only;omega,rfl⟩ rfl rfl ?_
 rintro⟨i,acc⟩ ⟨hi,gC,qC,hA⟩;dsimp only at hi gC qC hA⊢;repeat'(first|refine gU ?_|apply gE<;>intro h)<;>conv=>whnf
 ·have hB:i<ls.length:=by omega
  obtain⟨lc,qA⟩:∃lc,ls[i]?=some lc:=⟨_,AA hB⟩;obtain⟨v,hv,hl⟩:=gB.at qA;have gA:=ih _ (AE qA) _ hl q h0 h1;have hx:=jbK lc q h0;have hD:=j4q lc;obtain⟨k1,n1,l1,b1,z1,x1,rfl,rfl,wC,qB,wA,hC⟩:=hl.open;refine VIdx.mk _ hv (VOk.mk (j0z rfl hz) ?_);repeat'(first|refine gU ?_|refine gX gA ?_)<;>conv=>whnf
  refine VAgain.mk _ rfl _ (j0a rfl rfl rfl) ⟨(i+1,acc+lnF (.mk k1 n1 l1) q),⟨hB,by dsimp only;omega,by dsimp only;omega,?_⟩,by dsimp only;omega,rfl⟩
  rw[←hA,drop_at qA,lnFs,if_pos (by omega)]
 all_goals
  have e:lnFs ls 1 q=acc:=by
   rw[←hA]
   by_cases wB:i<ls.length
   ·obtain⟨lc,qA⟩:∃lc,ls[i]?=some lc:=⟨_,AA wB⟩;rw[drop_at qA,lnFs,if_neg (by omega)]
   ·rw[AV (by omega),lnFs]
  rw[lnF,e,←j4o]
open Go Go.Am Go.Gw
mutual
def NmT(NM:List UInt8→Prop):Tm→Prop
 | .mk _ _ s _ ts=>NM s∧NmTs NM ts
def NmTs(NM:List UInt8→Prop):List Tm→Prop
 |[]=>True
 |t::r=>NmT NM t∧NmTs NM r
end
def NmTs.mem{NM:List UInt8→Prop}:∀{ts:List Tm},NmTs NM ts→∀t∈ts,NmT NM t
 |[],_,t,h=>by cases h
 |a::r,h,t,ht=>by
  simp only[NmTs] at h;rcases AN.1 ht with rfl|ht
  ·exact h.1
  ·exact NmTs.mem h.2 t ht
def NmOk(NM:List UInt8→Prop):Prop:=∀s,NM s→Pf C1 121 [sv s] [bv (j2f s)]
def jpJ(l:Lv):∀v,LvP l v→∀(left:Int),0≤left→left≤1000000→Finds C1 260 [v,.bp 0 0] [.box 3 [iv left]] fun r st=>r=.ret []∧st=[.box 3 [iv (j1T l left)]]:=by
 induction l using Lv.ind with
 |_ k nn ls ih=>
 intro v h left h0 h1;obtain⟨_,_,_,b,z,xs,⟨rfl,rfl,rfl⟩,rfl,hz,wB,hlen,wC⟩:=h.open;refine gR Tryz.func260 ?_;repeat'(refine gU ?_)<;>conv=>whnf
 refine j04 (G:=Nat×Int) (fun g=>[(14,iv g.1)]) (fun g=>[.box 3 [iv g.2],_]) (fun g=>g.1≤ls.length∧-1≤g.2∧g.2≤1000000∧j0H (ls.drop g.1) g.2=j0H ls (left-1)) (fun g=>ls.length-g.1) (0,left-1) ⟨by omega,by dsimp only;omega,by dsimp only;omega,rfl⟩ rfl rfl ?_
 rintro⟨i,lf⟩ ⟨hi,gA,qA,hA⟩;dsimp only at hi gA qA hA⊢;repeat'(first|refine gU ?_|apply gE<;>intro h)<;>conv=>whnf
 ·have qB:i<ls.length:=by omega
  obtain⟨lc,wA⟩:∃lc,ls[i]?=some lc:=⟨_,AA qB⟩;obtain⟨v,hv,hl⟩:=wB.at wA;obtain⟨k1,n1,l1,b1,z1,x1,rfl,rfl,qC,gB,hB,hC⟩:=hl.open;refine VIdx.mk _ hv (VOk.mk (j0z rfl hz) ?_);repeat'(first|refine gU ?_|apply gE<;>intro h)<;>conv=>whnf
  ·have:j1T (.mk k nn ls) left=lf:=by rw[j1T,←hA,j4g _ _ (by omega)]
   exact⟨rfl,by rw[this];rfl⟩
  ·refine j0K rfl rfl rfl rfl rfl rfl (Finds.mono (ih _ (AE wA) _ hl lf (by omega) (by omega)) ?_)
   rintro _ _ ⟨rfl,rfl⟩;refine j1z rfl ?_;repeat'(refine gU ?_)<;>conv=>whnf
   have gC:=j6w (.mk k1 n1 l1) lf (by omega)
   refine VAgain.mk _ rfl _ (j0a rfl rfl rfl) ⟨(i+1,j1T (.mk k1 n1 l1) lf),⟨qB,by dsimp only;omega,by dsimp only;omega,?_⟩,by dsimp only;omega,rfl⟩
   rw[←hA,drop_at wA,j0H,if_neg (by omega)]
 ·have:j1T (.mk k nn ls) left=lf:=by
   obtain rfl:i=ls.length:=by omega
   rw[BU,j0H] at hA;rw[j1T,←hA]
  exact⟨rfl,by rw[this];rfl⟩
def jl4(t:Tm):∀v,TmP t v→∀(left:Int),0≤left→left≤1000000→Finds C1 216 [v,.bp 0 0] [.box 3 [iv left]] fun r st=>r=.ret []∧st=[.box 3 [iv (cntT t left)]]:=by
 induction t using Tm.ind with
 |_ k nn s ls ts ih=>
 intro v h left h0 h1;obtain⟨_,_,_,_,_,b,z,xs,c,y,ys,⟨rfl,rfl,rfl,rfl,rfl⟩,rfl,hz,wE,hlen,hG,hy,qE,hlen2,qF,wF⟩:=h.open;refine gR Tryz.func216 ?_;repeat'(refine gU ?_)<;>conv=>whnf
 refine j04 (G:=Nat×Int) (fun g=>[(16,iv g.1)]) (fun g=>[.box 3 [iv g.2],_]) (fun g=>g.1≤ls.length∧-1≤g.2∧g.2≤1000000∧j0H (ls.drop g.1) g.2=j0H ls (left-1)) (fun g=>ls.length-g.1) (0,left-1) ⟨by omega,by dsimp only;omega,by dsimp only;omega,rfl⟩ rfl rfl ?_
 rintro⟨i,lf⟩ ⟨hi,hC,wB,qA⟩;dsimp only at hi hC wB qA⊢;repeat'(first|refine gU ?_|apply gE<;>intro h)<;>conv=>whnf
 ·have gD:i<ls.length:=by omega
  obtain⟨lc,hD⟩:∃lc,ls[i]?=some lc:=⟨_,AA gD⟩;obtain⟨v,hv,hl⟩:=wE.at hD;have hu:=jpJ lc _ hl;obtain⟨k1,n1,l1,b1,z1,x1,rfl,rfl,hE,wA,gA,gC⟩:=hl.open;refine VIdx.mk _ hv (VOk.mk (j0z rfl hz) ?_);repeat'(first|refine gU ?_|apply gE<;>intro h)<;>conv=>whnf
  ·have:cntT (.mk k nn s ls ts) left=lf:=by rw[cntT,←qA,j4g _ _ (by omega),j4P _ _ (by omega)]
   exact⟨rfl,by rw[this];rfl⟩
  ·refine j0K rfl rfl rfl rfl rfl rfl (Finds.mono (hu lf (by omega) (by omega)) ?_)
   rintro _ _ ⟨rfl,rfl⟩;refine j1z rfl ?_;repeat'(refine gU ?_)<;>conv=>whnf
   have kF:=j6w (.mk k1 n1 l1) lf (by omega)
   refine VAgain.mk _ rfl _ (j0a rfl rfl rfl) ⟨(i+1,j1T (.mk k1 n1 l1) lf),⟨gD,by dsimp only;omega,by dsimp only;omega,?_⟩,by dsimp only;omega,rfl⟩
   rw[←qA,drop_at hD,j0H,if_neg (by omega)]
 ·have wC:j0H ls (left-1)=lf:=by
   obtain rfl:i=ls.length:=by omega
   rw[BU,j0H] at qA;exact qA.symm
  refine j04 (G:=Nat×Int) (fun g=>[(31,iv g.1)]) (fun g=>[.box 3 [iv g.2],_]) (fun g=>g.1≤ts.length∧-1≤g.2∧g.2≤1000000∧j5B (ts.drop g.1) g.2=j5B ts lf) (fun g=>ts.length-g.1) (0,lf) ⟨by omega,by dsimp only;omega,by dsimp only;omega,rfl⟩ rfl rfl ?_
  rintro⟨j,lg⟩ ⟨hj,gB,qB,hA⟩;dsimp only at hj gB qB hA⊢;repeat'(first|refine gU ?_|apply gE<;>intro h)<;>conv=>whnf
  ·have qD:j<ts.length:=by omega
   obtain⟨tc,hB⟩:∃tc,ts[j]?=some tc:=⟨_,AA qD⟩;obtain⟨v,hv,hl⟩:=qE.at hB;obtain⟨k1,n1,s1,l1,t1,b1,z1,x1,c1,y1,ys1,rfl,rfl,hE,wA,gA,gC,gF,kE,qC,wD,hF⟩:=hl.open;refine VIdx.mk _ hv (VOk.mk (j0z rfl hy) ?_);repeat'(first|refine gU ?_|apply gE<;>intro h)<;>conv=>whnf
   ·have:cntT (.mk k nn s ls ts) left=lg:=by rw[cntT,wC,←hA,j4P _ _ (by omega)]
    exact⟨rfl,by rw[this];rfl⟩
   ·refine j0K rfl rfl rfl rfl rfl rfl (Finds.mono (ih _ (AE hB) _ hl lg (by omega) (by omega)) ?_)
    rintro _ _ ⟨rfl,rfl⟩;refine j1z rfl ?_;repeat'(refine gU ?_)<;>conv=>whnf
    have kF:=jek (.mk k1 n1 s1 l1 t1) lg (by omega)
    refine VAgain.mk _ rfl _ (j0a rfl rfl rfl) ⟨(j+1,cntT (.mk k1 n1 s1 l1 t1) lg),⟨qD,by dsimp only;omega,by dsimp only;omega,?_⟩,by dsimp only;omega,rfl⟩
    rw[←hA,drop_at hB,j5B,if_neg (by omega)]
  ·have:cntT (.mk k nn s ls ts) left=lg:=by
    obtain rfl:j=ts.length:=by omega
    rw[BU,j5B] at hA;rw[cntT,wC,←hA]
   exact⟨rfl,by rw[this];rfl⟩
def j2h(t:Tm)(v:PV)(h:TmP t v):Pf C1 163 [v] [iv (j0A t)]:=by
 have h0:=h;obtain⟨k,nn,s,ls,ts,b,z,xs,c,y,ys,rfl,rfl,hz,gA,hlen,qB,hy,qA,hlen2,hA,wA⟩:=h.open;have hB:=jek (.mk k nn s ls ts) 2000 (by omega)
 refine gR Tryz.func163 ?_;repeat'(refine gU ?_)<;>conv=>whnf
 refine j0K rfl rfl rfl rfl rfl rfl (Finds.mono (jl4 _ _ h0 2000 (by omega) (by omega)) ?_)
 rintro _ _ ⟨rfl,rfl⟩;refine j1z rfl ?_;repeat'(refine gU ?_)<;>conv=>whnf
 all_goals simp only[j0A,jk7]
 all_goals simp_all
 all_goals omega
def j6X(a l b:Int):PV:=.ag [iv a,iv l,iv b]
def jtB:List PV:=[j6X 0 0 0,j6X 0 0 (-1),j6X 0 1 (-1),j6X 0 0 (-1),j6X 2 0 (-1),j6X 2 0 1,j6X 2 0 1,j6X 3 0 2]
def jmm:∃b,Pf C1 261 [] [.sl b 3 jtB]:=by
 first
  |exact⟨true,jp4 (st':=[]) 3 (by kernel_rfl)⟩
  |exact⟨false,jp4 (st':=[]) 3 (by kernel_rfl)⟩
def jml(k:Int):Pf C1 217 [iv k] [j6X (j0Y k) (j0G k) (if 1≤k∧k≤7 then j0g k else 0),bv (decide (1≤k)&&decide (k≤7))]:=by
 obtain⟨b,hs⟩:=jmm;refine gR Tryz.func217 ?_;repeat'(first|refine gU ?_|apply gE<;>intro h|refine gX hs ?_)<;>conv=>whnf
 ·have:¬(1≤k∧k≤7):=by omega
  rw[j0Y,if_neg (by omega),if_neg (by omega),j0G,if_neg (by omega),if_neg this]
  simp;exact⟨rfl,by omega⟩
 ·have:¬(1≤k∧k≤7):=by omega
  rw[j0Y,if_neg (by omega),if_neg (by omega),j0G,if_neg (by omega),if_neg this]
  simp;exact⟨rfl,by omega⟩
 ·obtain rfl|rfl|rfl|rfl|rfl|rfl|rfl:k=1∨k=2∨k=3∨k=4∨k=5∨k=6∨k=7:=by omega
  all_goals
   repeat'(first|refine gU ?_|refine VIdx.mk _ rfl ?_)<;>conv=>whnf
   rfl
def joi(a l b i d:Int)(hd:d≤4611686018427387904)(hA:0≤d):Pf C1 219 [j6X a l b,iv i,iv d] [iv (j0n b i d)]:=by
 refine gR Tryz.func219 ?_;repeat'(first|refine gU ?_|apply gE<;>intro h)<;>conv=>whnf
 all_goals simp_all[j0n]
def joW(t:Tm)(v:PV)(h:TmP t v)(a b kk:Int)(hA:Pf C1 121 [sv t.name] [bv (j2f t.name)]):Pf C1 218 [v,j6X a (j0G t.kind) b,iv kk] [bv (j2Q t kk)]:=by
 obtain⟨k,n,s,ls,ts,b,z,xs,c,y,ys,rfl,rfl,hz,wA,hlen,qB,hy,gA,hlen2,qA,hB⟩:=h.open;simp only[Tm.name,Tm.kind] at hA⊢;refine gR Tryz.func218 ?_;repeat'(first|refine gU ?_|apply gE<;>intro h|apply gM<;>intro h|refine gX hA ?_|refine VRes.mk _ seql ?_)<;>conv=>whnf
 all_goals simp_all[j2Q]
 all_goals first|done|omega|(intros;omega)
def jq3(kH:NmOk NM)(t:Tm):∀v,TmP t v→NmT NM t→∀n kk:Int,0≤kk→kk+depT t≤2251799813685248→Pf C1 164 [v,iv n,iv kk] [bv (allT t n kk)]:=by
 induction t using Tm.ind with
 |_ k nn s ls ts ih=>
 intro v h qC n kk qG kG;simp only[NmT] at qC;have wA:=fun a b=>joW _ v h a b kk (kH s qC.1)
 have hG:=jml k;obtain⟨_,_,_,_,_,b,z,xs,c,y,ys,⟨rfl,rfl,rfl,rfl,rfl⟩,rfl,hz,qF,hlen,wH,hy,kF,hlen2,hH,gH⟩:=h.open;simp only[Tm.kind] at wA;rw[depT] at kG;refine gR Tryz.func164 ?_;repeat'(first|refine gU ?_|apply gE<;>intro h|apply gM<;>intro h|refine gX hG ?_|refine gX (wA _ _) ?_)<;>conv=>whnf
 ·have wC:1≤k∧k≤7:=by simp_all
  have qA:allT (.mk k nn s ls ts) n kk=(j1j ls n&&j0M ts k 0 n kk):=by simp_all[allT]
  rw[if_pos wC];refine j04 (G:=Nat) (fun i=>[(39,iv i)]) (fun _=>_) (fun i=>i≤ls.length∧j1j (ls.drop i) n=j1j ls n) (fun i=>ls.length-i) 0 ⟨by omega,rfl⟩ rfl rfl ?_
  rintro i ⟨hi,gA⟩;repeat'(first|refine gU ?_|apply gE<;>intro h)<;>conv=>whnf
  ·have kE:i<ls.length:=by omega
   obtain⟨lc,wD⟩:∃lc,ls[i]?=some lc:=⟨_,AA kE⟩;obtain⟨v,hv,hl⟩:=qF.at wD;have hr:=j2W lc _ hl n;obtain⟨k1,n1,l1,b1,z1,x1,rfl,rfl,wE,gB,qB,qD⟩:=hl.open;refine VIdx.mk _ hv (VOk.mk (j0z rfl hz) ?_);rw[drop_at wD] at gA;simp only[j1j] at gA;repeat'(first|refine gU ?_|apply gM<;>intro h|refine gX hr ?_)<;>conv=>whnf
   ·refine VAgain.mk _ rfl _ (j0a rfl rfl rfl) ⟨i+1,⟨kE,?_⟩,by omega,rfl⟩
    rw[←gA,h];rfl
   ·have:j1j ls n=false:=by
     rw[←gA,h];rfl
    rw[qA,this];rfl
  ·have gD:j1j ls n=true:=by
    rw[←gA,AV (by omega)]
    rfl
   refine j04 (G:=Nat) (fun i=>[(51,iv i)]) (fun _=>_) (fun j=>j≤ts.length∧j0M (ts.drop j) k j n kk=j0M ts k 0 n kk) (fun i=>ts.length-i) 0 ⟨by omega,rfl⟩ rfl rfl ?_
   rintro j ⟨hj,hA⟩;repeat'(first|refine gU ?_|apply gE<;>intro h)<;>conv=>whnf
   ·have hE:j<ts.length:=by omega
    obtain⟨tc,wB⟩:∃tc,ts[j]?=some tc:=⟨_,AA hE⟩;obtain⟨v,hv,hl⟩:=kF.at wB;have hB:=AE wB;have wG:=j6x hB;have gG:=joi (j0Y k) (j0G k) (j0g k) j kk (by omega) qG
    have hD:0≤j0n (j0g k) j kk∧j0n (j0g k) j kk≤kk+1:=by unfold j0n;split<;>omega
    have hC:=ih _ hB _ hl (qC.2.mem _ hB) n (j0n (j0g k) j kk) hD.1 (by omega)
    obtain⟨k1,n1,s1,l1,t1,b1,z1,x1,c1,y1,ys1,rfl,rfl,wE,gB,qB,qD,qH,hF,gC,qE,wF⟩:=hl.open;refine VIdx.mk _ hv (VOk.mk (j0z rfl hy) ?_);rw[drop_at wB] at hA;simp only[j0M] at hA;repeat'(first|refine gU ?_|apply gM<;>intro h|refine j01 gG fun _=>?_|refine j01 hC fun _=>?_|apply gK)<;>conv=>whnf
    ·refine VAgain.mk _ rfl _ (j0a rfl rfl rfl) ⟨j+1,⟨hE,?_⟩,by omega,rfl⟩
     rw[←hA,h,GL];rfl
    ·have:j0M ts k 0 n kk=false:=by
      rw[←hA,h];rfl
     rw[qA,gD,this];rfl
   ·have gF:j0M ts k 0 n kk=true:=by
     rw[←hA,AV (by omega)]
     rfl
    rw[qA,gD,gF];rfl
 all_goals simp_all[allT]
 all_goals first|done|omega|(intros;omega)
def jmf(gA:NmOk NM)(t:Tm)(v:PV)(h:TmP t v)(hA:NmT NM t)(n kk:Int):Pf C1 99 [v,iv n,iv kk] [bv (j0s t n kk)]:=by
 have hn:=j2h t v h;have ha:=fun(h0:0≤kk) (h1:j0A t≤2000)=>jq3 gA t v h hA n (min kk 1125899906842624) (by omega) (by have:=jbW h1;omega)
 rw[show min kk 1125899906842624=if 1125899906842624<kk then 1125899906842624 else kk from(j4o _ _).symm] at ha
 obtain⟨k,nn,s,ls,ts,b,z,xs,c,y,ys,rfl,rfl,hz,hB,hlen,gB,hy,wA,hlen2,qA,qB⟩:=h.open;refine gR Tryz.func99 ?_;repeat'(first|refine gU ?_|apply gE<;>intro h|refine gX hn ?_|refine gX (ha (by assumption) (by assumption)) ?_)<;>conv=>whnf
 all_goals simp only[j0s,←j4o]
 all_goals simp_all
 all_goals first|done|rfl|omega|(intros;omega)
