/- The library's functions at their word, for the plain machine: what the shelf says of them. -/
import Derived.Test.YtnfbeplfnblgjaaGreatDoorZNg
import Derived.Test.YtnfbeplfnblgjaaGreatDoorZShelf
import Derived.Lib.AppendIntMem
import Derived.Test.YtnfbeplfnblgjaaGreatDoorZSo
import Derived.Sort.OwnSorted
set_option linter.all false
namespace Go.Am
open Go Go.Hb Go.RowKit
variable{f:FuncId}{F:List PV→Option (List PV)}{vs:List Value}{m:Mem}{x:PV}{P:Program}{v:Value}{w w':World}
theorem Good.under{E:Entry}{μ:Own}(h:Hb.Good E w m μ)(hb:Below w.heap.size w w'):Hb.Good E w' m μ:=
 ⟨hb.os.trans h.os,hb.tape.trans h.tape,hb.output.trans h.output,Nat.le_trans h.size hb.size,fun b hlt hF=>(hb.block b (Nat.lt_of_lt_of_le hlt h.size)).trans (h.keep b hlt hF),
  fun b o v e=>(let⟨c,T,fr,h1,h2⟩:=h.sub b o v e;⟨c,T,fr,(hb.block b (mem_lt h1)).trans h1,h2⟩),h.mem,h.fresh,fun r hr=>Res.holds_of (h.holds r hr) (fun b hf=>hb.block b (Res.holds_lt (h.holds r hr) hf)),h.feet,h.apart,
  fun b cs hc=>(let⟨⟨cs',T,fr,hp,h1⟩,h2⟩:=h.glob b cs hc;⟨⟨cs',T,fr,hp,(hb.block b (mem_lt h1)).trans h1⟩,h2⟩)⟩
theorem Good.below{m':Mem}{μ':Own}{F:Nat→Prop}(h:Hb.Good ⟨w,m,F⟩ w' m' μ')(hF:∀b,¬F b):Below w.heap.size w w':=
 ⟨h.os,h.tape,h.output,h.size,fun b hb=>h.keep b hb (hF b)⟩
def j3I(P:Program)(f:FuncId)(F:List PV→Option (List PV)):Prop:=∀args rs,F args=some rs→∀w m vs,Hb.Good ⟨w,m,fun _=>False⟩ w m []→Rl m noPh args vs →
 Calls P f vs.toArray w fun en w'=>∃m' us,Hb.Good ⟨w,m,fun _=>False⟩ w' m' []∧en=.returned (Gw.tup us)∧Rl m' noPh rs us
theorem j0C(h:j3I P f F):DoesOk (CallD P f) (natP F):=fun args st r st' hx w m φ μ vs hs hr=>by
 unfold natP at hx;split at hx
 ·split at hx
  ·rename_i rs hf;cases hx;have hμ:μ=[]:=hs.sto;subst hμ;have hfeet:feetOf ([]:Own)=fun _=>False:=by funext b;simp[feetOf]
   have hφ:φ=noPh:=by funext id;exact hs.dom id (Nat.zero_le _)
   subst hφ;rw[hfeet] at hs;refine(h args rs hf w m vs hs.good hr).mono fun en w' ⟨m',us,h1,h2,h3⟩=>?_
   rw[hfeet];exact⟨m',noPh,[],Ext.refl _ _,⟨h1,rfl,fun _ _=>rfl⟩,us,h2,h3⟩
  ·cases hx
 ·cases hx
theorem j0t(h:∀args rs,F args=some rs→∀w m vs,Hb.Good ⟨w,m,fun _=>False⟩ w m []→Rl m noPh args vs →
  ∃us,Rl m noPh rs us∧Calls P f vs.toArray w fun en w'=>en=.returned (Gw.tup us)∧Below w.heap.size w w'):j3I P f F:=fun args rs hF w m vs hg hr=>by
 obtain⟨us,h1,h2⟩:=h args rs hF w m vs hg hr;exact h2.mono fun en w' ⟨h3,h4⟩=>⟨m,us,Good.under hg h4,h3,h1⟩
theorem Rl.one(h:Rl m noPh [x] vs):∃v,vs=[v]∧R m noPh x v:=by
 obtain⟨v,vs',rfl,h1,h2⟩:=h.uncons;have:vs'=[]:=List.eq_nil_of_length_eq_zero h2.1.symm;exact⟨v,by rw[this],h1⟩
theorem Rl.two{y:PV}(h:Rl m noPh [x,y] vs):∃u v,vs=[u,v]∧R m noPh x u∧R m noPh y v:=by
 obtain⟨u,vs',rfl,h1,h2⟩:=h.uncons;obtain⟨v,rfl,h3⟩:=h2.one;exact⟨u,v,rfl,h1,h3⟩
theorem Rl.sc1(h:isSc v=true):Rl m noPh [.sc v] [v]:=.cons (.sc h) .nil
theorem Rl.sc2{u:Value}(h:isSc u=true)(h':isSc v=true):Rl m noPh [.sc u,.sc v] [u,v]:=.cons (.sc h) (Rl.sc1 h')
def strOf:PV→Option ByteArray
 | .sc (.string s)=>some s
 |_=>none
def bl(s:ByteArray):List UInt8:=s.data.toList
def ls(l:List UInt8):Value:=.string ⟨l.toArray⟩
def j3m:List PV→Option (List PV)
 |[.sc (.string s),.sc (.string p)]=>some [.sc (ls (Lib.trimPrefix (bl s) (bl p))),.sc (.bool (Lib.hasPrefix (bl s) (bl p)))]
 |_=>none
def j1H:List PV→Option (List PV)
 |[.sc (.string s),.sc (.string p)]=>some [.sc (.bool (Lib.hasPrefix (bl s) (bl p)))]
 |_=>none
def digK:Nat→Nat→List UInt8
 |0,_=>[]
 |k+1,n=>match Nat.blt n 10 with
  |true=>[UInt8.ofNat (48+n)]
  |false=>digK k (n/10)++[UInt8.ofNat (48+n%10)]
theorem j7f:∀{k n:Nat},n<10^(k+1)→digK (k+1) n=Lib.decDigits n
 |k,n,h=>by
  rw[digK,Lib.decDigits]
  by_cases hn:n<10
  ·rw[dif_pos hn];have:Nat.blt n 10=true:=by rw[Nat.blt_eq];exact hn
   rw[this]
  ·rw[dif_neg hn];have:Nat.blt n 10=false:=by rw[Bool.eq_false_iff];intro e;rw[Nat.blt_eq] at e;exact hn e
   rw[this];simp only;cases k with
   |zero=>simp at h;omega
   |succ k=>rw[j7f (by rw[Nat.pow_succ] at h;omega)]
def jbB(n:Int):List UInt8:=match n with
 | .ofNat q=>digK 20 q
 | .negSucc q=>45::digK 20 (q+1)
theorem j8b{n:Int}(h:n.natAbs≤9223372036854775807):jbB n=Lib.itoa n:=by
 cases n with
 |ofNat q=>
  simp only[jbB,Lib.itoa];rw[if_neg (by simp),j7f (by simp at h;omega)]
  rfl
 |negSucc q=>
  simp only[jbB,Lib.itoa];rw[if_pos (Int.negSucc_lt_zero q),j7f (by simp at h;omega)]
  rfl
def jbA:List PV→Option (List PV)
 |[.sc (.int .i64 n)]=>match Nat.ble n.natAbs 9223372036854775807 with
  |true=>some [.sc (ls (jbB n))]
  |false=>none
 |_=>none
def jcp:List PV→Option (List PV)
 |[.sc (.string s)]=>match Nat.ble (bl s).length 18,Lib.atoi (bl s) with
  |true,some n=>some [.sc (.int .i64 n),.sc .nilIface]
  |_,_=>none
 |_=>none
def ascii(l:List UInt8):Bool:=l.all fun b=>Nat.blt b.toNat 128
def j3Y:List PV→Option (List PV)
 |[.sc (.string s),.sc (.string c)]=>match Nat.ble (bl s).length 1000000&&Nat.ble (bl c).length 1000000&&(ascii (bl s)&&ascii (bl c)) with
  |true=>some [.sc (.int .i64 (Lib.indexAny (bl s) (bl c)))]
  |false=>none
 |_=>none
def jah:List PV→Option (List PV)
 |[.sc (.string s),.sc (.string c)]=>match bl c with
  |[b]=>some [.sc (.int .i64 (Lib.indexByte (bl s) b))]
  |_=>none
 |_=>none
def jaq:List PV→Option (List PV)
 |[.sl _ _ xs,.sc (.string sep)]=>match mapO strOf xs with
  |some ss=>match Nat.ble ss.length 1000000000&&Nat.ble (Lib.join (ss.map bl) (bl sep)).length 1000000000 with
   |true=>some [.sc (ls (Lib.join (ss.map bl) (bl sep)))]
   |false=>none
  |none=>none
 |_=>none
def j1N(c:Nat):Bool:=decide (97≤c∧c≤122∨48≤c∧c≤57∨c=95)
def j3o(g:FuncId):List PV→Option (List PV)
 |[.sc (.string s),.fn f [] []]=>match Nat.beq f g with
  |true=>some [.sc (.int .i64 (Lib.idxFunc (fun c=>!j1N c) true s))]
  |false=>none
 |_=>none
theorem jdc(s:ByteArray):(⟨(bl s).toArray⟩:ByteArray)=s:=by unfold bl;simp
theorem j3d:∀{xs:List PV}{ss:List ByteArray},mapO strOf xs=some ss→xs=ss.map fun s=>.sc (.string s)
 |[],ss,h=>by simp only[mapO,Option.some.injEq] at h;subst h;rfl
 |x::xs,ss,h=>by
  obtain⟨y,l,rfl,h1,h2⟩:=mapO_cons h;rw[j3d h2];unfold strOf at h1;split at h1
  ·cases h1;rfl
  ·cases h1
end Go.Am
namespace Go.Proofs.YtnfbeplfnblgjaaGreatDoor
open Go Go.Am Go.Hb Go.RowKit
theorem j5x:j3I Tryz.prog 166 j3m:=j0t fun args rs hF w m vs hg hr=>by
 unfold j3m at hF;split at hF
 ·cases hF;obtain⟨u,v,rfl,h1,h2⟩:=hr.two;obtain rfl:=h1.sc_eq;obtain rfl:=h2.sc_eq;exact⟨_,Rl.sc2 rfl rfl,(Tryz.strings_CutPrefix _ _ w).mono fun e w' ⟨h3,h4⟩=>⟨h3,by rw[h4];exact Below.refl _ _⟩⟩
 ·cases hF
theorem j5y:j3I Tryz.prog 192 j1H:=j0t fun args rs hF w m vs hg hr=>by
 unfold j1H at hF;split at hF
 ·cases hF;obtain⟨u,v,rfl,h1,h2⟩:=hr.two;obtain rfl:=h1.sc_eq;obtain rfl:=h2.sc_eq;exact⟨_,Rl.sc1 rfl,(Tryz.strings_HasPrefix _ _ w).mono fun e w' ⟨h3,h4⟩=>⟨h3,by rw[h4];exact Below.refl _ _⟩⟩
 ·cases hF
theorem jdM {E:Entry}{w:World}{m:Mem}{μ:Own}(hg:Hb.Good E w m μ):Lib.TabIs Tryz.prog w "internal/strconv.uint64pow10" .u64 Lib.pow10Tab:=by
 obtain⟨⟨cs,T,fr,rfl,h1⟩,_⟩:=hg.glob 0 _ rfl
 have hn:Tryz.prog.globalNamed "internal/strconv.uint64pow10" = some 0:=by kernel_rfl
 unfold Lib.TabIs World.var?;rw[hn];simp only[Option.bind_some,h1]
theorem jbI:j3I Tryz.prog 81 jbA:=j0t fun args rs hF w m vs hg hr=>by
 unfold jbA at hF;split at hF
 ·rename_i n;split at hF
  ·rename_i hb;cases hF;obtain⟨u,rfl,h1⟩:=hr.one;obtain rfl:=h1.sc_eq;have:=Nat.le_of_ble_eq_true hb;rw[j8b this];exact⟨_,Rl.sc1 rfl,(Tryz.strconv_Itoa n (by omega) (by omega) w (jdM hg)).mono fun e w' ⟨h3,k,os,hk⟩=>⟨h3,by subst hk;exact Lib.below_grow _ _ (Nat.le_refl _) _ _⟩⟩
  ·cases hF
 ·cases hF
theorem j6S(w:World)(e:TypeId)(s:ByteArray):Below w.heap.size w (Lib.bytesWorld w e s):=by
 exact⟨rfl,rfl,rfl,by rw[Lib.bytesWorld_size];omega,fun k hk=>Lib.bytesWorld_at_old w e s k hk⟩
theorem jbH:j3I Tryz.prog 214 jcp:=j0t fun args rs hF w m vs hg hr=>by
 unfold jcp at hF;split at hF
 ·rename_i s;split at hF
  ·rename_i n hb hn;cases hF;obtain⟨u,rfl,h1⟩:=hr.one;obtain rfl:=h1.sc_eq;have:=Nat.le_of_ble_eq_true hb;exact⟨_,Rl.sc2 rfl rfl,(Tryz.strconv_Atoi s n this hn w).mono fun e w' ⟨h3,t,hk⟩=>⟨h3,by subst hk;exact j6S _ _ _⟩⟩
  ·cases hF
 ·cases hF
theorem j7A{l:List UInt8}(h:ascii l=true)(j:Nat)(b:UInt8)(hb:l[j]?=some b):b.toNat<128:=by
 have:=List.all_eq_true.1 h b (List.mem_of_getElem? hb)
 rwa [Nat.blt_eq] at this
theorem j6x:j3I Tryz.prog 212 j3Y:=j0t fun args rs hF w m vs hg hr=>by
 unfold j3Y at hF;split at hF
 ·rename_i s c;split at hF
  ·rename_i hb;cases hF;simp only[Bool.and_eq_true] at hb;obtain⟨⟨h5,h6⟩,h7,h8⟩:=hb;have h5:=Nat.le_of_ble_eq_true h5;have h6:=Nat.le_of_ble_eq_true h6;have e1:s.size=(bl s).length:=by rw[bl];exact Lib.size_eq s
   have e2:c.size=(bl c).length:=by rw[bl];exact Lib.size_eq c
   obtain⟨u,v,rfl,h1,h2⟩:=hr.two;obtain rfl:=h1.sc_eq;obtain rfl:=h2.sc_eq;exact⟨_,Rl.sc1 rfl,Tryz.strings_IndexAny_laid s c w (by omega) (by omega) (j7A h7) (j7A h8)⟩
  ·cases hF
 ·cases hF
theorem jaD:j3I Tryz.prog 210 jah:=j0t fun args rs hF w m vs hg hr=>by
 unfold jah at hF;split at hF
 ·rename_i s c;split at hF
  ·rename_i b hb;cases hF;have hc:c=⟨#[b]⟩:=by rw[←jdc c,hb]
   subst hc;obtain⟨u,v,rfl,h1,h2⟩:=hr.two;obtain rfl:=h1.sc_eq;obtain rfl:=h2.sc_eq;exact⟨_,Rl.sc1 rfl,(Tryz.strings_Index_one s b w).mono fun e w' ⟨h3,h4⟩=>⟨h3,by rw[h4];exact Below.refl _ _⟩⟩
  ·cases hF
 ·cases hF
theorem nat_join:j3I Tryz.prog 122 jaq:=j0t fun args rs hF w m vs hg hr=>by
 unfold jaq at hF;split at hF
 ·rename_i b z xs sep;split at hF
  ·rename_i ss hss;split at hF
   ·rename_i hb;cases hF;simp only[Bool.and_eq_true] at hb;obtain⟨h5,h6⟩:=hb;have h5:=Nat.le_of_ble_eq_true h5;have h6:=Nat.le_of_ble_eq_true h6;have hxs:=j3d hss;obtain⟨u,v,rfl,h1,h2⟩:=hr.two;obtain rfl:=h2.sc_eq;have hlen:xs.length=ss.length:=by rw[hxs];simp
    cases h1 with
    | @sl _ _ _ _ a cap bk off g ha hcap hmax hfull hel hrr hnil=>
     refine⟨[_],Rl.sc1 rfl,?_⟩;cases hss0:ss with
     |nil=>
      subst hss0;have hx0:xs=[]:=by simpa using hxs
      subst hx0;exact(Tryz.strings_Join_none a cap sep w).mono fun e w' ⟨h3,h4⟩=>⟨h3,by rw[h4];exact Below.refl _ _⟩
     |cons s0 sr=>
      rw[←hss0];have hne:xs≠[]:=by rw[hxs,hss0];simp
      have hcell:∀(j:Nat) x,ss[j]?=some x→w.cell? ⟨bk,off+j,none⟩=some (.string x):=fun j x hj=>by
       have hx:xs[j]?=some (.sc (.string x)):=by rw[hxs,List.getElem?_map,hj];rfl
       obtain⟨q1,q2,q3,q4⟩:=hel j _ hx;simp only[PV.cells,List.length_singleton] at q1;subst q1;have hg0:∃v,g j=[v]:=List.length_eq_one_iff.1 q2;obtain⟨v,hv⟩:=hg0;have:=hrr j _ 0 (.sc (.string x)) v hx rfl (by rw[hv];rfl)
       obtain rfl:=this.sc_eq;have hm:=q3 0 (.string x) (by rw[hv];rfl)
       have:=hg.cell hm;simpa using this
      rw[ha hne,hlen];have hbk:bk<w.heap.size:=by
       have h0:=hcell 0 s0 (by rw[hss0];rfl)
       simp only[World.cell?] at h0;cases e:w.heap[bk]? with
       |none=>simp[e] at h0
       |some o=>exact mem_lt e
      exact Tryz.strings_Join bk off cap ss sep w hcell hbk (by omega) (by rw[←hlen];exact hcap) (by exact Nat.le_trans h6 (by omega))
   ·cases hF
  ·cases hF
 ·cases hF
theorem j6X(x:Nat)(W:World):Calls Tryz.prog 163 #[.int .i32 (x:Int)] W fun e w'=>e=.returned (.bool (j1N x))∧w'=W:=by
 go_enter Tryz.func163,Tryz.ntmps163
 go_wp2
 all_goals(go_ret;refine⟨congrArg (fun b=>Ending.returned (.bool b)) ?_,rfl⟩;rw[Bool.eq_iff_iff];simp[j1N];try omega)
theorem j7g(x:Nat)(hx:x≤1114111)(W:World):FnGives Tryz.prog 162 #[] #[encR x] (.bool (!j1N x)) W:=by
 show Calls Tryz.prog 162 #[.int .i32 (x:Int)] W _
 go_enter Tryz.func162,Tryz.ntmps162
 go_wp2_with (go_at_call 163;refine(j6X _ _).mono ?_;rintro e w' ⟨rfl,rfl⟩)
 all_goals(go_ret;exact⟨by simp,0,rfl⟩)
theorem j5z:j3I Tryz.prog 164 (j3o 162):=j0t fun args rs hF w m vs hg hr=>by
 unfold j3o at hF;split at hF
 ·rename_i s f;split at hF
  ·rename_i hb;cases hF;obtain rfl:=Nat.eq_of_beq_eq_true hb;obtain⟨u,v,rfl,h1,h2⟩:=hr.two;obtain rfl:=h1.sc_eq;cases h2 with
   | @fn _ _ _ _ us ws hl hl' _ _=>
    have e1:us=[]:=List.eq_nil_of_length_eq_zero hl.symm;have e2:ws=[]:=List.eq_nil_of_length_eq_zero hl'.symm;subst e1;subst e2;exact⟨_,Rl.sc1 rfl,Tryz.strings_IndexFunc_runes 162 #[] (fun args w=>by kernel_rfl) (fun c=>!j1N c) s w (fun W x hx _=>j7g x hx W)⟩
  ·cases hF
 ·cases hF
abbrev NatF:=List PV→Sto→Option (AEnd×Sto)
def j2p(f:FuncId):List (FuncId×NatF)→Option NatF
 |[]=>none
 |(g,F)::r=>match Nat.beq f g with
  |true=>some F
  |false=>j2p f r
theorem j4h{f:FuncId}{F:NatF}:∀{l:List (FuncId×NatF)},j2p f l=some F→(f,F)∈l
 |[],h=>by cases h
 |(g,G)::r,h=>by
  simp only[j2p] at h;split at h
  ·rename_i hb;obtain rfl:=Nat.eq_of_beq_eq_true hb;cases h;exact List.mem_cons_self
  ·exact List.mem_cons_of_mem _ (j4h h)
theorem j3D{C:Cfg}{l:List (FuncId×NatF)}(hl:∀f,C.nat f=j2p f l)(h:∀p∈l,DoesOk (CallD C.P p.1) p.2):NatOk C:=fun f F hF=>h (f,F) (j4h (by rw[←hl];exact hF))
def nat1:List (FuncId×NatF):=[
 (122,natP jaq),
 (166,natP j3m),
 (192,natP j1H),
 (81,natP jbA),
 (214,natP jcp),
 (212,natP j3Y),
 (210,natP jah),
 (164,natP (j3o 162))]
theorem jcL:∀p∈nat1,DoesOk (CallD Tryz.prog p.1) p.2:=by
 intro p hp;simp only[nat1,List.mem_cons,List.not_mem_nil,or_false] at hp;rcases hp with rfl|rfl|rfl|rfl|rfl|rfl|rfl|rfl
 ·exact j0C nat_join
 ·exact j0C j5x
 ·exact j0C j5y
 ·exact j0C jbI
 ·exact j0C jbH
 ·exact j0C j6x
 ·exact j0C jaD
 ·exact j0C j5z
end Go.Proofs.YtnfbeplfnblgjaaGreatDoor
namespace Go.Am
open Go Go.Hb Go.RowKit Go.Sort Go.Proofs
def svL(l:List (List UInt8)):List PV:=l.map fun s=>.sc (ls s)
def j9d(args:List PV)(st:Sto):Option (AEnd×Sto):=match args,st with
 |[.ms 0 n],[.row false T 1 xs]=>match mapO strOf xs with
  |some ss=>match(Nat.beq n ss.length && !Hb.markT T)&&Nat.ble n 1000000000 with
   |true=>some (.ret [],[.row false T 1 (svL (j0Q (ss.map bl)))])
   |false=>none
  |none=>none
 |[.sl _ _ []],[]=>some (.ret [],[])
 |_,_=>none
def j8A(args:List PV)(st:Sto):Option (AEnd×Sto):=match args,st with
 |[.ms 0 n],[.row false T 1 xs]=>match mapO strOf xs with
  |some ss=>match(Nat.beq n ss.length && !Hb.markT T)&&(Nat.ble n 1000000000&&Nat.ble 1 n) with
   |true=>some (.ret [.ms 1 (j1U (ss.map bl)).length],[.dead,.row false T 1 (svL (j1U (ss.map bl)))])
   |false=>none
  |none=>none
 |[.sl b z []],[]=>some (.ret [.sl b z []],[])
 |_,_=>none
theorem j6i(ss:List ByteArray):(ss.map bl).map encStr=ss.map Value.string:=by
 rw[List.map_map];refine List.map_congr_left fun s _=>?_
 show Value.string ⟨(bl s).toArray⟩=_
 rw[jdc]
theorem j3U{α β:Type}(f:α→β):∀l:List α,(l.map fun s=>[f s]).flatten=l.map f
 |[]=>rfl
 |x::r=>by simp only[List.map_cons,List.flatten_cons,j3U f r];rfl
section
variable{P:Program}{E:Entry}{m:Mem}{φ:Ph}{μ:Own}{w:World}
variable{id:Nat}{T:TypeId}
theorem j6C{ss:List ByteArray}{rs:Own}(h:SRo m φ id (.row false T 1 (ss.map fun s=>.sc (.string s))) rs):∃a cap,φ id=some (.row (.slice a ss.length cap) ss.length 1)∧rs=[.row false (.slice a ss.length cap) T 1 ss.length (ss.map Value.string)]:=by
 obtain⟨a,cap,vss,h1,h2,h3,h4⟩:=h;rw[List.length_map] at h1 h2;refine⟨a,cap,h1,?_⟩;have:vss.flatten=ss.map Value.string:=by
  have hl:=h4.1;rw[List.length_map] at hl;have:vss=ss.map fun s=>[Value.string s]:=by
   apply List.ext_getElem
   ·simp[hl]
   ·intro i h5 h6;have hi:i<ss.length:=by omega
    obtain⟨q1,q2,q3,q4⟩:=h4.2 i (.sc (.string ss[i])) vss[i] (by simp[hi]) (List.getElem?_eq_getElem h5)
    have hc:((PV.sc (.string ss[i])).cells:List PV)=[.sc (.string ss[i])]:=rfl;rw[hc] at q4;obtain⟨u,us,e1,e2,e3⟩:=q4.uncons;have:us=[]:=List.eq_nil_of_length_eq_zero e3.1.symm;subst this;have:=e2.sc_eq;subst this;rw[e1];simp
  rw[this];exact j3U _ _
 rw[h2,this]
theorem j6I{ts:List (List UInt8)}{a:Option Addr}{cap:Nat}(h:φ id=some (.row (.slice a ts.length cap) ts.length 1)):SRo m φ id (.row false T 1 (svL ts)) [.row false (.slice a ts.length cap) T 1 ts.length (ts.map encStr)]:=by
 refine⟨a,cap,ts.map fun s=>[encStr s],by rw[svL,List.length_map];exact h,?_,by omega,by simp[svL],fun i x vs h1 h2=>?_⟩
 ·rw[svL,List.length_map];rw[j3U]
 ·rw[svL,List.getElem?_map] at h1;rw[List.getElem?_map] at h2;obtain⟨s,hs,rfl⟩:=Option.map_eq_some_iff.1 h1;rw[hs] at h2;cases h2;exact⟨rfl,rfl,rfl,.cons (.sc rfl) .nil⟩
theorem one_row{o:SO}(hs:SR m φ 0 [o] μ):SRo m φ 0 o μ:=by
 obtain⟨rs,μ',h1,h2,h3⟩:=hs;have h3:μ'=[]:=h3;subst h3;rw[List.append_nil] at h1;subst h1;exact h2
end
end Go.Am
namespace Go.Proofs.YtnfbeplfnblgjaaGreatDoor
open Go Go.Am Go.Hb Go.RowKit Go.Sort
theorem jcA:DoesOk (CallD Tryz.prog 184) j9d:=fun args st r st' hx w m φ μ vs hs hr=>by
 unfold j9d at hx;split at hx
 ·rename_i n T xs;split at hx
  ·rename_i ss hss;split at hx
   ·rename_i hb;cases hx;simp only[Bool.and_eq_true,Bool.not_eq_true'] at hb;have hmk:=hb.1.2;obtain rfl:=Nat.eq_of_beq_eq_true hb.1.1;have hn:=Nat.le_of_ble_eq_true hb.2;have hxs:=j3d hss;subst hxs;obtain⟨v,vs',rfl,h1,h2⟩:=hr.uncons;have:vs'=[]:=List.eq_nil_of_length_eq_zero h2.1.symm;subst this;have hro:=one_row hs.sto;obtain⟨a,cap,hφ,hμ⟩:=j6C hro;cases h1 with
    | @ms _ _ _ n sz sv _ hφ' hle hv hsl=>
     rw[hφ] at hφ';cases hφ';obtain rfl:=hv rfl;have hown:w.ownsRow 0 T 1 (.slice a ss.length cap) ss.length (ss.map Value.string):=rowM.own (hs.good.own (r:=.row false (.slice a ss.length cap) T 1 ss.length (ss.map Value.string)) (by rw[hμ];simp)) hmk
     rcases hown.2 with⟨hnil,hz⟩|⟨g,cap',cur,hsv,hbase,hgb,r1,r2,r3,r4⟩
     ·have:ss=[]:=List.eq_nil_of_length_eq_zero hz;subst this;refine(Tryz.slices_Sort_string_none a cap w).mono ?_;rintro e w' ⟨rfl,rfl⟩;refine⟨m,φ,μ,Ext.refl _ _,⟨hs.good,?_,fun id hid=>hs.dom id (by simpa using hid)⟩,[],rfl,.nil⟩
      simpa[svL,j0Q] using hs.sto
     ·cases hsv;have hH:Holds encStr w g 0 (ss.map bl).toArray:=holds_of_block hgb (by rw[j6i,List.length_map];simpa using r4)
      have hgl:g<w.heap.size:=(Array.getElem?_eq_some_iff.1 hgb).1;have cS:=Tryz.slices_Sort_string g 0 cap (ss.map bl) w hH hgl (by rw[List.length_map];omega)
      rw[List.length_map] at cS;refine cS.mono ?_;rintro e w' ⟨rfl,k,os,rfl⟩;rw[jbS];have hg:=grownBy_sorted (w:=w) (g:=g) (n:=k) (os:=os) (j0Q (ss.map bl)).toArray;have hlen:(j0Q (ss.map bl)).length=ss.length:=by rw[j1a,List.length_map]
      have hrow:=ownsRow_sorted (n:=k) (os:=os) (ss:=ss.map bl) (ts:=j0Q (ss.map bl)) (by rw[j1a]) hbase hgb (by rw[List.length_map];exact r1) r2 r3
      rw[List.length_map] at hrow;have hφ2:φ 0=some (.row (.slice (some ⟨g,0,none⟩) (j0Q (ss.map bl)).length cap) (j0Q (ss.map bl)).length 1):=by rw[hlen];exact hφ
      obtain⟨μ',hs',hx'⟩:=hs.turn (i:=0) (o':=.row false T 1 (svL (j0Q (ss.map bl)))) (r:=.row false (.slice (some ⟨g,0,none⟩) ss.length cap) T 1 ss.length (ss.map Value.string)) (r':=.row false (.slice (some ⟨g,0,none⟩) (j0Q (ss.map bl)).length cap) T 1 (j0Q (ss.map bl)).length ((j0Q (ss.map bl)).map encStr)) (μ1:=[]) (μ2:=[]) (w':=grow (putRow encStr (Sort.ahead w k) g 0 (j0Q (ss.map bl)).toArray) os) rfl (by simp) (by rw[hμ];rfl)
       ⟨_,[],rfl,j6I hφ2,rfl⟩ hg.os hg.tape hg.output hg.size (fun b hb hne=>hg.block b hb (fun e=>hne e.symm)) (fun b o v hf hm=>by
        have:=(hs.good.feet (.row false (.slice (some ⟨g,0,none⟩) ss.length cap) T 1 ss.length (ss.map Value.string)) (by rw[hμ];simp) b hf).2 o (Nat.zero_le _)
        rw[hm] at this;cases this) (by rw[hlen];exact rowM_of hrow) (fun b hb=>.inl ⟨hb,Nat.le_refl _⟩)
      exact⟨m,φ,μ',hx',hs',[],rfl,.nil⟩
   ·cases hx
  ·cases hx
 ·cases hx;obtain⟨v,vs',rfl,h1,h2⟩:=hr.uncons;have:vs'=[]:=List.eq_nil_of_length_eq_zero h2.1.symm;subst this;cases h1 with
  |sl b off g ha hcap hmax hfull hel hr hnil=>
   refine(Tryz.slices_Sort_string_none _ _ w).mono ?_;rintro e w' ⟨rfl,rfl⟩;exact⟨m,φ,μ,Ext.refl _ _,hs,[],rfl,.nil⟩
 ·cases hx
theorem j8H:DoesOk (CallD Tryz.prog 125) j8A:=fun args st r st' hx w m φ μ vs hs hr=>by
 unfold j8A at hx;split at hx
 ·rename_i n T xs;split at hx
  ·rename_i ss hss;split at hx
   ·rename_i hb;cases hx;simp only[Bool.and_eq_true,Bool.not_eq_true'] at hb;have hmk:=hb.1.2;obtain rfl:=Nat.eq_of_beq_eq_true hb.1.1;have hn:=Nat.le_of_ble_eq_true hb.2.1;have hn1:=Nat.le_of_ble_eq_true hb.2.2;have hxs:=j3d hss;subst hxs;obtain⟨v,vs',rfl,h1,h2⟩:=hr.uncons;have:vs'=[]:=List.eq_nil_of_length_eq_zero h2.1.symm;subst this;have hro:=one_row hs.sto;obtain⟨a,cap,hφ,hμ⟩:=j6C hro;cases h1 with
    | @ms _ _ _ n sz sv _ hφ' hle hv hsl=>
     rw[hφ] at hφ';cases hφ';obtain rfl:=hv rfl;have hown:w.ownsRow 0 T 1 (.slice a ss.length cap) ss.length (ss.map Value.string):=rowM.own (hs.good.own (r:=.row false (.slice a ss.length cap) T 1 ss.length (ss.map Value.string)) (by rw[hμ];simp)) hmk
     rcases hown.2 with⟨hnil,hz⟩|⟨g,cap',cur,hsv,hbase,hgb,r1,r2,r3,r4⟩
     ·omega
     ·cases hsv;have hH:Holds encStr w g 0 (ss.map bl).toArray:=holds_of_block hgb (by rw[j6i,List.length_map];simpa using r4)
      have cS:=Tryz.slices_Compact_string g 0 cap (ss.map bl) w hH (by rw[List.length_map];omega) (by rw[List.length_map];exact r1)
      rw[List.length_map] at cS;refine cS.mono ?_;rintro e w' ⟨rfl,k,rfl⟩;rw[j8C];generalize hcs:j1U (ss.map bl)=cs;have hcl:cs.length≤ss.length:=by rw[←hcs];have:=j3t (ss.map bl);rwa [List.length_map] at this
      generalize hts:cs++List.replicate (ss.length-cs.length) []=ts;have htl:ts.length=(ss.map bl).length:=by rw[←hts];simp;omega
      have hg:=grownBy_sorted (w:=w) (g:=g) (n:=k) (os:=#[]) ts.toArray;have hrow:=ownsRow_sorted (n:=k) (os:=#[]) (ss:=ss.map bl) (ts:=ts) htl hbase hgb (by rw[List.length_map];exact r1) r2 r3
      rw[grow_empty] at hg hrow;have hrow':(putRow encStr (Sort.ahead w k) g 0 ts.toArray).ownsRow 0 T 1 (.slice (some ⟨g,0,none⟩) cs.length cap) cs.length (cs.map encStr):=by
       rcases hrow.2 with⟨h0,_⟩|⟨g1,cap1,cur1,e1,e2,e3,e4,e5,e6,e7⟩
       ·cases h0
       ·cases e1;refine⟨by simp,.inr ⟨g,cap,cur1,rfl,e2,e3,by omega,e5,e6,?_⟩⟩
        have:=congrArg (List.take cs.length) e7;rw[List.take_take,←hts,List.map_append,List.take_left' (by simp)] at this
        rw[Nat.mul_one] at this ⊢
        rwa [List.length_map,Nat.min_eq_left hcl] at this
      have hgood:Hb.Good ⟨w,m,feetOf μ⟩ (putRow encStr (Sort.ahead w k) g 0 ts.toArray) m [.row false (.slice (some ⟨g,0,none⟩) cs.length cap) T 1 cs.length (cs.map encStr)]:=by
       have h0:Hb.Good ⟨w,m,feetOf μ⟩ w m (.row false (.slice (some ⟨g,0,none⟩) ss.length cap) T 1 ss.length (ss.map Value.string)::[]):=by rw[←hμ];exact hs.good
       exact h0.turn hg.os hg.tape hg.output hg.size (fun b hb hne=>hg.block b hb (fun e=>hne e.symm)) (fun b o v hf hm=>by
        have:=(h0.feet _ List.mem_cons_self b hf).2 o (Nat.zero_le _);rw[hm] at this;cases this) (rowM_of hrow') (fun b hb=>.inl ⟨hb,Nat.le_refl _⟩)
      have hd1:=hs.dom 1 (by simp)
      have hle:=le_more (p:=.row (.slice (some ⟨g,0,none⟩) cs.length cap) cs.length 1) hd1;refine⟨m,more φ 1 (.row (.slice (some ⟨g,0,none⟩) cs.length cap) cs.length 1),_,⟨hle,by simp,fun id hid=>?_⟩,⟨hgood,⟨[],_,rfl,rfl,⟨_,[],(List.append_nil _).symm,j6I (more_self _ _ _),rfl⟩⟩,fun id hid=>?_⟩,[.slice (some ⟨g,0,none⟩) cs.length cap],rfl,.cons (.ms (more_self _ _ _) (Nat.le_refl _) (fun _=>rfl) ⟨_,_,_,rfl⟩) .nil⟩
      ·exfalso;cases id with
       |zero=>simp at hid
       |succ id=>simp at hid
      ·simp only[List.length_cons,List.length_nil] at hid;rw[more_other (by omega)]
       exact hs.dom id (by simp;omega)
   ·cases hx
  ·cases hx
 ·rename_i b0 z0;cases hx;obtain⟨v,vs',rfl,h1,h2⟩:=hr.uncons;have:vs'=[]:=List.eq_nil_of_length_eq_zero h2.1.symm;subst this;cases h1 with
  | @sl _ _ _ _ a cap b off g ha hcap hmax hfull hel hr0 hnil0=>
   refine(Tryz.slices_Compact_string_empty a cap w).mono ?_;rintro e w' ⟨rfl,rfl⟩;exact⟨m,φ,μ,Ext.refl _ _,hs,[_],rfl,.cons (R.sl (xs:=[]) b off g ha hcap hmax hfull hel hr0 hnil0) .nil⟩
 ·cases hx
end Go.Proofs.YtnfbeplfnblgjaaGreatDoor
