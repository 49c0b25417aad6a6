/- The library's functions at their word, for the plain machine: what the shelf says of them. -/
import Derived.Test.YtbnodhcijeaceaaGreatDoorZShelf
import Derived.Lib.AppendIntMem
import Derived.Sort.OwnSorted
import Derived.Test.YtbnodhcijeaceaaGreatDoorZSh
set_option linter.all false
set_option maxRecDepth 100000
namespace Go.Am
open Go Go.Hb Go.RowKit
variable{f:FuncId}{F:List PV→Option (List PV)}{vs:List Value}{m:Mem}{x:PV}{P:Program}{v:Value}{w w':World}
theorem Good.under{E:Entry}{μ:Own}(h:Hb.Good E w m μ)(hb:Below w.heap.size w w'):Hb.Good E w' m μ:=
 ⟨hb.os.trans h.os,hb.tape.trans h.tape,hb.output.trans h.output,Nat.le_trans h.size hb.size,fun b hlt hF=>(hb.block b (Nat.lt_of_lt_of_le hlt h.size)).trans (h.keep b hlt hF),
  fun b o v e=>(let⟨c,T,fr,h1,h2⟩:=h.sub b o v e;⟨c,T,fr,(hb.block b (j1Q h1)).trans h1,h2⟩),h.mem,h.fresh,fun r hr=>Res.holds_of (h.holds r hr) (fun b hf=>hb.block b (Res.holds_lt (h.holds r hr) hf)),h.feet,h.apart,
  fun b cs hc=>(let⟨⟨cs',T,fr,hp,h1⟩,h2⟩:=h.glob b cs hc;⟨⟨cs',T,fr,hp,(hb.block b (j1Q h1)).trans h1⟩,h2⟩)⟩
theorem Good.below{m':Mem}{μ':Own}{F:Nat→Prop}(h:Hb.Good ⟨w,m,F⟩ w' m' μ')(hF:∀b,¬F b):Below w.heap.size w w':=
 ⟨h.os,h.tape,h.output,h.size,fun b hb=>h.keep b hb (hF b)⟩
def jca(P:Program)(f:FuncId)(F:List PV→Option (List PV)):Prop:=∀args rs,F args=some rs→∀w m vs,Hb.Good ⟨w,m,fun _=>False⟩ w m []→Rl m noPh args vs →
 Calls P f vs.toArray w fun en w'=>∃m' us,Hb.Good ⟨w,m,fun _=>False⟩ w' m' []∧en=.returned (Gw.tup us)∧Rl m' noPh rs us
theorem j2q(h:jca P f F):j3H (jat P f) (natP F):=fun args st r st' hx w m φ μ vs hs hr=>by
 unfold natP at hx;split at hx
 ·split at hx
  ·rename_i rs hf;cases hx;have hμ:μ=[]:=hs.sto;subst hμ;have hfeet:feetOf ([]:Own)=fun _=>False:=by funext b;simp[feetOf]
   have hφ:φ=noPh:=by funext id;exact hs.dom id (Nat.zero_le _)
   subst hφ;rw[hfeet] at hs;refine(h args rs hf w m vs hs.good hr).mono fun en w' ⟨m',us,h1,h2,h3⟩=>?_
   rw[hfeet];exact⟨m',noPh,[],Ext.refl _ _,⟨h1,rfl,fun _ _=>rfl⟩,us,h2,h3⟩
  ·cases hx
 ·cases hx
theorem j1R(h:∀args rs,F args=some rs→∀w m vs,Hb.Good ⟨w,m,fun _=>False⟩ w m []→Rl m noPh args vs →
  ∃us,Rl m noPh rs us∧Calls P f vs.toArray w fun en w'=>en=.returned (Gw.tup us)∧Below w.heap.size w w'):jca P f F:=fun args rs hF w m vs hg hr=>by
 obtain⟨us,h1,h2⟩:=h args rs hF w m vs hg hr;exact h2.mono fun en w' ⟨h3,h4⟩=>⟨m,us,Good.under hg h4,h3,h1⟩
theorem Rl.one(h:Rl m noPh [x] vs):∃v,vs=[v]∧R m noPh x v:=by
 obtain⟨v,vs',rfl,h1,h2⟩:=h.uncons;have:vs'=[]:=List.eq_nil_of_length_eq_zero h2.1.symm;exact⟨v,by rw[this],h1⟩
theorem Rl.two{y:PV}(h:Rl m noPh [x,y] vs):∃u v,vs=[u,v]∧R m noPh x u∧R m noPh y v:=by
 obtain⟨u,vs',rfl,h1,h2⟩:=h.uncons;obtain⟨v,rfl,h3⟩:=h2.one;exact⟨u,v,rfl,h1,h3⟩
theorem Rl.sc1(h:isSc v=true):Rl m noPh [.sc v] [v]:=.cons (.sc h) .nil
theorem Rl.sc2{u:Value}(h:isSc u=true)(h':isSc v=true):Rl m noPh [.sc u,.sc v] [u,v]:=.cons (.sc h) (Rl.sc1 h')
def strOf:PV→Option ByteArray
 | .sc (.string s)=>some s
 |_=>none
def bl(s:ByteArray):List UInt8:=s.data.toList
def ls(l:List UInt8):Value:=.string ⟨l.toArray⟩
def j8Z:List PV→Option (List PV)
 |[.sc (.string s),.sc (.string p)]=>some [.sc (ls (Lib.trimPrefix (bl s) (bl p))),.sc (.bool (Lib.hasPrefix (bl s) (bl p)))]
 |_=>none
def j9i:List PV→Option (List PV)
 |[.sc (.string s),.sc (.string p)]=>some [.sc (.bool (Lib.hasPrefix (bl s) (bl p)))]
 |_=>none
def digK:Nat→Nat→List UInt8
 |0,_=>[]
 |k+1,n=>match Nat.blt n 10 with
  |true=>[UInt8.ofNat (48+n)]
  |false=>digK k (n/10)++[UInt8.ofNat (48+n%10)]
theorem jht:∀{k n:Nat},n<10^(k+1)→digK (k+1) n=Lib.decDigits n
 |k,n,h=>by
  rw[digK,Lib.decDigits]
  by_cases hn:n<10
  ·rw[dif_pos hn];have:Nat.blt n 10=true:=by rw[Nat.blt_eq];exact hn
   rw[this]
  ·rw[dif_neg hn];have:Nat.blt n 10=false:=by rw[Bool.eq_false_iff];intro e;rw[Nat.blt_eq] at e;exact hn e
   rw[this];simp only;cases k with
   |zero=>simp at h;omega
   |succ k=>rw[jht (by rw[Nat.pow_succ] at h;omega)]
def jpT(n:Int):List UInt8:=match n with
 | .ofNat q=>digK 20 q
 | .negSucc q=>45::digK 20 (q+1)
theorem jpU{n:Int}(h:n.natAbs≤9223372036854775807):jpT n=Lib.itoa n:=by
 cases n with
 |ofNat q=>
  simp only[jpT,Lib.itoa];rw[if_neg (by simp),jht (by simp at h;omega)]
  rfl
 |negSucc q=>
  simp only[jpT,Lib.itoa];rw[if_pos (Int.negSucc_lt_zero q),jht (by simp at h;omega)]
  rfl
def jss:List PV→Option (List PV)
 |[.sc (.int .i64 n)]=>match Nat.ble n.natAbs 9223372036854775807 with
  |true=>some [.sc (ls (jpT n))]
  |false=>none
 |_=>none
def jrX:List PV→Option (List PV)
 |[.sc (.string s)]=>match Nat.ble (bl s).length 18,Lib.atoi (bl s) with
  |true,some n=>some [.sc (.int .i64 n),.sc .nilIface]
  |_,_=>none
 |_=>none
def ascii(l:List UInt8):Bool:=l.all fun b=>Nat.blt b.toNat 128
def jb5:List PV→Option (List PV)
 |[.sc (.string s),.sc (.string c)]=>match Nat.ble (bl s).length 1000000&&Nat.ble (bl c).length 1000000&&(ascii (bl s)&&ascii (bl c)) with
  |true=>some [.sc (.int .i64 (Lib.indexAny (bl s) (bl c)))]
  |false=>none
 |_=>none
def jnu:List PV→Option (List PV)
 |[.sc (.string s),.sc (.string c)]=>match bl c with
  |[b]=>some [.sc (.int .i64 (Lib.indexByte (bl s) b))]
  |_=>none
 |_=>none
def jco:List PV→Option (List PV)
 |[.sl _ _ xs,.sc (.string sep)]=>match mapO strOf xs with
  |some ss=>match Nat.ble ss.length 1000000000&&Nat.ble (Lib.join (ss.map bl) (bl sep)).length 1000000000 with
   |true=>some [.sc (ls (Lib.join (ss.map bl) (bl sep)))]
   |false=>none
  |none=>none
 |_=>none
def j4S(c:Nat):Bool:=decide (97≤c∧c≤122∨48≤c∧c≤57∨c=95)
def j9k(g:FuncId):List PV→Option (List PV)
 |[.sc (.string s),.fn f [] []]=>match Nat.beq f g with
  |true=>some [.sc (.int .i64 (Lib.idxFunc (fun c=>!j4S c) true s))]
  |false=>none
 |_=>none
theorem jtb(s:ByteArray):(⟨(bl s).toArray⟩:ByteArray)=s:=by unfold bl;simp
theorem jaj:∀{xs:List PV}{ss:List ByteArray},mapO strOf xs=some ss→xs=ss.map fun s=>.sc (.string s)
 |[],ss,h=>by simp only[mapO,Option.some.injEq] at h;subst h;rfl
 |x::xs,ss,h=>by
  obtain⟨y,l,rfl,h1,h2⟩:=j4I h;rw[jaj h2];unfold strOf at h1;split at h1
  ·cases h1;rfl
  ·cases h1
end Go.Am
namespace Go.Proofs.YtbnodhcijeaceaaGreatDoor
open Go Go.Am Go.Hb Go.RowKit
theorem jex:jca Tryz.prog 189 j8Z:=j1R fun args rs hF w m vs hg hr=>by
 unfold j8Z at hF;split at hF
 ·cases hF;obtain⟨u,v,rfl,h1,h2⟩:=hr.two;obtain rfl:=h1.sc_eq;obtain rfl:=h2.sc_eq;exact⟨_,Rl.sc2 rfl rfl,(Tryz.strings_CutPrefix _ _ w).mono fun e w' ⟨h3,h4⟩=>⟨h3,by rw[h4];exact Below.refl _ _⟩⟩
 ·cases hF
theorem jey:jca Tryz.prog 292 j9i:=j1R fun args rs hF w m vs hg hr=>by
 unfold j9i at hF;split at hF
 ·cases hF;obtain⟨u,v,rfl,h1,h2⟩:=hr.two;obtain rfl:=h1.sc_eq;obtain rfl:=h2.sc_eq;exact⟨_,Rl.sc1 rfl,(Tryz.strings_HasPrefix _ _ w).mono fun e w' ⟨h3,h4⟩=>⟨h3,by rw[h4];exact Below.refl _ _⟩⟩
 ·cases hF
theorem jtO {E:Entry}{w:World}{m:Mem}{μ:Own}(hg:Hb.Good E w m μ):Lib.TabIs Tryz.prog w "internal/strconv.uint64pow10" .u64 Lib.pow10Tab:=by
 obtain⟨⟨cs,T,fr,rfl,h1⟩,_⟩:=hg.glob 0 _ rfl
 have hn:Tryz.prog.globalNamed "internal/strconv.uint64pow10" = some 0:=by kernel_rfl
 unfold Lib.TabIs World.var?;rw[hn];simp only[Option.bind_some,h1]
theorem jqb:jca Tryz.prog 165 jss:=j1R fun args rs hF w m vs hg hr=>by
 unfold jss at hF;split at hF
 ·rename_i n;split at hF
  ·rename_i hb;cases hF;obtain⟨u,rfl,h1⟩:=hr.one;obtain rfl:=h1.sc_eq;have:=Nat.le_of_ble_eq_true hb;rw[jpU this];exact⟨_,Rl.sc1 rfl,(Tryz.strconv_Itoa n (by omega) (by omega) w (jtO hg)).mono fun e w' ⟨h3,k,os,hk⟩=>⟨h3,by subst hk;exact Lib.below_grow _ _ (Nat.le_refl _) _ _⟩⟩
  ·cases hF
 ·cases hF
theorem jhk(w:World)(e:TypeId)(s:ByteArray):Below w.heap.size w (Lib.bytesWorld w e s):=by
 exact⟨rfl,rfl,rfl,by rw[Lib.bytesWorld_size];omega,fun k hk=>Lib.bytesWorld_at_old w e s k hk⟩
theorem jqa:jca Tryz.prog 248 jrX:=j1R fun args rs hF w m vs hg hr=>by
 unfold jrX at hF;split at hF
 ·rename_i s;split at hF
  ·rename_i n hb hn;cases hF;obtain⟨u,rfl,h1⟩:=hr.one;obtain rfl:=h1.sc_eq;have:=Nat.le_of_ble_eq_true hb;exact⟨_,Rl.sc2 rfl rfl,(Tryz.strconv_Atoi s n this hn w).mono fun e w' ⟨h3,t,hk⟩=>⟨h3,by subst hk;exact jhk _ _ _⟩⟩
  ·cases hF
 ·cases hF
theorem jiL{l:List UInt8}(h:ascii l=true)(j:Nat)(b:UInt8)(hb:l[j]?=some b):b.toNat<128:=by
 have:=List.all_eq_true.1 h b (List.mem_of_getElem? hb)
 rwa [Nat.blt_eq] at this
theorem jgp:jca Tryz.prog 246 jb5:=j1R fun args rs hF w m vs hg hr=>by
 unfold jb5 at hF;split at hF
 ·rename_i s c;split at hF
  ·rename_i hb;cases hF;simp only[Bool.and_eq_true] at hb;obtain⟨⟨h5,h6⟩,h7,h8⟩:=hb;have h5:=Nat.le_of_ble_eq_true h5;have h6:=Nat.le_of_ble_eq_true h6;have e1:s.size=(bl s).length:=by rw[bl];exact Lib.size_eq s
   have e2:c.size=(bl c).length:=by rw[bl];exact Lib.size_eq c
   obtain⟨u,v,rfl,h1,h2⟩:=hr.two;obtain rfl:=h1.sc_eq;obtain rfl:=h2.sc_eq;exact⟨_,Rl.sc1 rfl,Tryz.strings_IndexAny_laid s c w (by omega) (by omega) (jiL h7) (jiL h8)⟩
  ·cases hF
 ·cases hF
theorem jo9:jca Tryz.prog 283 jnu:=j1R fun args rs hF w m vs hg hr=>by
 unfold jnu at hF;split at hF
 ·rename_i s c;split at hF
  ·rename_i b hb;cases hF;have hc:c=⟨#[b]⟩:=by rw[←jtb c,hb]
   subst hc;obtain⟨u,v,rfl,h1,h2⟩:=hr.two;obtain rfl:=h1.sc_eq;obtain rfl:=h2.sc_eq;exact⟨_,Rl.sc1 rfl,(Tryz.strings_Index_one s b w).mono fun e w' ⟨h3,h4⟩=>⟨h3,by rw[h4];exact Below.refl _ _⟩⟩
  ·cases hF
 ·cases hF
theorem nat_join:jca Tryz.prog 221 jco:=j1R fun args rs hF w m vs hg hr=>by
 unfold jco at hF;split at hF
 ·rename_i b z xs sep;split at hF
  ·rename_i ss hss;split at hF
   ·rename_i hb;cases hF;simp only[Bool.and_eq_true] at hb;obtain⟨h5,h6⟩:=hb;have h5:=Nat.le_of_ble_eq_true h5;have h6:=Nat.le_of_ble_eq_true h6;have hxs:=jaj hss;obtain⟨u,v,rfl,h1,h2⟩:=hr.two;obtain rfl:=h2.sc_eq;have hlen:xs.length=ss.length:=by rw[hxs];simp
    cases h1 with
    | @sl _ _ _ _ a cap bk off g ha hcap hmax hfull hel hrr hnil=>
     refine⟨[_],Rl.sc1 rfl,?_⟩;cases hss0:ss with
     |nil=>
      subst hss0;have hx0:xs=[]:=by simpa using hxs
      subst hx0;exact(Tryz.strings_Join_none a cap sep w).mono fun e w' ⟨h3,h4⟩=>⟨h3,by rw[h4];exact Below.refl _ _⟩
     |cons s0 sr=>
      rw[←hss0];have hne:xs≠[]:=by rw[hxs,hss0];simp
      have hcell:∀(j:Nat) x,ss[j]?=some x→w.cell? ⟨bk,off+j,none⟩=some (.string x):=fun j x hj=>by
       have hx:xs[j]?=some (.sc (.string x)):=by rw[hxs,List.getElem?_map,hj];rfl
       obtain⟨q1,q2,q3,q4⟩:=hel j _ hx;simp only[PV.cells,List.length_singleton] at q1;subst q1;have hg0:∃v,g j=[v]:=List.length_eq_one_iff.1 q2;obtain⟨v,hv⟩:=hg0;have:=hrr j _ 0 (.sc (.string x)) v hx rfl (by rw[hv];rfl)
       obtain rfl:=this.sc_eq;have hm:=q3 0 (.string x) (by rw[hv];rfl)
       have:=hg.cell hm;simpa using this
      rw[ha hne,hlen];have hbk:bk<w.heap.size:=by
       have h0:=hcell 0 s0 (by rw[hss0];rfl)
       simp only[World.cell?] at h0;cases e:w.heap[bk]? with
       |none=>simp[e] at h0
       |some o=>exact j1Q e
      exact Tryz.strings_Join bk off cap ss sep w hcell hbk (by omega) (by rw[←hlen];exact hcap) (by exact Nat.le_trans h6 (by omega))
   ·cases hF
  ·cases hF
 ·cases hF
theorem jho(x:Nat)(W:World):Calls Tryz.prog 244 #[.int .i32 (x:Int)] W fun e w'=>e=.returned (.bool (j4S x))∧w'=W:=by
 go_enter Tryz.func244,Tryz.ntmps244
 go_wp2
 all_goals(go_ret;refine⟨congrArg (fun b=>Ending.returned (.bool b)) ?_,rfl⟩;rw[Bool.eq_iff_iff];simp[j4S];try omega)
theorem jhL(x:Nat)(hx:x≤1114111)(W:World):FnGives Tryz.prog 243 #[] #[encR x] (.bool (!j4S x)) W:=by
 show Calls Tryz.prog 243 #[.int .i32 (x:Int)] W _
 go_enter Tryz.func243,Tryz.ntmps243
 go_wp2_with (go_at_call 244;refine(jho _ _).mono ?_;rintro e w' ⟨rfl,rfl⟩)
 all_goals(go_ret;exact⟨by simp,0,rfl⟩)
theorem jez:jca Tryz.prog 245 (j9k 243):=j1R fun args rs hF w m vs hg hr=>by
 unfold j9k at hF;split at hF
 ·rename_i s f;split at hF
  ·rename_i hb;cases hF;obtain rfl:=Nat.eq_of_beq_eq_true hb;obtain⟨u,v,rfl,h1,h2⟩:=hr.two;obtain rfl:=h1.sc_eq;cases h2 with
   | @fn _ _ _ _ us ws hl hl' _ _=>
    have e1:us=[]:=List.eq_nil_of_length_eq_zero hl.symm;have e2:ws=[]:=List.eq_nil_of_length_eq_zero hl'.symm;subst e1;subst e2;exact⟨_,Rl.sc1 rfl,Tryz.strings_IndexFunc_runes 243 #[] (fun args w=>by kernel_rfl) (fun c=>!j4S c) s w (fun W x hx _=>jhL x hx W)⟩
  ·cases hF
 ·cases hF
abbrev NatF:=List PV→Sto→Option (AEnd×Sto)
def jbo(f:FuncId):List (FuncId×NatF)→Option NatF
 |[]=>none
 |(g,F)::r=>match Nat.beq f g with
  |true=>some F
  |false=>jbo f r
theorem jbp{f:FuncId}{F:NatF}:∀{l:List (FuncId×NatF)},jbo f l=some F→(f,F)∈l
 |[],h=>by cases h
 |(g,G)::r,h=>by
  simp only[jbo] at h;split at h
  ·rename_i hb;obtain rfl:=Nat.eq_of_beq_eq_true hb;cases h;exact List.mem_cons_self
  ·exact List.mem_cons_of_mem _ (jbp h)
theorem jq9{C:Cfg}{l:List (FuncId×NatF)}(hl:∀f,C.nat f=jbo f l)(h:∀p∈l,j3H (jat C.P p.1) p.2):jpe C:=fun f F hF=>h (f,F) (jbp (by rw[←hl];exact hF))
def nat1:List (FuncId×NatF):=[
 (221,natP jco),
 (189,natP j8Z),
 (292,natP j9i),
 (165,natP jss),
 (248,natP jrX),
 (246,natP jb5),
 (283,natP jnu),
 (245,natP (j9k 243))]
theorem jsz:∀p∈nat1,j3H (jat Tryz.prog p.1) p.2:=by
 intro p hp;simp only[nat1,List.mem_cons,List.not_mem_nil,or_false] at hp;rcases hp with rfl|rfl|rfl|rfl|rfl|rfl|rfl|rfl
 ·exact j2q nat_join
 ·exact j2q jex
 ·exact j2q jey
 ·exact j2q jqb
 ·exact j2q jqa
 ·exact j2q jgp
 ·exact j2q jo9
 ·exact j2q jez
end Go.Proofs.YtbnodhcijeaceaaGreatDoor
namespace Go.Am
open Go Go.Hb Go.RowKit Go.Sort Go.Proofs
def svL(l:List (List UInt8)):List PV:=l.map fun s=>.sc (ls s)
def jlJ(args:List PV)(st:Sto):Option (AEnd×Sto):=match args,st with
 |[.ms 0 n],[.row false T 1 xs]=>match mapO strOf xs with
  |some ss=>match(Nat.beq n ss.length && !Hb.markT T)&&Nat.ble n 1000000000 with
   |true=>some (.ret [],[.row false T 1 (svL (j2T (ss.map bl)))])
   |false=>none
  |none=>none
 |[.sl _ _ []],[]=>some (.ret [],[])
 |_,_=>none
def jkq(args:List PV)(st:Sto):Option (AEnd×Sto):=match args,st with
 |[.ms 0 n],[.row false T 1 xs]=>match mapO strOf xs with
  |some ss=>match(Nat.beq n ss.length && !Hb.markT T)&&(Nat.ble n 1000000000&&Nat.ble 1 n) with
   |true=>some (.ret [.ms 1 (j5X (ss.map bl)).length],[.dead,.row false T 1 (svL (j5X (ss.map bl)))])
   |false=>none
  |none=>none
 |[.sl b z []],[]=>some (.ret [.sl b z []],[])
 |_,_=>none
theorem jfT(ss:List ByteArray):(ss.map bl).map encStr=ss.map Value.string:=by
 rw[List.map_map];refine List.map_congr_left fun s _=>?_
 show Value.string ⟨(bl s).toArray⟩=_
 rw[jtb]
theorem jb2{α β:Type}(f:α→β):∀l:List α,(l.map fun s=>[f s]).flatten=l.map f
 |[]=>rfl
 |x::r=>by simp only[List.map_cons,List.flatten_cons,jb2 f r];rfl
section
variable{P:Program}{E:Entry}{m:Mem}{φ:Ph}{μ:Own}{w:World}
variable{id:Nat}{T:TypeId}
theorem jgJ{ss:List ByteArray}{rs:Own}(h:SRo m φ id (.row false T 1 (ss.map fun s=>.sc (.string s))) rs):∃a cap,φ id=some (.row (.slice a ss.length cap) ss.length 1)∧rs=[.row false (.slice a ss.length cap) T 1 ss.length (ss.map Value.string)]:=by
 obtain⟨a,cap,vss,h1,h2,h3,h4⟩:=h;rw[List.length_map] at h1 h2;refine⟨a,cap,h1,?_⟩;have:vss.flatten=ss.map Value.string:=by
  have hl:=h4.1;rw[List.length_map] at hl;have:vss=ss.map fun s=>[Value.string s]:=by
   apply List.ext_getElem
   ·simp[hl]
   ·intro i h5 h6;have hi:i<ss.length:=by omega
    obtain⟨q1,q2,q3,q4⟩:=h4.2 i (.sc (.string ss[i])) vss[i] (by simp[hi]) (List.getElem?_eq_getElem h5)
    have hc:((PV.sc (.string ss[i])).cells:List PV)=[.sc (.string ss[i])]:=rfl;rw[hc] at q4;obtain⟨u,us,e1,e2,e3⟩:=q4.uncons;have:us=[]:=List.eq_nil_of_length_eq_zero e3.1.symm;subst this;have:=e2.sc_eq;subst this;rw[e1];simp
  rw[this];exact jb2 _ _
 rw[h2,this]
theorem jgS{ts:List (List UInt8)}{a:Option Addr}{cap:Nat}(h:φ id=some (.row (.slice a ts.length cap) ts.length 1)):SRo m φ id (.row false T 1 (svL ts)) [.row false (.slice a ts.length cap) T 1 ts.length (ts.map encStr)]:=by
 refine⟨a,cap,ts.map fun s=>[encStr s],by rw[svL,List.length_map];exact h,?_,by omega,by simp[svL],fun i x vs h1 h2=>?_⟩
 ·rw[svL,List.length_map];rw[jb2]
 ·rw[svL,List.getElem?_map] at h1;rw[List.getElem?_map] at h2;obtain⟨s,hs,rfl⟩:=Option.map_eq_some_iff.1 h1;rw[hs] at h2;cases h2;exact⟨rfl,rfl,rfl,.cons (.sc rfl) .nil⟩
theorem one_row{o:SO}(hs:SR m φ 0 [o] μ):SRo m φ 0 o μ:=by
 obtain⟨rs,μ',h1,h2,h3⟩:=hs;have h3:μ'=[]:=h3;subst h3;rw[List.append_nil] at h1;subst h1;exact h2
end
end Go.Am
namespace Go.Proofs.YtbnodhcijeaceaaGreatDoor
open Go Go.Am Go.Hb Go.RowKit Go.Sort
theorem js5:j3H (jat Tryz.prog 279) jlJ:=fun args st r st' hx w m φ μ vs hs hr=>by
 unfold jlJ at hx;split at hx
 ·rename_i n T xs;split at hx
  ·rename_i ss hss;split at hx
   ·rename_i hb;cases hx;simp only[Bool.and_eq_true,Bool.not_eq_true'] at hb;have hmk:=hb.1.2;obtain rfl:=Nat.eq_of_beq_eq_true hb.1.1;have hn:=Nat.le_of_ble_eq_true hb.2;have hxs:=jaj hss;subst hxs;obtain⟨v,vs',rfl,h1,h2⟩:=hr.uncons;have:vs'=[]:=List.eq_nil_of_length_eq_zero h2.1.symm;subst this;have hro:=one_row hs.sto;obtain⟨a,cap,hφ,hμ⟩:=jgJ hro;cases h1 with
    | @ms _ _ _ n sz sv _ hφ' hle hv hsl=>
     rw[hφ] at hφ';cases hφ';obtain rfl:=hv rfl;have hown:w.ownsRow 0 T 1 (.slice a ss.length cap) ss.length (ss.map Value.string):=rowM.own (hs.good.own (r:=.row false (.slice a ss.length cap) T 1 ss.length (ss.map Value.string)) (by rw[hμ];simp)) hmk
     rcases hown.2 with⟨hnil,hz⟩|⟨g,cap',cur,hsv,hbase,hgb,r1,r2,r3,r4⟩
     ·have:ss=[]:=List.eq_nil_of_length_eq_zero hz;subst this;refine(Tryz.slices_Sort_string_none a cap w).mono ?_;rintro e w' ⟨rfl,rfl⟩;refine⟨m,φ,μ,Ext.refl _ _,⟨hs.good,?_,fun id hid=>hs.dom id (by simpa using hid)⟩,[],rfl,.nil⟩
      simpa[svL,j2T] using hs.sto
     ·cases hsv;have hH:Holds encStr w g 0 (ss.map bl).toArray:=holds_of_block hgb (by rw[jfT,List.length_map];simpa using r4)
      have hgl:g<w.heap.size:=(Array.getElem?_eq_some_iff.1 hgb).1;have cS:=Tryz.slices_Sort_string g 0 cap (ss.map bl) w hH hgl (by rw[List.length_map];omega)
      rw[List.length_map] at cS;refine cS.mono ?_;rintro e w' ⟨rfl,k,os,rfl⟩;rw[jqK];have hg:=grownBy_sorted (w:=w) (g:=g) (n:=k) (os:=os) (j2T (ss.map bl)).toArray;have hlen:(j2T (ss.map bl)).length=ss.length:=by rw[j3m,List.length_map]
      have hrow:=ownsRow_sorted (n:=k) (os:=os) (ss:=ss.map bl) (ts:=j2T (ss.map bl)) (by rw[j3m]) hbase hgb (by rw[List.length_map];exact r1) r2 r3
      rw[List.length_map] at hrow;have hφ2:φ 0=some (.row (.slice (some ⟨g,0,none⟩) (j2T (ss.map bl)).length cap) (j2T (ss.map bl)).length 1):=by rw[hlen];exact hφ
      obtain⟨μ',hs',hx'⟩:=hs.turn (i:=0) (o':=.row false T 1 (svL (j2T (ss.map bl)))) (r:=.row false (.slice (some ⟨g,0,none⟩) ss.length cap) T 1 ss.length (ss.map Value.string)) (r':=.row false (.slice (some ⟨g,0,none⟩) (j2T (ss.map bl)).length cap) T 1 (j2T (ss.map bl)).length ((j2T (ss.map bl)).map encStr)) (μ1:=[]) (μ2:=[]) (w':=grow (putRow encStr (Sort.ahead w k) g 0 (j2T (ss.map bl)).toArray) os) rfl (by simp) (by rw[hμ];rfl)
       ⟨_,[],rfl,jgS hφ2,rfl⟩ hg.os hg.tape hg.output hg.size (fun b hb hne=>hg.block b hb (fun e=>hne e.symm)) (fun b o v hf hm=>by
        have:=(hs.good.feet (.row false (.slice (some ⟨g,0,none⟩) ss.length cap) T 1 ss.length (ss.map Value.string)) (by rw[hμ];simp) b hf).2 o (Nat.zero_le _)
        rw[hm] at this;cases this) (by rw[hlen];exact j9u hrow) (fun b hb=>.inl ⟨hb,Nat.le_refl _⟩)
      exact⟨m,φ,μ',hx',hs',[],rfl,.nil⟩
   ·cases hx
  ·cases hx
 ·cases hx;obtain⟨v,vs',rfl,h1,h2⟩:=hr.uncons;have:vs'=[]:=List.eq_nil_of_length_eq_zero h2.1.symm;subst this;cases h1 with
  |sl b off g ha hcap hmax hfull hel hr hnil=>
   refine(Tryz.slices_Sort_string_none _ _ w).mono ?_;rintro e w' ⟨rfl,rfl⟩;exact⟨m,φ,μ,Ext.refl _ _,hs,[],rfl,.nil⟩
 ·cases hx
theorem jkz:j3H (jat Tryz.prog 239) jkq:=fun args st r st' hx w m φ μ vs hs hr=>by
 unfold jkq at hx;split at hx
 ·rename_i n T xs;split at hx
  ·rename_i ss hss;split at hx
   ·rename_i hb;cases hx;simp only[Bool.and_eq_true,Bool.not_eq_true'] at hb;have hmk:=hb.1.2;obtain rfl:=Nat.eq_of_beq_eq_true hb.1.1;have hn:=Nat.le_of_ble_eq_true hb.2.1;have hn1:=Nat.le_of_ble_eq_true hb.2.2;have hxs:=jaj hss;subst hxs;obtain⟨v,vs',rfl,h1,h2⟩:=hr.uncons;have:vs'=[]:=List.eq_nil_of_length_eq_zero h2.1.symm;subst this;have hro:=one_row hs.sto;obtain⟨a,cap,hφ,hμ⟩:=jgJ hro;cases h1 with
    | @ms _ _ _ n sz sv _ hφ' hle hv hsl=>
     rw[hφ] at hφ';cases hφ';obtain rfl:=hv rfl;have hown:w.ownsRow 0 T 1 (.slice a ss.length cap) ss.length (ss.map Value.string):=rowM.own (hs.good.own (r:=.row false (.slice a ss.length cap) T 1 ss.length (ss.map Value.string)) (by rw[hμ];simp)) hmk
     rcases hown.2 with⟨hnil,hz⟩|⟨g,cap',cur,hsv,hbase,hgb,r1,r2,r3,r4⟩
     ·omega
     ·cases hsv;have hH:Holds encStr w g 0 (ss.map bl).toArray:=holds_of_block hgb (by rw[jfT,List.length_map];simpa using r4)
      have cS:=Tryz.slices_Compact_string g 0 cap (ss.map bl) w hH (by rw[List.length_map];omega) (by rw[List.length_map];exact r1)
      rw[List.length_map] at cS;refine cS.mono ?_;rintro e w' ⟨rfl,k,rfl⟩;rw[jks];generalize hcs:j5X (ss.map bl)=cs;have hcl:cs.length≤ss.length:=by rw[←hcs];have:=j9K (ss.map bl);rwa [List.length_map] at this
      generalize hts:cs++List.replicate (ss.length-cs.length) []=ts;have htl:ts.length=(ss.map bl).length:=by rw[←hts];simp;omega
      have hg:=grownBy_sorted (w:=w) (g:=g) (n:=k) (os:=#[]) ts.toArray;have hrow:=ownsRow_sorted (n:=k) (os:=#[]) (ss:=ss.map bl) (ts:=ts) htl hbase hgb (by rw[List.length_map];exact r1) r2 r3
      rw[grow_empty] at hg hrow;have hrow':(putRow encStr (Sort.ahead w k) g 0 ts.toArray).ownsRow 0 T 1 (.slice (some ⟨g,0,none⟩) cs.length cap) cs.length (cs.map encStr):=by
       rcases hrow.2 with⟨h0,_⟩|⟨g1,cap1,cur1,e1,e2,e3,e4,e5,e6,e7⟩
       ·cases h0
       ·cases e1;refine⟨by simp,.inr ⟨g,cap,cur1,rfl,e2,e3,by omega,e5,e6,?_⟩⟩
        have:=congrArg (List.take cs.length) e7;rw[List.take_take,←hts,List.map_append,List.take_left' (by simp)] at this
        rw[Nat.mul_one] at this ⊢
        rwa [List.length_map,Nat.min_eq_left hcl] at this
      have hgood:Hb.Good ⟨w,m,feetOf μ⟩ (putRow encStr (Sort.ahead w k) g 0 ts.toArray) m [.row false (.slice (some ⟨g,0,none⟩) cs.length cap) T 1 cs.length (cs.map encStr)]:=by
       have h0:Hb.Good ⟨w,m,feetOf μ⟩ w m (.row false (.slice (some ⟨g,0,none⟩) ss.length cap) T 1 ss.length (ss.map Value.string)::[]):=by rw[←hμ];exact hs.good
       exact h0.turn hg.os hg.tape hg.output hg.size (fun b hb hne=>hg.block b hb (fun e=>hne e.symm)) (fun b o v hf hm=>by
        have:=(h0.feet _ List.mem_cons_self b hf).2 o (Nat.zero_le _);rw[hm] at this;cases this) (j9u hrow') (fun b hb=>.inl ⟨hb,Nat.le_refl _⟩)
      have hd1:=hs.dom 1 (by simp)
      have hle:=j6j (p:=.row (.slice (some ⟨g,0,none⟩) cs.length cap) cs.length 1) hd1;refine⟨m,more φ 1 (.row (.slice (some ⟨g,0,none⟩) cs.length cap) cs.length 1),_,⟨hle,by simp,fun id hid=>?_⟩,⟨hgood,⟨[],_,rfl,rfl,⟨_,[],(List.append_nil _).symm,jgS (j0q _ _ _),rfl⟩⟩,fun id hid=>?_⟩,[.slice (some ⟨g,0,none⟩) cs.length cap],rfl,.cons (.ms (j0q _ _ _) (Nat.le_refl _) (fun _=>rfl) ⟨_,_,_,rfl⟩) .nil⟩
      ·exfalso;cases id with
       |zero=>simp at hid
       |succ id=>simp at hid
      ·simp only[List.length_cons,List.length_nil] at hid;rw[j0S (by omega)]
       exact hs.dom id (by simp;omega)
   ·cases hx
  ·cases hx
 ·rename_i b0 z0;cases hx;obtain⟨v,vs',rfl,h1,h2⟩:=hr.uncons;have:vs'=[]:=List.eq_nil_of_length_eq_zero h2.1.symm;subst this;cases h1 with
  | @sl _ _ _ _ a cap b off g ha hcap hmax hfull hel hr0 hnil0=>
   refine(Tryz.slices_Compact_string_empty a cap w).mono ?_;rintro e w' ⟨rfl,rfl⟩;exact⟨m,φ,μ,Ext.refl _ _,hs,[_],rfl,.cons (R.sl (xs:=[]) b off g ha hcap hmax hfull hel hr0 hnil0) .nil⟩
 ·cases hx
open Go Go.Am Go.Hb
def memN(l:List Nat)(f:Nat):Bool:=match l with
 |[]=>false
 |g::r=>match Nat.beq f g with
  |true=>true
  |false=>memN r f
def rawL:List Nat:=[279,239,222,384,364,338,340,311]
def jua:List Nat:=[314,278,240,169,4294967295,82,384,364,338,340,311]
def litL:List Nat:=[45,67]
def fzL:List Nat:=[4294967295,119,151,154,102,112]
def fzcL:List Nat:=[257,213,4294967295,280,237,4294967295,298,4294967295,4294967295,
 366,367,385,388,235,255,198]
def natC:List (FuncId×NatF):=
 (279,jlJ)::
 (239,jkq)::
 (393,jkV)::
 nat1
theorem jsA:∀p∈natC,j3H (jat Tryz.prog p.1) p.2:=by
 intro p hp;unfold natC at hp;rcases List.mem_cons.1 hp with rfl|hp
 ·exact js5
 rcases List.mem_cons.1 hp with rfl|hp
 ·exact jkz
 rcases List.mem_cons.1 hp with rfl|hp
 ·exact js4
 exact jsz p hp
noncomputable def C1:Cfg:=⟨Tryz.prog,memN fzL,memN rawL,memN jua,memN litL,fun f=>jbo f natC,fun f T=>memN fzcL f && !Nat.beq T 104,fun _=>false,false⟩
theorem jtc:jpe C1:=jq9 (fun _=>rfl) jsA
theorem jtd(n:Nat):EvOk C1 (ev C1 n):=jpA (by kernel_rfl) (by kernel_rfl) jtc n
open Go Go.Am Go.Gw
abbrev iv(n:Int):PV:=.sc (.int .i64 n)
abbrev bv(b:Bool):PV:=.sc (.bool b)
mutual
def LvP:Lv→PV→Prop
 | .mk k n ls,v=>∃b z xs,v=.ag [iv k,iv n,.sl b z xs]∧(z=3∨xs=[])∧LvsP ls xs∧ls.length≤3518437208780
def LvsP:List Lv→List PV→Prop
 |[],xs=>xs=[]
 |l::r,xs=>∃v xs',xs=v::xs'∧LvP l v∧LvsP r xs'
end
theorem LvsP.len:∀{ls:List Lv}{xs:List PV},LvsP ls xs→xs.length=ls.length
 |[],xs,h=>by simp only[LvsP] at h;simp[h]
 |l::r,xs,h=>by
  simp only[LvsP] at h;obtain⟨v,xs',rfl,_,h⟩:=h;simp[LvsP.len h]
theorem LvsP.at:∀{ls:List Lv}{xs:List PV}{i:Nat}{l:Lv},LvsP ls xs→ls[i]?=some l→∃v,xs[i]?=some v∧LvP l v
 |[],xs,i,l,_,h=>by simp at h
 |x::r,xs,i,l,h,e=>by
  simp only[LvsP] at h;obtain⟨v,xs',rfl,h1,h2⟩:=h;cases i with
  |zero=>simp at e;subst e;exact⟨v,rfl,h1⟩
  |succ i=>simpa using LvsP.at h2 (by simpa using e)
variable{xs:List PV}{a b:List UInt8}{l:Lv}{by_ m n r w:Nat}{x y:Operand}{v:PV}{P:Program}{T:TypeId}
theorem LvP.open(h:LvP l v):∃k n ls b z xs,l=.mk k n ls∧v=.ag [iv k,iv n,.sl b z xs]∧(z=3∨xs=[])∧LvsP ls xs∧xs.length=ls.length∧ls.length≤3518437208780:=by
 obtain⟨k,n,ls⟩:=l;simp only[LvP] at h;obtain⟨b,z,xs,rfl,hz,hxs,hb⟩:=h;exact⟨k,n,ls,b,z,xs,rfl,rfl,hz,hxs,hxs.len,hb⟩
inductive LvC:PV→Prop where
 |mk (k n:Int) (b:Bool) (z:Nat) (xs:List PV):LvC (.ag [iv k,iv n,.sl b z xs])
theorem LvP.c(h:LvP l v):LvC v:=by
 obtain⟨k,n,ls,b,z,xs,-,rfl,-⟩:=h.open;exact⟨k,n,b,z,xs⟩
abbrev sv(l:List UInt8):PV:=.sc (str l)
abbrev svs(l:List (List UInt8)):List PV:=l.map sv
mutual
def TmP:Tm→PV→Prop
 | .mk k n s ls ts,v=>∃b z xs c y ys,v=.ag [iv k,iv n,sv s,.sl b z xs,.sl c y ys]∧(z=3∨xs=[])∧LvsP ls xs∧ls.length≤3518437208780∧(y=5∨ys=[])∧TmsP ts ys∧ts.length≤1759218604441∧s.length≤140737488355328∧i64 n
def TmsP:List Tm→List PV→Prop
 |[],xs=>xs=[]
 |l::r,xs=>∃v xs',xs=v::xs'∧TmP l v∧TmsP r xs'
end
theorem TmsP.len:∀{ls:List Tm}{xs:List PV},TmsP ls xs→xs.length=ls.length
 |[],xs,h=>by simp only[TmsP] at h;simp[h]
 |l::r,xs,h=>by
  simp only[TmsP] at h;obtain⟨v,xs',rfl,_,h⟩:=h;simp[TmsP.len h]
theorem TmsP.at:∀{ls:List Tm}{xs:List PV}{i:Nat}{l:Tm},TmsP ls xs→ls[i]?=some l→∃v,xs[i]?=some v∧TmP l v
 |[],xs,i,l,_,h=>by simp at h
 |x::r,xs,i,l,h,e=>by
  simp only[TmsP] at h;obtain⟨v,xs',rfl,h1,h2⟩:=h;cases i with
  |zero=>simp at e;subst e;exact⟨v,rfl,h1⟩
  |succ i=>simpa using TmsP.at h2 (by simpa using e)
theorem TmP.open{t:Tm}(h:TmP t v):∃k n s ls ts b z xs c y ys,t=.mk k n s ls ts∧v=.ag [iv k,iv n,sv s,.sl b z xs,.sl c y ys]∧(z=3∨xs=[])∧LvsP ls xs∧xs.length=ls.length∧ls.length≤3518437208780∧(y=5∨ys=[])∧TmsP ts ys∧ys.length=ts.length∧ts.length≤1759218604441∧s.length≤140737488355328:=by
 obtain⟨k,n,s,ls,ts⟩:=t;simp only[TmP] at h;obtain⟨b,z,xs,c,y,ys,rfl,hz,hxs,hb,hy,hys,hc,hs,_⟩:=h;exact⟨k,n,s,ls,ts,b,z,xs,c,y,ys,rfl,rfl,hz,hxs,hxs.len,hb,hy,hys,hys.len,hc,hs⟩
inductive TmC:PV→Prop where
 |mk (k n:Int) (s:List UInt8) (b:Bool) (z:Nat) (xs:List PV) (c:Bool) (y:Nat) (ys:List PV):TmC (.ag [iv k,iv n,sv s,.sl b z xs,.sl c y ys])
theorem TmP.c{t:Tm}{v:PV}(h:TmP t v):TmC v:=by
 obtain⟨k,n,s,ls,ts,b,z,xs,c,y,ys,-,rfl,-⟩:=h.open;exact⟨k,n,s,b,z,xs,c,y,ys⟩
theorem TmP.num{k n:Int}{s:List UInt8}{ls:List Lv}{ts:List Tm}(h:TmP (.mk k n s ls ts) v):i64 n:=by
 simp only[TmP] at h;obtain⟨b,z,xs,c,y,ys,rfl,hz,hxs,hb,hy,hys,hc,hs,hn⟩:=h;exact hn
theorem sadd(h:a.length+b.length≤9223372036854775807):j0j P .add T x y (sv a) (sv b)=some (sv (a++b)):=by
 have:¬(((⟨a.toArray⟩:ByteArray).size+(⟨b.toArray⟩:ByteArray).size:Nat):Int)>IntKind.i64.max:=by
  rw[j2K,j2K];simp[IntKind.max,IntKind.signed,IntKind.bits];omega
 simp only[j0j,j6E,eqGuard,binOp,Op.stringOp,if_neg this,jmp];rfl
theorem seql:j0j P .eql T x y (sv a) (sv b)=some (bv (a == b)):=by
 simp only[j0j,j6E,eqGuard,binOp,Op.stringOp,j7R];rfl
theorem sneq:j0j P .neq T x y (sv a) (sv b)=some (bv (!(a == b))):=by
 simp only[j0j,j6E,eqGuard,binOp,Op.stringOp,j7R];rfl
def juo(op:BinOp)(a b:List UInt8)(K:PV→Prop):Prop:=match op with
 | .add=>VOk (decide (a.length+b.length≤9223372036854775807)) (K (sv (a++b)))
 | .eql=>K (bv (a == b))
 | .neq=>K (bv (!(a == b)))
 |_=>False
theorem j4n{op:BinOp}{K:PV→Prop}(h:juo op a b K):VRes (j0j P op T x y (sv a) (sv b)) K:=by
 cases op with
 |add=>exact⟨_,sadd (of_decide_eq_true h.h),h.k⟩
 |eql=>exact⟨_,seql,h⟩
 |neq=>exact⟨_,sneq,h⟩
 |_=>exact h.elim
def jeH(o:SO):Prop:=j8h o=[]∧∀f,soIn f o=true
theorem j9s:∀{n:Nat}{x:PV},pur n x=true→ids n x=[]∧∀f,j0e f n x=true
 |0,x,h=>by simp[pur] at h
 |n+1,x,h=>by
  have hall:∀{l:List PV},l.all (pur n)=true→l.flatMap (ids n)=[]∧∀f,l.all (j0e f n)=true:=fun{l} hl=>by
   rw[List.all_eq_true] at hl;exact⟨by rw[List.flatMap_eq_nil_iff];exact fun y hy=>(j9s (hl y hy)).1,fun f=>List.all_eq_true.2 fun y hy=>(j9s (hl y hy)).2 f⟩
  cases x with
  |ag cs=>simp only[pur] at h;exact hall h
  |tu cs=>simp only[pur] at h;exact hall h
  |fn f a b=>
   simp only[pur,Bool.and_eq_true] at h;refine⟨by simp only[ids,(hall h.1).1,(hall h.2).1,List.append_nil],fun f=>by simp only[j0e,(hall h.1).2 f,(hall h.2).2 f,Bool.and_self]⟩
  |ifc t x=>
   simp only[pur] at h;show ids n x=[]∧∀f,j0e f n x=true
   exact j9s (n:=n) h
  |_=>first|(simp[pur] at h;done)|exact⟨rfl,fun _=>rfl⟩
theorem joj{cs:List PV}(h:cs.all (pur 8)=true):jeH (.box T cs):=by
 rw[List.all_eq_true] at h;exact⟨by simp only[j8h];rw[List.flatMap_eq_nil_iff];exact fun y hy=>(j9s (h y hy)).1,fun f=>List.all_eq_true.2 fun y hy=>(j9s (h y hy)).2 f⟩
def PlainL:Sto→Prop
 |[]=>True
 |o::r=>jeH o∧PlainL r
theorem PlainL.mem:∀{st:Sto},PlainL st→∀o∈st,jeH o
 |[],_,o,h=>by cases h
 |a::r,h,o,ho=>by
  rcases List.mem_cons.1 ho with rfl|ho
  ·exact h.1
  ·exact PlainL.mem h.2 o ho
theorem j0d(l:List (List UInt8)):(svs l).all (pur 8)=true:=by
 rw[List.all_eq_true]
 intro x hx;obtain⟨s,_,rfl⟩:=List.mem_map.1 hx;rfl
theorem j8B(l:List (List UInt8)):(svs l).all (pur 6)=true:=by
 rw[List.all_eq_true]
 intro x hx;obtain⟨s,_,rfl⟩:=List.mem_map.1 hx;rfl
theorem jqW{C:Cfg}{f:FuncId}{b:Bool}{z i:Nat}{st:Sto}{Q:AEnd→Sto→Prop}(hk:C.keep f=false)(hst:st[i]?=some (.row b T z xs))(hn:n=xs.length)(hp:xs.all (pur 6)=true)(k:Q (.ret [.sl false z xs]) []):VRet C f 0 [.ms i n] st Q:=by
 refine⟨[.sl false z xs],[],?_,k⟩;have:(Nat.beq n xs.length&&xs.all (pur 6))=true:=by rw[hp,hn,Nat.beq_refl];rfl
 simp only[aret,hk,pubL,mapS,pubV,pubRow,hst,this];rfl
theorem j1h{t t' a b:Nat}(h:xs.length=n)(ht:Nat.beq t t'=true)(ha:Nat.beq a b=true)(hw:by_=w)(hr:room=r)(h1:m*w≤r)(h2:m≤r):(Nat.beq n xs.length&&Nat.beq t t'&&Nat.beq a b&&fits m by_)=true:=by
 subst h hw hr;rw[ht,ha,Nat.beq_refl,fits,Nat.ble_eq_true_of_le h1,Nat.ble_eq_true_of_le h2];rfl
theorem jec{a b:Nat}{e:Bool}(ha:Nat.beq a b=true)(hw:by_=w)(hr:room=r)(h1:m*w≤r)(h2:m≤r):(true&&(Nat.beq a b||e)&&fits m by_)=true:=by
 subst hw hr;rw[ha,fits,Nat.ble_eq_true_of_le h1,Nat.ble_eq_true_of_le h2];rfl
open Go Go.Am Go.Gw
theorem jr2(k:Int):Pf C1 272 [iv k] [iv (jh5 k)]:=by
 refine j00 Tryz.func272 rfl rfl rfl ?_;repeat'(first|refine gU ?_|apply gE<;>intro h)<;>conv=>whnf
 all_goals simp_all[jh5]
theorem jqe(l:Lv)(v:PV)(h:LvP l v)(n:Int):Pf C1 233 [v,iv n] [bv (ja4 l n)]:=by
 obtain⟨k,nn,ls,b,z,xs,rfl,rfl,hz,hxs,hlen,hbd⟩:=h.open;refine j00 Tryz.func233 rfl rfl rfl ?_;repeat'(first|refine gU ?_|apply gE<;>intro h|refine j01 (jr2 _) fun _=>?_|apply gK)<;>conv=>whnf
 all_goals simp_all[jh5,ja4]
 all_goals omega
theorem jrU(l:Lv):∀v,LvP l v→∀n,Pf C1 176 [v,iv n] [bv (allF l n)]:=by
 induction l using Lv.ind with
 |_ k nn ls ih=>
 intro v h n;have hnode:=jqe _ _ h n;obtain⟨_,_,_,b,z,xs,⟨rfl,rfl,rfl⟩,rfl,hz,hxs,hlen,hbd⟩:=h.open;refine j00 Tryz.func176 rfl rfl rfl ?_;repeat'(first|refine gU ?_|apply gM<;>intro h|refine gX hnode ?_)<;>conv=>whnf
 ·refine j03 (G:=Nat) (fun i=>[(14,iv i)]) (fun _=>_) (fun i=>i≤ls.length∧j4p (ls.drop i) n=j4p ls n) (fun i=>ls.length-i) 0 ⟨by omega,rfl⟩ rfl rfl ?_
  rintro i ⟨hi,hall⟩;repeat'(first|refine gU ?_|apply gE<;>intro h)<;>conv=>whnf
  ·have hi':i<ls.length:=by omega
   obtain⟨lc,hlc⟩:∃lc,ls[i]?=some lc:=⟨_,List.getElem?_eq_getElem hi'⟩;obtain⟨v,hv,hl⟩:=hxs.at hlc;have hrec:=ih _ (List.mem_of_getElem? hlc) _ hl n;obtain⟨k1,n1,l1,b1,z1,x1,rfl,rfl,hz1,hxs1,hlen1,hbd1⟩:=hl.open;refine VIdx.mk _ hv (VOk.mk (j0N rfl hz) ?_);repeat'(first|refine gU ?_|apply gM<;>intro h|refine gX hrec ?_)<;>conv=>whnf
   ·refine VAgain.mk _ rfl _ (j0a rfl rfl rfl) ⟨i+1,⟨hi',?_⟩,by omega,rfl⟩
    rw[←hall,drop_at hlc];simp[j4p,h]
   ·rw[drop_at hlc] at hall;simp only[j4p] at hall;have:j4p ls n=false:=by rw[←hall];simp[h]
    simp[allF,this]
  ·have:i=ls.length:=by omega
   subst this;rw[List.drop_length] at hall
   simp_all[allF,j4p]
 ·simp_all[allF]
theorem jmL(l:Lv):∀v,LvP l v→∀(left:Int),0≤left→left≤1000000→Finds C1 232 [v,.bp 0 0] [.box 3 [iv left]] fun r st=>r=.ret []∧st=[.box 3 [iv (j1M l left)]]:=by
 induction l using Lv.ind with
 |_ k nn ls ih=>
 intro v h left h0 h1;obtain⟨_,_,_,b,z,xs,⟨rfl,rfl,rfl⟩,rfl,hz,hxs,hlen,hbd⟩:=h.open;refine j00 Tryz.func232 rfl rfl rfl ?_;repeat'(refine gU ?_)<;>conv=>whnf
 refine j03 (G:=Nat×Int) (fun g=>[(14,iv g.1)]) (fun g=>[.box 3 [iv g.2],_]) (fun g=>g.1≤ls.length∧-1≤g.2∧g.2≤1000000∧j0z (ls.drop g.1) g.2=j0z ls (left-1)) (fun g=>ls.length-g.1) (0,left-1) ⟨by omega,by dsimp only;omega,by dsimp only;omega,rfl⟩ rfl rfl ?_
 rintro⟨i,lf⟩ ⟨hi,hlf0,hlf1,hall⟩;dsimp only at hi hlf0 hlf1 hall⊢;repeat'(first|refine gU ?_|apply gE<;>intro h)<;>conv=>whnf
 ·have hi':i<ls.length:=by omega
  obtain⟨lc,hlc⟩:∃lc,ls[i]?=some lc:=⟨_,List.getElem?_eq_getElem hi'⟩;obtain⟨v,hv,hl⟩:=hxs.at hlc;obtain⟨k1,n1,l1,b1,z1,x1,rfl,rfl,hz1,hxs1,hlen1,hbd1⟩:=hl.open;refine VIdx.mk _ hv (VOk.mk (j0N rfl hz) ?_);repeat'(first|refine gU ?_|apply gE<;>intro h)<;>conv=>whnf
  ·have:j1M (.mk k nn ls) left=lf:=by rw[j1M,←hall,j3O _ _ (by omega)]
   exact⟨rfl,by rw[this];rfl⟩
  ·refine j0F rfl rfl rfl rfl rfl rfl (Finds.mono (ih _ (List.mem_of_getElem? hlc) _ hl lf (by omega) (by omega)) ?_)
   rintro _ _ ⟨rfl,rfl⟩;refine j1Y rfl ?_;repeat'(refine gU ?_)<;>conv=>whnf
   have hcg:=j5Y (.mk k1 n1 l1) lf (by omega)
   refine VAgain.mk _ rfl _ (j0a rfl rfl rfl) ⟨(i+1,j1M (.mk k1 n1 l1) lf),⟨hi',by dsimp only;omega,by dsimp only;omega,?_⟩,by dsimp only;omega,rfl⟩
   rw[←hall,drop_at hlc,j0z,if_neg (by omega)]
 ·have:j1M (.mk k nn ls) left=lf:=by
   obtain rfl:i=ls.length:=by omega
   rw[List.drop_length,j0z] at hall;rw[j1M,←hall]
  exact⟨rfl,by rw[this];rfl⟩
theorem jgr(l:Lv)(v:PV)(h:LvP l v):Pf C1 175 [v] [iv (j6r l)]:=by
 have h0:=h;obtain⟨k,nn,ls,b,z,xs,rfl,rfl,hz,hxs,hlen,hbd⟩:=h.open;have hcg:=j5Y (.mk k nn ls) 64 (by omega)
 refine j00 Tryz.func175 rfl rfl rfl ?_;repeat'(refine gU ?_)<;>conv=>whnf
 refine j0F rfl rfl rfl rfl rfl rfl (Finds.mono (jmL _ _ h0 64 (by omega) (by omega)) ?_)
 rintro _ _ ⟨rfl,rfl⟩;refine j1Y rfl ?_;repeat'(refine gU ?_)<;>conv=>whnf
 all_goals simp only[j6r,jjv]
 all_goals simp_all
 all_goals omega
theorem j2D(l:Lv)(v:PV)(h:LvP l v)(n:Int):Pf C1 106 [v,iv n] [bv (j0x l n)]:=by
 have hn:=jgr l v h;have ha:=jrU l v h n;obtain⟨k,nn,ls,b,z,xs,rfl,rfl,hz,hxs,hlen,hbd⟩:=h.open;refine j00 Tryz.func106 rfl rfl rfl ?_;repeat'(first|refine gU ?_|apply gE<;>intro h|refine gX hn ?_|refine gX ha ?_)<;>conv=>whnf
 all_goals simp_all[j0x,retV]
 all_goals omega
theorem j8r(a b:Int):(if b<a then b else a)=min a b:=by
 by_cases h:b<a
 ·rw[if_pos h];omega
 ·rw[if_neg h];omega
theorem j5x(l:Lv):1≤j0M l:=by cases l;simp[j0M]
theorem jcp(l:Lv):∀v,LvP l v→∀(q:Int),0≤q→q≤1000000→Pf C1 103 [v,iv q] [iv (lnF l q)]:=by
 induction l using Lv.ind with
 |_ k nn ls ih=>
 intro v h q h0 h1;obtain⟨_,_,_,b,z,xs,⟨rfl,rfl,rfl⟩,rfl,hz,hxs,hlen,hbd⟩:=h.open;refine j00 Tryz.func103 rfl rfl rfl ?_;all_goals try conv=>whnf
 refine j03 (G:=Nat×Int) (fun g=>[(6,iv g.1),(5,iv g.2)]) (fun g=>_) (fun g=>g.1≤ls.length∧1≤g.2∧g.2≤2*q+2∧lnFs (ls.drop g.1) g.2 q=lnFs ls 1 q) (fun g=>ls.length-g.1) (0,1) ⟨by omega,by dsimp only;omega,by dsimp only;omega,rfl⟩ rfl rfl ?_
 rintro⟨i,acc⟩ ⟨hi,ha1,ha2,hacc⟩;dsimp only at hi ha1 ha2 hacc⊢;repeat'(first|refine gU ?_|apply gE<;>intro h)<;>conv=>whnf
 ·have hi':i<ls.length:=by omega
  obtain⟨lc,hlc⟩:∃lc,ls[i]?=some lc:=⟨_,List.getElem?_eq_getElem hi'⟩;obtain⟨v,hv,hl⟩:=hxs.at hlc;have hrec:=ih _ (List.mem_of_getElem? hlc) _ hl q h0 h1;have hx:=jgj lc q h0;have hxp:=j5x lc;obtain⟨k1,n1,l1,b1,z1,x1,rfl,rfl,hz1,hxs1,hlen1,hbd1⟩:=hl.open;refine VIdx.mk _ hv (VOk.mk (j0N rfl hz) ?_);repeat'(first|refine gU ?_|refine gX hrec ?_)<;>conv=>whnf
  refine VAgain.mk _ rfl _ (j0a rfl rfl rfl) ⟨(i+1,acc+lnF (.mk k1 n1 l1) q),⟨hi',by dsimp only;omega,by dsimp only;omega,?_⟩,by dsimp only;omega,rfl⟩
  rw[←hacc,drop_at hlc,lnFs,if_pos (by omega)]
 all_goals
  have e:lnFs ls 1 q=acc:=by
   rw[←hacc]
   by_cases hil:i<ls.length
   ·obtain⟨lc,hlc⟩:∃lc,ls[i]?=some lc:=⟨_,List.getElem?_eq_getElem hil⟩;rw[drop_at hlc,lnFs,if_neg (by omega)]
   ·rw[List.drop_of_length_le (by omega),lnFs]
  rw[lnF,e,←j8r]
end Go.Proofs.YtbnodhcijeaceaaGreatDoor
