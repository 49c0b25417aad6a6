/-
  The library's functions at their word, for the plain machine: what the shelf says of them. No statement of the seat.
-/
import Derived.Test.YtljnahbgfmflaaaGreatDoorZLv
import Derived.Test.YtljnahbgfmflaaaGreatDoorZShelf
import Derived.WalkKit
import Derived.Lib.AppendIntMem
import Derived.Test.YtljnahbgfmflaaaGreatDoorZSh
set_option linter.unusedVariables false
set_option maxRecDepth 100000
set_option linter.unusedSimpArgs false
set_option linter.unnecessarySimpa false
namespace Go.Am
open Go Go.Hb Go.RowKit
theorem Good.under {E:Entry} {w w':World} {m:Mem} {μ:Own} (h:Hb.Good E w m μ) (hb:Below w.heap.size w w'):Hb.Good E w' m μ :=
 ⟨hb.os.trans h.os,hb.tape.trans h.tape,hb.output.trans h.output,Nat.le_trans h.size hb.size,fun b hlt hF=>(hb.block b (Nat.lt_of_lt_of_le hlt h.size)).trans (h.keep b hlt hF),
  fun b o v e=>(let ⟨c,T,fr,h1,h2⟩:=h.sub b o v e; ⟨c,T,fr,(hb.block b (j1q h1)).trans h1,h2⟩),h.mem,h.fresh,fun r hr=>Res.holds_of (h.holds r hr) (fun b hf=>hb.block b (Res.holds_lt (h.holds r hr) hf)),h.feet,h.apart,
  fun b cs hc=>(let ⟨⟨cs',T,fr,hp,h1⟩,h2⟩:=h.glob b cs hc; ⟨⟨cs',T,fr,hp,(hb.block b (j1q h1)).trans h1⟩,h2⟩)⟩
theorem Good.below {w w':World} {m m':Mem} {μ':Own} {F:Nat→Prop} (h:Hb.Good ⟨w,m,F⟩ w' m' μ') (hF:∀ b,¬ F b):Below w.heap.size w w' :=
 ⟨h.os,h.tape,h.output,h.size,fun b hb=>h.keep b hb (hF b)⟩
def jay (P:Program) (f:FuncId) (F:List PV→Option (List PV)):Prop:=∀ args rs,F args=some rs→∀ w m vs,Hb.Good ⟨w,m,fun _=>False⟩ w m []→Rl m noPh args vs →
 Calls P f vs.toArray w fun en w'=>∃ m' us,Hb.Good ⟨w,m,fun _=>False⟩ w' m' []∧en = .returned (Gw.tup us)∧Rl m' noPh rs us
theorem j1Q {P:Program} {f:FuncId} {F:List PV→Option (List PV)} (h:jay P f F):j3S (jbP P f) (natP F):=fun args st r st' hx w m φ μ vs hs hr=>by
 unfold natP at hx
 split at hx
 ·split at hx
  ·rename_i rs hf
   cases hx
   have hμ:μ=[]:=hs.sto
   subst hμ
   have hfeet:feetOf ([]:Own)=fun _=>False:=by funext b; simp [feetOf]
   have hφ:φ=noPh:=by funext id; exact hs.dom id (Nat.zero_le _)
   subst hφ
   rw [hfeet] at hs
   refine (h args rs hf w m vs hs.good hr).mono fun en w' ⟨m',us,h1,h2,h3⟩=>?_
   rw [hfeet]
   exact ⟨m',noPh,[],Ext.refl _ _,⟨h1,rfl,fun _ _=>rfl⟩,us,h2,h3⟩
  ·cases hx
 ·cases hx
theorem j1w {P:Program} {f:FuncId} {F:List PV→Option (List PV)} (h:∀ args rs,F args=some rs→∀ w m vs,Hb.Good ⟨w,m,fun _=>False⟩ w m []→Rl m noPh args vs →
  ∃ us,Rl m noPh rs us∧Calls P f vs.toArray w fun en w'=>en = .returned (Gw.tup us)∧Below w.heap.size w w'):jay P f F:=fun args rs hF w m vs hg hr=>by
 obtain ⟨us,h1,h2⟩:=h args rs hF w m vs hg hr
 exact h2.mono fun en w' ⟨h3,h4⟩=>⟨m,us,Good.under hg h4,h3,h1⟩
theorem Rl.one {m:Mem} {x:PV} {vs:List Value} (h:Rl m noPh [x] vs):∃ v,vs=[v]∧R m noPh x v:=by
 obtain ⟨v,vs',rfl,h1,h2⟩:=h.uncons
 have:vs'=[]:=List.eq_nil_of_length_eq_zero h2.1.symm
 exact ⟨v,by rw [this],h1⟩
theorem Rl.two {m:Mem} {x y:PV} {vs:List Value} (h:Rl m noPh [x,y] vs):∃ u v,vs=[u,v]∧R m noPh x u∧R m noPh y v:=by
 obtain ⟨u,vs',rfl,h1,h2⟩:=h.uncons
 obtain ⟨v,rfl,h3⟩:=h2.one
 exact ⟨u,v,rfl,h1,h3⟩
theorem Rl.sc1 {m:Mem} {v:Value} (h:isSc v=true):Rl m noPh [.sc v] [v]:=.cons (.sc h) .nil
theorem Rl.sc2 {m:Mem} {u v:Value} (h:isSc u=true) (h':isSc v=true):Rl m noPh [.sc u,.sc v] [u,v]:=.cons (.sc h) (Rl.sc1 h')
def strOf:PV→Option ByteArray
 | .sc (.string s)=>some s
 |_=>none
def bl (s:ByteArray):List UInt8:=s.data.toList
def ls (l:List UInt8):Value:=.string ⟨l.toArray⟩
def j7Q:List PV→Option (List PV)
 |[.sc (.string s),.sc (.string p)]=>some [.sc (ls (Lib.trimPrefix (bl s) (bl p))),.sc (.bool (Lib.hasPrefix (bl s) (bl p)))]
 |_=>none
def j7t:List PV→Option (List PV)
 |[.sc (.string s),.sc (.string p)]=>some [.sc (.bool (Lib.hasPrefix (bl s) (bl p)))]
 |_=>none
def digK:Nat→Nat→List UInt8
 |0,_=>[]
 |k + 1,n=>match Nat.blt n 10 with
  |true=>[UInt8.ofNat (48 + n)]
  |false=>digK k (n / 10) ++ [UInt8.ofNat (48 + n % 10)]
theorem jfr:∀ {k n:Nat},n < 10 ^ (k + 1)→digK (k + 1) n=Lib.decDigits n
 |k,n,h=>by
  rw [digK,Lib.decDigits]
  by_cases hn:n < 10
  ·rw [dif_pos hn]
   have:Nat.blt n 10=true:=by rw [Nat.blt_eq]; exact hn
   rw [this]
  ·rw [dif_neg hn]
   have:Nat.blt n 10=false:=by rw [Bool.eq_false_iff]; intro e; rw [Nat.blt_eq] at e; exact hn e
   rw [this]
   simp only
   cases k with
   |zero=>simp at h; omega
   |succ k=>rw [jfr (by rw [Nat.pow_succ] at h; omega)]
def jm6 (n:Int):List UInt8:=match n with
 | .ofNat q=>digK 20 q
 | .negSucc q=>45 :: digK 20 (q + 1)
theorem jmn {n:Int} (h:n.natAbs ≤ 9223372036854775807):jm6 n=Lib.itoa n:=by
 cases n with
 |ofNat q =>
  simp only [jm6,Lib.itoa]
  rw [if_neg (by simp),jfr (by simp at h; omega)]
  rfl
 |negSucc q =>
  simp only [jm6,Lib.itoa]
  rw [if_pos (Int.negSucc_lt_zero q),jfr (by simp at h; omega)]
  rfl
def jox:List PV→Option (List PV)
 |[.sc (.int .i64 n)]=>match Nat.ble n.natAbs 9223372036854775807 with
  |true=>some [.sc (ls (jm6 n))]
  |false=>none
 |_=>none
def jp3:List PV→Option (List PV)
 |[.sc (.string s)]=>match Nat.ble (bl s).length 18,Lib.atoi (bl s) with
  |true,some n=>some [.sc (.int .i64 n),.sc .nilIface]
  |_,_=>none
 |_=>none
def ascii (l:List UInt8):Bool:=l.all fun b=>Nat.blt b.toNat 128
def j8O:List PV→Option (List PV)
 |[.sc (.string s),.sc (.string c)]=>match Nat.ble (bl s).length 1000000 && Nat.ble (bl c).length 1000000 && (ascii (bl s) && ascii (bl c)) with
  |true=>some [.sc (.int .i64 (Lib.indexAny (bl s) (bl c)))]
  |false=>none
 |_=>none
def jko:List PV→Option (List PV)
 |[.sc (.string s),.sc (.string c)]=>match bl c with
  |[b]=>some [.sc (.int .i64 (Lib.indexByte (bl s) b))]
  |_=>none
 |_=>none
def jar:List PV→Option (List PV)
 |[.sl _ _ xs,.sc (.string sep)]=>match mapO strOf xs with
  |some ss=>match Nat.ble ss.length 1000000000 && Nat.ble (Lib.join (ss.map bl) (bl sep)).length 1000000000 with
   |true=>some [.sc (ls (Lib.join (ss.map bl) (bl sep)))]
   |false=>none
  |none=>none
 |_=>none
def j3R (c:Nat):Bool:=decide (97 ≤ c∧c ≤ 122∨48 ≤ c∧c ≤ 57∨c=95)
def j7T (g:FuncId):List PV→Option (List PV)
 |[.sc (.string s),.fn f [] []]=>match Nat.beq f g with
  |true=>some [.sc (.int .i64 (Lib.idxFunc (fun c=>!j3R c) true s))]
  |false=>none
 |_=>none
theorem jqR (s:ByteArray):(⟨(bl s).toArray⟩:ByteArray)=s:=by unfold bl; simp
theorem jgz:∀ {xs:List PV} {ss:List ByteArray},mapO strOf xs=some ss→xs=ss.map fun s=>.sc (.string s)
 |[],ss,h=>by simp only [mapO,Option.some.injEq] at h; subst h; rfl
 |x :: xs,ss,h=>by
  obtain ⟨y,l,rfl,h1,h2⟩:=j3N h
  rw [jgz h2]
  unfold strOf at h1
  split at h1
  ·cases h1; rfl
  ·cases h1
end Go.Am
namespace Go.Proofs.YtljnahbgfmflaaaGreatDoor
open Go Go.Am Go.Hb Go.RowKit
theorem jcN:jay Tryz.prog 140 j7Q:=j1w fun args rs hF w m vs hg hr=>by
 unfold j7Q at hF
 split at hF
 ·cases hF
  obtain ⟨u,v,rfl,h1,h2⟩:=hr.two
  obtain rfl:=h1.sc_eq
  obtain rfl:=h2.sc_eq
  exact ⟨_,Rl.sc2 rfl rfl,(Tryz.strings_CutPrefix _ _ w).mono fun e w' ⟨h3,h4⟩=>⟨h3,by rw [h4]; exact Below.refl _ _⟩⟩
 ·cases hF
theorem jbJ:jay Tryz.prog 226 j7t:=j1w fun args rs hF w m vs hg hr=>by
 unfold j7t at hF
 split at hF
 ·cases hF
  obtain ⟨u,v,rfl,h1,h2⟩:=hr.two
  obtain rfl:=h1.sc_eq
  obtain rfl:=h2.sc_eq
  exact ⟨_,Rl.sc1 rfl,(Tryz.strings_HasPrefix _ _ w).mono fun e w' ⟨h3,h4⟩=>⟨h3,by rw [h4]; exact Below.refl _ _⟩⟩
 ·cases hF
theorem jqg {E:Entry} {w:World} {m:Mem} {μ:Own} (hg:Hb.Good E w m μ):Lib.TabIs Tryz.prog w "internal/strconv.uint64pow10" .u64 Lib.pow10Tab:=by
 obtain ⟨⟨cs,T,fr,rfl,h1⟩,_⟩:=hg.glob 0 _ rfl
 have hn:Tryz.prog.globalNamed "internal/strconv.uint64pow10" = some 0:=by kernel_rfl
 unfold Lib.TabIs World.var?
 rw [hn]
 simp only [Option.bind_some,h1]
theorem jmG:jay Tryz.prog 119 jox:=j1w fun args rs hF w m vs hg hr=>by
 unfold jox at hF
 split at hF
 ·rename_i n
  split at hF
  ·rename_i hb
   cases hF
   obtain ⟨u,rfl,h1⟩:=hr.one
   obtain rfl:=h1.sc_eq
   have:=Nat.le_of_ble_eq_true hb
   rw [jmn this]
   exact ⟨_,Rl.sc1 rfl,(Tryz.strconv_Itoa n (by omega) (by omega) w (jqg hg)).mono fun e w' ⟨h3,k,os,hk⟩=>⟨h3,by subst hk; exact Lib.below_grow _ _ (Nat.le_refl _) _ _⟩⟩
  ·cases hF
 ·cases hF
theorem jfD (w:World) (e:TypeId) (s:ByteArray):Below w.heap.size w (Lib.bytesWorld w e s):=by
 exact ⟨rfl,rfl,rfl,by rw [Lib.bytesWorld_size]; omega,fun k hk=>Lib.bytesWorld_at_old w e s k hk⟩
theorem jnv:jay Tryz.prog 188 jp3:=j1w fun args rs hF w m vs hg hr=>by
 unfold jp3 at hF
 split at hF
 ·rename_i s
  split at hF
  ·rename_i n hb hn
   cases hF
   obtain ⟨u,rfl,h1⟩:=hr.one
   obtain rfl:=h1.sc_eq
   have:=Nat.le_of_ble_eq_true hb
   exact ⟨_,Rl.sc2 rfl rfl,(Tryz.strconv_Atoi s n this hn w).mono fun e w' ⟨h3,t,hk⟩=>⟨h3,by subst hk; exact jfD _ _ _⟩⟩
  ·cases hF
 ·cases hF
theorem jgS {l:List UInt8} (h:ascii l=true) (j:Nat) (b:UInt8) (hb:l[j]? = some b):b.toNat < 128:=by
 have:=List.all_eq_true.1 h b (List.mem_of_getElem? hb)
 rwa [Nat.blt_eq] at this
theorem jda:jay Tryz.prog 186 j8O:=j1w fun args rs hF w m vs hg hr=>by
 unfold j8O at hF
 split at hF
 ·rename_i s c
  split at hF
  ·rename_i hb
   cases hF
   simp only [Bool.and_eq_true] at hb
   obtain ⟨⟨h5,h6⟩,h7,h8⟩:=hb
   have h5:=Nat.le_of_ble_eq_true h5
   have h6:=Nat.le_of_ble_eq_true h6
   have e1:s.size=(bl s).length:=by rw [bl]; exact Lib.size_eq s
   have e2:c.size=(bl c).length:=by rw [bl]; exact Lib.size_eq c
   obtain ⟨u,v,rfl,h1,h2⟩:=hr.two
   obtain rfl:=h1.sc_eq
   obtain rfl:=h2.sc_eq
   exact ⟨_,Rl.sc1 rfl,Tryz.strings_IndexAny_laid s c w (by omega) (by omega) (jgS h7) (jgS h8)⟩
  ·cases hF
 ·cases hF
theorem jje:jay Tryz.prog 272 jko:=j1w fun args rs hF w m vs hg hr=>by
 unfold jko at hF
 split at hF
 ·rename_i s c
  split at hF
  ·rename_i b hb
   cases hF
   have hc:c=⟨#[b]⟩:=by rw [← jqR c,hb]
   subst hc
   obtain ⟨u,v,rfl,h1,h2⟩:=hr.two
   obtain rfl:=h1.sc_eq
   obtain rfl:=h2.sc_eq
   exact ⟨_,Rl.sc1 rfl,(Tryz.strings_Index_one s b w).mono fun e w' ⟨h3,h4⟩=>⟨h3,by rw [h4]; exact Below.refl _ _⟩⟩
  ·cases hF
 ·cases hF
theorem nat_join:jay Tryz.prog 172 jar:=j1w fun args rs hF w m vs hg hr=>by
 unfold jar at hF
 split at hF
 ·rename_i b z xs sep
  split at hF
  ·rename_i ss hss
   split at hF
   ·rename_i hb
    cases hF
    simp only [Bool.and_eq_true] at hb
    obtain ⟨h5,h6⟩:=hb
    have h5:=Nat.le_of_ble_eq_true h5
    have h6:=Nat.le_of_ble_eq_true h6
    have hxs:=jgz hss
    obtain ⟨u,v,rfl,h1,h2⟩:=hr.two
    obtain rfl:=h2.sc_eq
    have hlen:xs.length=ss.length:=by rw [hxs]; simp
    cases h1 with
    | @sl _ _ _ _ a cap bk off g ha hcap hmax hfull hel hrr hnil =>
     refine ⟨[_],Rl.sc1 rfl,?_⟩
     cases hss0:ss with
     |nil =>
      subst hss0
      have hx0:xs=[]:=by simpa using hxs
      subst hx0
      exact (Tryz.strings_Join_none a cap sep w).mono fun e w' ⟨h3,h4⟩=>⟨h3,by rw [h4]; exact Below.refl _ _⟩
     |cons s0 sr =>
      rw [← hss0]
      have hne:xs ≠ []:=by rw [hxs,hss0]; simp
      have hcell:∀ (j:Nat) x,ss[j]? = some x→w.cell? ⟨bk,off + j,none⟩=some (.string x):=fun j x hj=>by
       have hx:xs[j]? = some (.sc (.string x)):=by rw [hxs,List.getElem?_map,hj]; rfl
       obtain ⟨q1,q2,q3,q4⟩:=hel j _ hx
       simp only [PV.cells,List.length_singleton] at q1
       subst q1
       have hg0:∃ v,g j=[v]:=List.length_eq_one_iff.1 q2
       obtain ⟨v,hv⟩:=hg0
       have:=hrr j _ 0 (.sc (.string x)) v hx rfl (by rw [hv]; rfl)
       obtain rfl:=this.sc_eq
       have hm:=q3 0 (.string x) (by rw [hv]; rfl)
       have:=hg.cell hm
       simpa using this
      rw [ha hne,hlen]
      have hbk:bk < w.heap.size:=by
       have h0:=hcell 0 s0 (by rw [hss0]; rfl)
       simp only [World.cell?] at h0
       cases e:w.heap[bk]? with
       |none=>simp [e] at h0
       |some o=>exact j1q e
      exact Tryz.strings_Join bk off cap ss sep w hcell hbk (by omega) (by rw [← hlen]; exact hcap) (by exact Nat.le_trans h6 (by omega))
   ·cases hF
  ·cases hF
 ·cases hF
theorem jfs (x:Nat) (W:World):Calls Tryz.prog 241 #[.int .i32 (x:Int)] W fun e w'=>e = .returned (.bool (j3R x))∧w'=W:=by
 go_enter Tryz.func241,Tryz.ntmps241
 go_wp2
 all_goals (go_ret; refine ⟨congrArg (fun b=>Ending.returned (.bool b)) ?_,rfl⟩; rw [Bool.eq_iff_iff]; simp [j3R]; try omega)
theorem jeP (x:Nat) (hx:x ≤ 1114111) (W:World):FnGives Tryz.prog 240 #[] #[encR x] (.bool (!j3R x)) W:=by
 show Calls Tryz.prog 240 #[.int .i32 (x:Int)] W _
 go_enter Tryz.func240,Tryz.ntmps240
 go_wp2_with (go_at_call 241; refine (jfs _ _).mono ?_; rintro e w' ⟨rfl,rfl⟩)
 all_goals (go_ret; exact ⟨by simp,0,rfl⟩)
theorem jbw:jay Tryz.prog 242 (j7T 240):=j1w fun args rs hF w m vs hg hr=>by
 unfold j7T at hF
 split at hF
 ·rename_i s f
  split at hF
  ·rename_i hb
   cases hF
   obtain rfl:=Nat.eq_of_beq_eq_true hb
   obtain ⟨u,v,rfl,h1,h2⟩:=hr.two
   obtain rfl:=h1.sc_eq
   cases h2 with
   | @fn _ _ _ _ us ws hl hl' _ _ =>
    have e1:us=[]:=List.eq_nil_of_length_eq_zero hl.symm
    have e2:ws=[]:=List.eq_nil_of_length_eq_zero hl'.symm
    subst e1
    subst e2
    exact ⟨_,Rl.sc1 rfl,Tryz.strings_IndexFunc_runes 240 #[] (fun args w=>by kernel_rfl) (fun c=>!j3R c) s w (fun W x hx _=>jeP x hx W)⟩
  ·cases hF
 ·cases hF
abbrev NatF:=List PV→Sto→Option (AEnd × Sto)
def j8I (f:FuncId):List (FuncId × NatF)→Option NatF
 |[]=>none
 |(g,F) :: r=>match Nat.beq f g with
  |true=>some F
  |false=>j8I f r
theorem j8E {f:FuncId} {F:NatF}:∀ {l:List (FuncId × NatF)},j8I f l=some F→(f,F) ∈ l
 |[],h=>by cases h
 |(g,G) :: r,h=>by
  simp only [j8I] at h
  split at h
  ·rename_i hb
   obtain rfl:=Nat.eq_of_beq_eq_true hb
   cases h
   exact List.mem_cons_self
  ·exact List.mem_cons_of_mem _ (j8E h)
theorem jn4 {C:Cfg} {l:List (FuncId × NatF)} (hl:∀ f,C.nat f=j8I f l) (h:∀ p ∈ l,j3S (jbP C.P p.1) p.2):jn0 C:=fun f F hF=>h (f,F) (j8E (by rw [← hl]; exact hF))
def nat1:List (FuncId × NatF):=[
 (172,natP jar),
 (140,natP j7Q),
 (226,natP j7t),
 (119,natP jox),
 (188,natP jp3),
 (186,natP j8O),
 (272,natP jko),
 (242,natP (j7T 240))]
theorem joB:∀ p ∈ nat1,j3S (jbP Tryz.prog p.1) p.2:=by
 intro p hp
 simp only [nat1,List.mem_cons,List.not_mem_nil,or_false] at hp
 rcases hp with rfl|rfl|rfl|rfl|rfl|rfl|rfl|rfl
 ·exact j1Q nat_join
 ·exact j1Q jcN
 ·exact j1Q jbJ
 ·exact j1Q jmG
 ·exact j1Q jnv
 ·exact j1Q jda
 ·exact j1Q jje
 ·exact j1Q jbw
open Go Go.Am Go.Hb
def memN (l:List Nat) (f:Nat):Bool:=match l with
 |[]=>false
 |g :: r=>match Nat.beq f g with
  |true=>true
  |false=>memN r f
def rawL:List Nat:=[4294967295,4294967295,173,306,292,275,277,249]
def jqI:List Nat:=[4294967295,4294967295,4294967295,123,4294967295,80,306,292,275,277,249]
def litL:List Nat:=[4294967295,74]
def fzL:List Nat:=[4294967295,113,153,197,82,103]
def fzcL:List Nat:=[196,164,4294967295,4294967295,4294967295,4294967295,232,4294967295,4294967295,
 294,295,307,310,184,194,150]
def natC:List (FuncId × NatF) :=
 (315,jiL) ::
 nat1
theorem joz:∀ p ∈ natC,j3S (jbP Tryz.prog p.1) p.2:=by
 intro p hp
 unfold natC at hp
 rcases List.mem_cons.1 hp with rfl|hp
 ·exact jok
 exact joB p hp
noncomputable def C1:Cfg:=⟨Tryz.prog,memN fzL,memN rawL,memN jqI,memN litL,fun f=>j8I f natC,fun f T=>memN fzcL f && !Nat.beq T 84,fun _=>false,false⟩
theorem jqi:jn0 C1:=jn4 (fun _=>rfl) joz
theorem jqD (n:Nat):EvOk C1 (ev C1 n):=jmX (by kernel_rfl) (by kernel_rfl) jqi n
open Go Go.Am Go.Gw
abbrev iv (n:Int):PV:=.sc (.int .i64 n)
abbrev bv (b:Bool):PV:=.sc (.bool b)
mutual
def LvP:Lv→PV→Prop
 | .mk k n ls,v=>∃ b z xs,v = .ag [iv k,iv n,.sl b z xs]∧(z=3∨xs=[])∧LvsP ls xs∧ls.length ≤ 3518437208780
def LvsP:List Lv→List PV→Prop
 |[],xs=>xs=[]
 |l :: r,xs=>∃ v xs',xs=v :: xs'∧LvP l v∧LvsP r xs'
end
theorem LvsP.len:∀ {ls:List Lv} {xs:List PV},LvsP ls xs→xs.length=ls.length
 |[],xs,h=>by simp only [LvsP] at h; simp [h]
 |l :: r,xs,h=>by
  simp only [LvsP] at h
  obtain ⟨v,xs',rfl,_,h⟩:=h
  simp [LvsP.len h]
theorem LvsP.at:∀ {ls:List Lv} {xs:List PV} {i:Nat} {l:Lv},LvsP ls xs→ls[i]? = some l→∃ v,xs[i]? = some v∧LvP l v
 |[],xs,i,l,_,h=>by simp at h
 |x :: r,xs,i,l,h,e=>by
  simp only [LvsP] at h
  obtain ⟨v,xs',rfl,h1,h2⟩:=h
  cases i with
  |zero=>simp at e; subst e; exact ⟨v,rfl,h1⟩
  |succ i=>simpa using LvsP.at h2 (by simpa using e)
theorem LvP.open {l:Lv} {v:PV} (h:LvP l v):∃ k n ls b z xs,l = .mk k n ls∧v = .ag [iv k,iv n,.sl b z xs]∧(z=3∨xs=[])∧LvsP ls xs∧xs.length=ls.length∧ls.length ≤ 3518437208780:=by
 obtain ⟨k,n,ls⟩:=l
 simp only [LvP] at h
 obtain ⟨b,z,xs,rfl,hz,hxs,hb⟩:=h
 exact ⟨k,n,ls,b,z,xs,rfl,rfl,hz,hxs,hxs.len,hb⟩
abbrev sv (l:List UInt8):PV:=.sc (str l)
abbrev svs (l:List (List UInt8)):List PV:=l.map sv
mutual
def TmP:Tm→PV→Prop
 | .mk k n s ls ts,v=>∃ b z xs c y ys,v = .ag [iv k,iv n,sv s,.sl b z xs,.sl c y ys]∧(z=3∨xs=[])∧LvsP ls xs∧ls.length ≤ 3518437208780∧(y=5∨ys=[])∧TmsP ts ys∧ts.length ≤ 1759218604441∧s.length ≤ 140737488355328∧i64 n
def TmsP:List Tm→List PV→Prop
 |[],xs=>xs=[]
 |l :: r,xs=>∃ v xs',xs=v :: xs'∧TmP l v∧TmsP r xs'
end
theorem TmsP.len:∀ {ls:List Tm} {xs:List PV},TmsP ls xs→xs.length=ls.length
 |[],xs,h=>by simp only [TmsP] at h; simp [h]
 |l :: r,xs,h=>by
  simp only [TmsP] at h
  obtain ⟨v,xs',rfl,_,h⟩:=h
  simp [TmsP.len h]
theorem TmsP.at:∀ {ls:List Tm} {xs:List PV} {i:Nat} {l:Tm},TmsP ls xs→ls[i]? = some l→∃ v,xs[i]? = some v∧TmP l v
 |[],xs,i,l,_,h=>by simp at h
 |x :: r,xs,i,l,h,e=>by
  simp only [TmsP] at h
  obtain ⟨v,xs',rfl,h1,h2⟩:=h
  cases i with
  |zero=>simp at e; subst e; exact ⟨v,rfl,h1⟩
  |succ i=>simpa using TmsP.at h2 (by simpa using e)
theorem TmP.open {t:Tm} {v:PV} (h:TmP t v):∃ k n s ls ts b z xs c y ys,t = .mk k n s ls ts∧v = .ag [iv k,iv n,sv s,.sl b z xs,.sl c y ys]∧(z=3∨xs=[])∧LvsP ls xs∧xs.length=ls.length∧ls.length ≤ 3518437208780∧(y=5∨ys=[])∧TmsP ts ys∧ys.length=ts.length∧ts.length ≤ 1759218604441∧s.length ≤ 140737488355328:=by
 obtain ⟨k,n,s,ls,ts⟩:=t
 simp only [TmP] at h
 obtain ⟨b,z,xs,c,y,ys,rfl,hz,hxs,hb,hy,hys,hc,hs,_⟩:=h
 exact ⟨k,n,s,ls,ts,b,z,xs,c,y,ys,rfl,rfl,hz,hxs,hxs.len,hb,hy,hys,hys.len,hc,hs⟩
theorem TmP.num {k n:Int} {s:List UInt8} {ls:List Lv} {ts:List Tm} {v:PV} (h:TmP (.mk k n s ls ts) v):i64 n:=by
 simp only [TmP] at h
 obtain ⟨b,z,xs,c,y,ys,rfl,hz,hxs,hb,hy,hys,hc,hs,hn⟩:=h
 exact hn
theorem sadd {P:Program} {T:TypeId} {x y:Operand} {a b:List UInt8} (h:a.length + b.length ≤ 9223372036854775807):j0l P .add T x y (sv a) (sv b)=some (sv (a ++ b)):=by
 have:¬ (((⟨a.toArray⟩:ByteArray).size + (⟨b.toArray⟩:ByteArray).size:Nat):Int) > IntKind.i64.max:=by
  rw [j2H,j2H]
  simp [IntKind.max,IntKind.signed,IntKind.bits]
  omega
 simp only [j0l,j5I,eqGuard,binOp,Op.stringOp,if_neg this,jkn]
 rfl
theorem seql {P:Program} {T:TypeId} {x y:Operand} {a b:List UInt8}:j0l P .eql T x y (sv a) (sv b)=some (bv (a == b)):=by
 simp only [j0l,j5I,eqGuard,binOp,Op.stringOp,j7b]
 rfl
theorem sneq {P:Program} {T:TypeId} {x y:Operand} {a b:List UInt8}:j0l P .neq T x y (sv a) (sv b)=some (bv (!(a == b))):=by
 simp only [j0l,j5I,eqGuard,binOp,Op.stringOp,j7b]
 rfl
def jqv (op:BinOp) (a b:List UInt8) (K:PV→Prop):Prop:=match op with
 | .add=>VOk (decide (a.length + b.length ≤ 9223372036854775807)) (K (sv (a ++ b)))
 | .eql=>K (bv (a == b))
 | .neq=>K (bv (!(a == b)))
 |_=>False
theorem j3v {P:Program} {op:BinOp} {T:TypeId} {x y:Operand} {a b:List UInt8} {K:PV→Prop} (h:jqv op a b K):VRes (j0l P op T x y (sv a) (sv b)) K:=by
 cases op with
 |add=>exact ⟨_,sadd (of_decide_eq_true h.h),h.k⟩
 |eql=>exact ⟨_,seql,h⟩
 |neq=>exact ⟨_,sneq,h⟩
 |_=>exact h.elim
def jcf (o:SO):Prop:=j6K o=[]∧∀ f,soIn f o=true
theorem j7v:∀ {n:Nat} {x:PV},pur n x=true→ids n x=[]∧∀ f,j0g f n x=true
 |0,x,h=>by simp [pur] at h
 |n + 1,x,h=>by
  have hall:∀ {l:List PV},l.all (pur n)=true→l.flatMap (ids n)=[]∧∀ f,l.all (j0g f n)=true:=fun {l} hl=>by
   rw [List.all_eq_true] at hl
   exact ⟨by rw [List.flatMap_eq_nil_iff]; exact fun y hy=>(j7v (hl y hy)).1,fun f=>List.all_eq_true.2 fun y hy=>(j7v (hl y hy)).2 f⟩
  cases x with
  |ag cs=>simp only [pur] at h; exact hall h
  |tu cs=>simp only [pur] at h; exact hall h
  |fn f a b =>
   simp only [pur,Bool.and_eq_true] at h
   refine ⟨by simp only [ids,(hall h.1).1,(hall h.2).1,List.append_nil],fun f=>by simp only [j0g,(hall h.1).2 f,(hall h.2).2 f,Bool.and_self]⟩
  |ifc t x =>
   simp only [pur] at h
   show ids n x=[]∧∀ f,j0g f n x=true
   exact j7v (n:=n) h
  |_=>first|(simp [pur] at h; done)|exact ⟨rfl,fun _=>rfl⟩
theorem jjL {T:TypeId} {cs:List PV} (h:cs.all (pur 8)=true):jcf (.box T cs):=by
 rw [List.all_eq_true] at h
 exact ⟨by simp only [j6K]; rw [List.flatMap_eq_nil_iff]; exact fun y hy=>(j7v (h y hy)).1,fun f=>List.all_eq_true.2 fun y hy=>(j7v (h y hy)).2 f⟩
def PlainL:Sto→Prop
 |[]=>True
 |o :: r=>jcf o∧PlainL r
theorem PlainL.mem:∀ {st:Sto},PlainL st→∀ o ∈ st,jcf o
 |[],_,o,h=>by cases h
 |a :: r,h,o,ho=>by
  rcases List.mem_cons.1 ho with rfl|ho
  ·exact h.1
  ·exact PlainL.mem h.2 o ho
theorem jkq (l:List (List UInt8)):(svs l).all (pur 6)=true:=by
 rw [List.all_eq_true]
 intro x hx
 obtain ⟨s,_,rfl⟩:=List.mem_map.1 hx
 rfl
theorem jnr {C:Cfg} {f:FuncId} {b:Bool} {T:TypeId} {z i n:Nat} {xs:List PV} {st:Sto} {Q:AEnd→Sto→Prop} (hk:C.keep f=false) (hst:st[i]? = some (.row b T z xs)) (hn:n=xs.length) (hp:xs.all (pur 6)=true) (k:Q (.ret [.sl false z xs]) []):VRet C f 0 [.ms i n] st Q:=by
 refine ⟨[.sl false z xs],[],?_,k⟩
 have:(Nat.beq n xs.length && xs.all (pur 6))=true:=by rw [hp,hn,Nat.beq_refl]; rfl
 simp only [aret,hk,pubL,mapS,pubV,pubRow,hst,this]
 rfl
theorem j1i {n m t t' a b by_ w r:Nat} {xs:List PV} (h:xs.length=n) (ht:Nat.beq t t'=true) (ha:Nat.beq a b=true) (hw:by_=w) (hr:room=r) (h1:m * w ≤ r) (h2:m ≤ r):(Nat.beq n xs.length && Nat.beq t t' && Nat.beq a b && fits m by_)=true:=by
 subst h hw hr
 rw [ht,ha,Nat.beq_refl,fits,Nat.ble_eq_true_of_le h1,Nat.ble_eq_true_of_le h2]
 rfl
theorem jbG {m a b by_ w r:Nat} {e:Bool} (ha:Nat.beq a b=true) (hw:by_=w) (hr:room=r) (h1:m * w ≤ r) (h2:m ≤ r):(true && (Nat.beq a b || e) && fits m by_)=true:=by
 subst hw hr
 rw [ha,fits,Nat.ble_eq_true_of_le h1,Nat.ble_eq_true_of_le h2]
 rfl
open Go Go.Am Go.Gw
theorem jnu (k:Int):Pf C1 182 [iv k] [iv (jd8 k)]:=by
 refine j00 Tryz.func182 rfl rfl rfl ?_
 repeat' ((conv=>whnf);first|refine gA ?_|apply gE<;>intro h|refine j04 rfl ?_)
 all_goals (try (conv=>whnf))
 all_goals simp_all [jd8]
theorem jmR (l:Lv) (v:PV) (h:LvP l v) (n:Int):Pf C1 137 [v,iv n] [bv (j8k l n)]:=by
 obtain ⟨k,nn,ls,b,z,xs,rfl,rfl,hz,hxs,hlen,hbd⟩:=h.open
 refine j00 Tryz.func137 rfl rfl rfl ?_
 repeat' ((conv=>whnf);first|apply gN|refine gA ?_|refine gB ?_|apply gE<;>intro h|apply gO|apply gP|refine j04 rfl ?_|refine j05 (jnu _) (fun _=>?_)|apply gK)
 all_goals (try (conv=>whnf))
 all_goals simp_all [jd8,j8k]
 all_goals omega
theorem jp8 (l:Lv):∀ v,LvP l v→∀ n,Pf C1 85 [v,iv n] [bv (allF l n)]:=by
 induction l using Lv.ind with
 |_ k nn ls ih =>
 intro v h n
 have hnode:=jmR _ _ h n
 obtain ⟨_,_,_,b,z,xs,⟨rfl,rfl,rfl⟩,rfl,hz,hxs,hlen,hbd⟩:=h.open
 refine j00 Tryz.func85 rfl rfl rfl ?_
 repeat' ((conv=>whnf);first|apply gN|apply gM<;>intro h|refine j04 rfl ?_|refine j01 hnode rfl rfl ?_)
 all_goals (try (conv=>whnf))
 ·refine j09 (G:=Nat) (fun i=>[(14,iv i)]) (fun _=>_) (fun i=>i ≤ ls.length∧j3A (ls.drop i) n=j3A ls n) (fun i=>ls.length - i) 0 ⟨by omega,rfl⟩ rfl rfl ?_
  rintro i ⟨hi,hall⟩
  repeat' ((conv=>whnf);first|apply gE<;>intro h|apply gQ|refine j04 rfl ?_)
  all_goals (try (conv=>whnf))
  ·have hi':i < ls.length:=by omega
   obtain ⟨lc,hlc⟩:∃ lc,ls[i]? = some lc:=⟨_,List.getElem?_eq_getElem hi'⟩
   obtain ⟨v,hv,hl⟩:=hxs.at hlc
   have hrec:=ih _ (List.mem_of_getElem? hlc) _ hl n
   obtain ⟨k1,n1,l1,b1,z1,x1,rfl,rfl,hz1,hxs1,hlen1,hbd1⟩:=hl.open
   refine VIdx.mk _ hv (VOk.mk (j07 rfl hz) ?_)
   repeat' ((conv=>whnf);first|apply gN|apply gM<;>intro h|apply gO|refine gV ?_|refine j04 rfl ?_|refine j01 hrec rfl rfl ?_)
   all_goals (try (conv=>whnf))
   ·refine VAgain.mk _ rfl _ (j0h rfl rfl rfl) ⟨i + 1,⟨hi',?_⟩,by omega,rfl⟩
    rw [← hall,drop_at hlc]
    simp [j3A,h]
   ·rw [drop_at hlc] at hall
    simp only [j3A] at hall
    have:j3A ls n=false:=by rw [← hall]; simp [h]
    simp [allF,this]
  ·have:i=ls.length:=by omega
   subst this
   rw [List.drop_length] at hall
   simp_all [allF,j3A]
 ·simp_all [allF]
theorem jl2 (l:Lv):∀ v,LvP l v→∀ (left:Int),0 ≤ left→left ≤ 1000000→Finds C1 53 [v,.bp 0 0] [.box 3 [iv left]] fun r st=>r = .ret []∧st=[.box 3 [iv (j1r l left)]]:=by
 induction l using Lv.ind with
 |_ k nn ls ih =>
 intro v h left h0 h1
 obtain ⟨_,_,_,b,z,xs,⟨rfl,rfl,rfl⟩,rfl,hz,hxs,hlen,hbd⟩:=h.open
 refine j00 Tryz.func53 rfl rfl rfl ?_
 repeat' ((conv=>whnf);first|apply gO|refine VArith.fits (by unfold i64; omega) ?_)
 all_goals (try (conv=>whnf))
 refine j09 (G:=Nat × Int) (fun g=>[(14,iv g.1)]) (fun g=>[.box 3 [iv g.2],_]) (fun g=>g.1 ≤ ls.length∧-1 ≤ g.2∧g.2 ≤ 1000000∧j0u (ls.drop g.1) g.2=j0u ls (left - 1)) (fun g=>ls.length - g.1) (0,left - 1) ⟨by omega,by dsimp only; omega,by dsimp only; omega,rfl⟩ rfl rfl ?_
 rintro ⟨i,lf⟩ ⟨hi,hlf0,hlf1,hall⟩
 dsimp only at hi hlf0 hlf1 hall ⊢
 repeat' ((conv=>whnf);first|apply gE<;>intro h|apply gQ|refine j03 rfl rfl ?_)
 all_goals (try (conv=>whnf))
 ·have hi':i < ls.length:=by omega
  obtain ⟨lc,hlc⟩:∃ lc,ls[i]? = some lc:=⟨_,List.getElem?_eq_getElem hi'⟩
  obtain ⟨v,hv,hl⟩:=hxs.at hlc
  obtain ⟨k1,n1,l1,b1,z1,x1,rfl,rfl,hz1,hxs1,hlen1,hbd1⟩:=hl.open
  refine VIdx.mk _ hv (VOk.mk (j07 rfl hz) ?_)
  repeat' ((conv=>whnf);first|apply gE<;>intro h|apply gO|refine j03 rfl rfl ?_)
  all_goals (try (conv=>whnf))
  ·have:j1r (.mk k nn ls) left=lf:=by rw [j1r,← hall,j2V _ _ (by omega)]
   exact ⟨rfl,by rw [this]; rfl⟩
  ·refine j0A rfl rfl rfl rfl rfl rfl (Finds.mono (ih _ (List.mem_of_getElem? hlc) _ hl lf (by omega) (by omega)) ?_)
   rintro _ _ ⟨rfl,rfl⟩
   refine j1K rfl ?_
   repeat' ((conv=>whnf);first|refine VArith.fits (by unfold i64; omega) ?_)
   all_goals (try (conv=>whnf))
   have hcg:=j4H (.mk k1 n1 l1) lf (by omega)
   refine VAgain.mk _ rfl _ (j0h rfl rfl rfl) ⟨(i + 1,j1r (.mk k1 n1 l1) lf),⟨hi',by dsimp only; omega,by dsimp only; omega,?_⟩,by dsimp only; omega,rfl⟩
   rw [← hall,drop_at hlc,j0u,if_neg (by omega)]
 ·have:j1r (.mk k nn ls) left=lf:=by
   obtain rfl:i=ls.length:=by omega
   rw [List.drop_length,j0u] at hall
   rw [j1r,← hall]
  exact ⟨rfl,by rw [this]; rfl⟩
theorem je4 (l:Lv) (v:PV) (h:LvP l v):Pf C1 20 [v] [iv (j5g l)]:=by
 have h0:=h
 obtain ⟨k,nn,ls,b,z,xs,rfl,rfl,hz,hxs,hlen,hbd⟩:=h.open
 have hcg:=j4H (.mk k nn ls) 64 (by omega)
 refine j00 Tryz.func20 rfl rfl rfl ?_
 repeat' ((conv=>whnf);first|refine VOk.mk rfl ?_)
 all_goals (try (conv=>whnf))
 refine j0A rfl rfl rfl rfl rfl rfl (Finds.mono (jl2 _ _ h0 64 (by omega) (by omega)) ?_)
 rintro _ _ ⟨rfl,rfl⟩
 refine j1K rfl ?_
 repeat' ((conv=>whnf);first|refine gV ?_|refine j04 rfl ?_)
 all_goals (try (conv=>whnf))
 all_goals simp only [j5g,jgs]
 all_goals simp_all
 all_goals omega
theorem j2c (l:Lv) (v:PV) (h:LvP l v) (n:Int):Pf C1 51 [v,iv n] [bv (j0w l n)]:=by
 have hn:=je4 l v h
 have ha:=jp8 l v h n
 obtain ⟨k,nn,ls,b,z,xs,rfl,rfl,hz,hxs,hlen,hbd⟩:=h.open
 refine j00 Tryz.func51 rfl rfl rfl ?_
 repeat' ((conv=>whnf);first|apply gF|refine gA ?_|refine gB ?_|apply gE<;>intro h|refine j04 rfl ?_|refine j01 hn rfl rfl ?_|refine j01 ha rfl rfl ?_)
 all_goals (try (conv=>whnf))
 all_goals simp_all [j0w,retV]
 all_goals omega
theorem jdZ (a b:Int):(if b < a then b else a)=min a b:=by
 by_cases h:b < a
 ·rw [if_pos h]; omega
 ·rw [if_neg h]; omega
theorem j8Q (l:Lv):1 ≤ j0C l:=by cases l; simp [j0C]
end Go.Proofs.YtljnahbgfmflaaaGreatDoor
