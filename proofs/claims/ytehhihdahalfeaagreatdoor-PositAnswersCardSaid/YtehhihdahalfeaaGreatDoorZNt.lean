/-
  The library's functions at their word, for the plain machine: what the shelf says of them. No statement of the seat.
-/
import Derived.Test.YtehhihdahalfeaaGreatDoorZVm
import Derived.Test.YtehhihdahalfeaaGreatDoorZShelf
import Derived.WalkKit
import Derived.Lib.AppendIntMem
set_option linter.unusedVariables false
set_option linter.unusedSimpArgs false
set_option linter.unnecessarySimpa false
namespace Go.Am
open Go Go.Hb Go.RowKit
theorem Good.under {E:Entry} {w w':World} {m:Mem} {μ:Own} (h:Hb.Good E w m μ) (hb:Below w.heap.size w w'):Hb.Good E w' m μ :=
  ⟨hb.os.trans h.os,hb.tape.trans h.tape,hb.output.trans h.output,Nat.le_trans h.size hb.size,fun b hlt hF=>(hb.block b (Nat.lt_of_lt_of_le hlt h.size)).trans (h.keep b hlt hF),
    fun b o v e=>(let ⟨c,T,fr,h1,h2⟩:=h.sub b o v e; ⟨c,T,fr,(hb.block b (mem_lt h1)).trans h1,h2⟩),h.mem,h.fresh,fun r hr=>Res.holds_of (h.holds r hr) (fun b hf=>hb.block b (Res.holds_lt (h.holds r hr) hf)),h.feet,h.apart,
    fun b cs hc=>(let ⟨⟨T,fr,h1⟩,h2⟩:=h.glob b cs hc; ⟨⟨T,fr,(hb.block b (mem_lt h1)).trans h1⟩,h2⟩)⟩
theorem Good.below {w w':World} {m m':Mem} {μ':Own} {F:Nat→Prop} (h:Hb.Good ⟨w,m,F⟩ w' m' μ') (hF:∀ b,¬ F b):Below w.heap.size w w' :=
  ⟨h.os,h.tape,h.output,h.size,fun b hb=>h.keep b hb (hF b)⟩
/-- one function at its word -/
def NatAt (P:Program) (f:FuncId) (F:List PV→Option (List PV)):Prop:=∀ args rs,F args=some rs→∀ w m vs,Hb.Good ⟨w,m,fun _=>False⟩ w m []→Rl m noPh args vs →
  Calls P f vs.toArray w fun en w'=>∃ m' us,Hb.Good ⟨w,m,fun _=>False⟩ w' m' []∧en = .returned (Gw.tup us)∧Rl m' noPh rs us
theorem natAt_does {P:Program} {f:FuncId} {F:List PV→Option (List PV)} (h:NatAt P f F):DoesOk (CallD P f) (natP F):=fun args st r st' hx w m φ μ vs hs hr=>by
  unfold natP at hx
  split at hx
  · split at hx
    · rename_i rs hf
      cases hx
      have hμ:μ=[]:=hs.sto
      subst hμ
      have hfeet:feetOf ([]:Own)=fun _=>False:=by funext b; simp [feetOf]
      have hφ:φ=noPh:=by funext id; exact hs.dom id (Nat.zero_le _)
      subst hφ
      rw [hfeet] at hs
      refine (h args rs hf w m vs hs.good hr).mono fun en w' ⟨m',us,h1,h2,h3⟩=>?_
      rw [hfeet]
      exact ⟨m',noPh,[],Ext.refl _ _,⟨h1,rfl,fun _ _=>rfl⟩,us,h2,h3⟩
    · cases hx
  · cases hx
theorem natAt_below {P:Program} {f:FuncId} {F:List PV→Option (List PV)} (h:∀ args rs,F args=some rs→∀ w m vs,Hb.Good ⟨w,m,fun _=>False⟩ w m []→Rl m noPh args vs →
    ∃ us,Rl m noPh rs us∧Calls P f vs.toArray w fun en w'=>en = .returned (Gw.tup us)∧Below w.heap.size w w'):NatAt P f F:=fun args rs hF w m vs hg hr=>by
  obtain ⟨us,h1,h2⟩:=h args rs hF w m vs hg hr
  exact h2.mono fun en w' ⟨h3,h4⟩=>⟨m,us,Good.under hg h4,h3,h1⟩
theorem Rl.one {m:Mem} {x:PV} {vs:List Value} (h:Rl m noPh [x] vs):∃ v,vs=[v]∧R m noPh x v:=by
  obtain ⟨v,vs',rfl,h1,h2⟩:=h.uncons
  have:vs'=[]:=List.eq_nil_of_length_eq_zero h2.1.symm
  exact ⟨v,by rw [this],h1⟩
theorem Rl.two {m:Mem} {x y:PV} {vs:List Value} (h:Rl m noPh [x,y] vs):∃ u v,vs=[u,v]∧R m noPh x u∧R m noPh y v:=by
  obtain ⟨u,vs',rfl,h1,h2⟩:=h.uncons
  obtain ⟨v,rfl,h3⟩:=h2.one
  exact ⟨u,v,rfl,h1,h3⟩
theorem Rl.sc1 {m:Mem} {v:Value} (h:isSc v=true):Rl m noPh [.sc v] [v]:=.cons (.sc h) .nil
theorem Rl.sc2 {m:Mem} {u v:Value} (h:isSc u=true) (h':isSc v=true):Rl m noPh [.sc u,.sc v] [u,v]:=.cons (.sc h) (Rl.sc1 h')
/-! the functions -/
def strOf:PV→Option ByteArray
  | .sc (.string s)=>some s
  |_=>none
def bl (s:ByteArray):List UInt8:=s.data.toList
def ls (l:List UInt8):Value:=.string ⟨l.toArray⟩
def cutPrefixF:List PV→Option (List PV)
  |[.sc (.string s),.sc (.string p)]=>some [.sc (ls (Lib.trimPrefix (bl s) (bl p))),.sc (.bool (Lib.hasPrefix (bl s) (bl p)))]
  |_=>none
def hasPrefixF:List PV→Option (List PV)
  |[.sc (.string s),.sc (.string p)]=>some [.sc (.bool (Lib.hasPrefix (bl s) (bl p)))]
  |_=>none
/-- digits, by a count that goes down -/
def digK:Nat→Nat→List UInt8
  |0,_=>[]
  |k + 1,n=>match Nat.blt n 10 with
    |true=>[UInt8.ofNat (48 + n)]
    |false=>digK k (n / 10) ++ [UInt8.ofNat (48 + n % 10)]
theorem digK_eq:∀ {k n:Nat},n < 10 ^ (k + 1)→digK (k + 1) n=Lib.decDigits n
  |k,n,h=>by
    rw [digK,Lib.decDigits]
    by_cases hn:n < 10
    · rw [dif_pos hn]
      have:Nat.blt n 10=true:=by rw [Nat.blt_eq]; exact hn
      rw [this]
    · rw [dif_neg hn]
      have:Nat.blt n 10=false:=by rw [Bool.eq_false_iff]; intro e; rw [Nat.blt_eq] at e; exact hn e
      rw [this]
      simp only
      cases k with
      |zero=>simp at h; omega
      |succ k=>rw [digK_eq (by rw [Nat.pow_succ] at h; omega)]
def itoaK (n:Int):List UInt8:=match n with
  | .ofNat q=>digK 20 q
  | .negSucc q=>45 :: digK 20 (q + 1)
theorem itoaK_eq {n:Int} (h:n.natAbs ≤ 9223372036854775807):itoaK n=Lib.itoa n:=by
  cases n with
  |ofNat q =>
    simp only [itoaK,Lib.itoa]
    rw [if_neg (by simp),digK_eq (by simp at h; omega)]
    rfl
  |negSucc q =>
    simp only [itoaK,Lib.itoa]
    rw [if_pos (Int.negSucc_lt_zero q),digK_eq (by simp at h; omega)]
    rfl
def itoaF:List PV→Option (List PV)
  |[.sc (.int .i64 n)]=>match Nat.ble n.natAbs 9223372036854775807 with
    |true=>some [.sc (ls (itoaK n))]
    |false=>none
  |_=>none
def atoiF:List PV→Option (List PV)
  |[.sc (.string s)]=>match Nat.ble (bl s).length 18,Lib.atoi (bl s) with
    |true,some n=>some [.sc (.int .i64 n),.sc .nilIface]
    |_,_=>none
  |_=>none
def ascii (l:List UInt8):Bool:=l.all fun b=>Nat.blt b.toNat 128
def indexAnyF:List PV→Option (List PV)
  |[.sc (.string s),.sc (.string c)]=>match Nat.ble (bl s).length 1000000 && Nat.ble (bl c).length 1000000 && (ascii (bl s) && ascii (bl c)) with
    |true=>some [.sc (.int .i64 (Lib.indexAny (bl s) (bl c)))]
    |false=>none
  |_=>none
def indexF:List PV→Option (List PV)
  |[.sc (.string s),.sc (.string c)]=>match bl c with
    |[b]=>some [.sc (.int .i64 (Lib.indexByte (bl s) b))]
    |_=>none
  |_=>none
def joinF:List PV→Option (List PV)
  |[.sl _ _ xs,.sc (.string sep)]=>match mapO strOf xs with
    |some ss=>match Nat.ble ss.length 1000000000 && Nat.ble (Lib.join (ss.map bl) (bl sep)).length 1000000000 with
      |true=>some [.sc (ls (Lib.join (ss.map bl) (bl sep)))]
      |false=>none
    |none=>none
  |_=>none
/-- a rune that may stand in a part of a name -/
def plainR (c:Nat):Bool:=decide (97 ≤ c∧c ≤ 122∨48 ≤ c∧c ≤ 57∨c=95)
def indexFuncF (g:FuncId):List PV→Option (List PV)
  |[.sc (.string s),.fn f [] []]=>match Nat.beq f g with
    |true=>some [.sc (.int .i64 (Lib.idxFunc (fun c=>!plainR c) true s))]
    |false=>none
  |_=>none
theorem bl_eq (s:ByteArray):(⟨(bl s).toArray⟩:ByteArray)=s:=by unfold bl; simp
theorem mapO_str:∀ {xs:List PV} {ss:List ByteArray},mapO strOf xs=some ss→xs=ss.map fun s=>.sc (.string s)
  |[],ss,h=>by simp only [mapO,Option.some.injEq] at h; subst h; rfl
  |x :: xs,ss,h=>by
    obtain ⟨y,l,rfl,h1,h2⟩:=mapO_cons h
    rw [mapO_str h2]
    unfold strOf at h1
    split at h1
    · cases h1; rfl
    · cases h1
end Go.Am
namespace Go.Proofs.YtehhihdahalfeaaGreatDoor
open Go Go.Am Go.Hb Go.RowKit
theorem nat_cutPrefix:NatAt Tryz.prog 156 cutPrefixF:=natAt_below fun args rs hF w m vs hg hr=>by
  unfold cutPrefixF at hF
  split at hF
  · cases hF
    obtain ⟨u,v,rfl,h1,h2⟩:=hr.two
    obtain rfl:=h1.sc_eq
    obtain rfl:=h2.sc_eq
    exact ⟨_,Rl.sc2 rfl rfl,(Tryz.strings_CutPrefix _ _ w).mono fun e w' ⟨h3,h4⟩=>⟨h3,by rw [h4]; exact Below.refl _ _⟩⟩
  · cases hF
theorem nat_hasPrefix:NatAt Tryz.prog 126 hasPrefixF:=natAt_below fun args rs hF w m vs hg hr=>by
  unfold hasPrefixF at hF
  split at hF
  · cases hF
    obtain ⟨u,v,rfl,h1,h2⟩:=hr.two
    obtain rfl:=h1.sc_eq
    obtain rfl:=h2.sc_eq
    exact ⟨_,Rl.sc1 rfl,(Tryz.strings_HasPrefix _ _ w).mono fun e w' ⟨h3,h4⟩=>⟨h3,by rw [h4]; exact Below.refl _ _⟩⟩
  · cases hF
theorem tab_of {E:Entry} {w:World} {m:Mem} {μ:Own} (hg:Hb.Good E w m μ):Lib.TabIs Tryz.prog w "internal/strconv.uint64pow10" .u64 Lib.pow10Tab:=by
  obtain ⟨⟨T,fr,h1⟩,_⟩:=hg.glob 0 _ rfl
  have hn:Tryz.prog.globalNamed "internal/strconv.uint64pow10" = some 0:=by kernel_rfl
  unfold Lib.TabIs World.var?
  rw [hn]
  simp only [Option.bind_some,h1]
theorem nat_itoa:NatAt Tryz.prog 43 itoaF:=natAt_below fun args rs hF w m vs hg hr=>by
  unfold itoaF at hF
  split at hF
  · rename_i n
    split at hF
    · rename_i hb
      cases hF
      obtain ⟨u,rfl,h1⟩:=hr.one
      obtain rfl:=h1.sc_eq
      have:=Nat.le_of_ble_eq_true hb
      rw [itoaK_eq this]
      exact ⟨_,Rl.sc1 rfl,(Tryz.strconv_Itoa n (by omega) (by omega) w (tab_of hg)).mono fun e w' ⟨h3,k,os,hk⟩=>⟨h3,by subst hk; exact Lib.below_grow _ _ (Nat.le_refl _) _ _⟩⟩
    · cases hF
  · cases hF
theorem below_bytes (w:World) (e:TypeId) (s:ByteArray):Below w.heap.size w (Lib.bytesWorld w e s):=by
  exact ⟨rfl,rfl,rfl,by rw [Lib.bytesWorld_size]; omega,fun k hk=>Lib.bytesWorld_at_old w e s k hk⟩
theorem nat_atoi:NatAt Tryz.prog 194 atoiF:=natAt_below fun args rs hF w m vs hg hr=>by
  unfold atoiF at hF
  split at hF
  · rename_i s
    split at hF
    · rename_i n hb hn
      cases hF
      obtain ⟨u,rfl,h1⟩:=hr.one
      obtain rfl:=h1.sc_eq
      have:=Nat.le_of_ble_eq_true hb
      exact ⟨_,Rl.sc2 rfl rfl,(Tryz.strconv_Atoi s n this hn w).mono fun e w' ⟨h3,t,hk⟩=>⟨h3,by subst hk; exact below_bytes _ _ _⟩⟩
    · cases hF
  · cases hF
theorem ascii_at {l:List UInt8} (h:ascii l=true) (j:Nat) (b:UInt8) (hb:l[j]? = some b):b.toNat < 128:=by
  have:=List.all_eq_true.1 h b (List.mem_of_getElem? hb)
  rwa [Nat.blt_eq] at this
theorem nat_indexAny:NatAt Tryz.prog 192 indexAnyF:=natAt_below fun args rs hF w m vs hg hr=>by
  unfold indexAnyF at hF
  split at hF
  · rename_i s c
    split at hF
    · rename_i hb
      cases hF
      simp only [Bool.and_eq_true] at hb
      obtain ⟨⟨h5,h6⟩,h7,h8⟩:=hb
      have h5:=Nat.le_of_ble_eq_true h5
      have h6:=Nat.le_of_ble_eq_true h6
      have e1:s.size=(bl s).length:=by rw [bl]; exact Lib.size_eq s
      have e2:c.size=(bl c).length:=by rw [bl]; exact Lib.size_eq c
      obtain ⟨u,v,rfl,h1,h2⟩:=hr.two
      obtain rfl:=h1.sc_eq
      obtain rfl:=h2.sc_eq
      exact ⟨_,Rl.sc1 rfl,Tryz.strings_IndexAny_laid s c w (by omega) (by omega) (ascii_at h7) (ascii_at h8)⟩
    · cases hF
  · cases hF
theorem nat_index:NatAt Tryz.prog 225 indexF:=natAt_below fun args rs hF w m vs hg hr=>by
  unfold indexF at hF
  split at hF
  · rename_i s c
    split at hF
    · rename_i b hb
      cases hF
      have hc:c=⟨#[b]⟩:=by rw [← bl_eq c,hb]
      subst hc
      obtain ⟨u,v,rfl,h1,h2⟩:=hr.two
      obtain rfl:=h1.sc_eq
      obtain rfl:=h2.sc_eq
      exact ⟨_,Rl.sc1 rfl,(Tryz.strings_Index_one s b w).mono fun e w' ⟨h3,h4⟩=>⟨h3,by rw [h4]; exact Below.refl _ _⟩⟩
    · cases hF
  · cases hF
theorem nat_join:NatAt Tryz.prog 164 joinF:=natAt_below fun args rs hF w m vs hg hr=>by
  unfold joinF at hF
  split at hF
  · rename_i b z xs sep
    split at hF
    · rename_i ss hss
      split at hF
      · rename_i hb
        cases hF
        simp only [Bool.and_eq_true] at hb
        obtain ⟨h5,h6⟩:=hb
        have h5:=Nat.le_of_ble_eq_true h5
        have h6:=Nat.le_of_ble_eq_true h6
        have hxs:=mapO_str hss
        obtain ⟨u,v,rfl,h1,h2⟩:=hr.two
        obtain rfl:=h2.sc_eq
        have hlen:xs.length=ss.length:=by rw [hxs]; simp
        cases h1 with
        | @sl _ _ _ _ a cap bk off g ha hcap hmax hfull hel hrr hnil =>
          refine ⟨[_],Rl.sc1 rfl,?_⟩
          cases hss0:ss with
          |nil =>
            subst hss0
            have hx0:xs=[]:=by simpa using hxs
            subst hx0
            exact (Tryz.strings_Join_none a cap sep w).mono fun e w' ⟨h3,h4⟩=>⟨h3,by rw [h4]; exact Below.refl _ _⟩
          |cons s0 sr =>
            rw [← hss0]
            have hne:xs ≠ []:=by rw [hxs,hss0]; simp
            have hcell:∀ (j:Nat) x,ss[j]? = some x→w.cell? ⟨bk,off + j,none⟩=some (.string x):=fun j x hj=>by
              have hx:xs[j]? = some (.sc (.string x)):=by rw [hxs,List.getElem?_map,hj]; rfl
              obtain ⟨q1,q2,q3,q4⟩:=hel j _ hx
              simp only [PV.cells,List.length_singleton] at q1
              subst q1
              have hg0:∃ v,g j=[v]:=List.length_eq_one_iff.1 q2
              obtain ⟨v,hv⟩:=hg0
              have:=hrr j _ 0 (.sc (.string x)) v hx rfl (by rw [hv]; rfl)
              obtain rfl:=this.sc_eq
              have hm:=q3 0 (.string x) (by rw [hv]; rfl)
              have:=hg.cell hm
              simpa using this
            rw [ha hne,hlen]
            have hbk:bk < w.heap.size:=by
              have h0:=hcell 0 s0 (by rw [hss0]; rfl)
              simp only [World.cell?] at h0
              cases e:w.heap[bk]? with
              |none=>simp [e] at h0
              |some o=>exact mem_lt e
            exact Tryz.strings_Join bk off cap ss sep w hcell hbk (by omega) (by rw [← hlen]; exact hcap) (by exact Nat.le_trans h6 (by omega))
      · cases hF
    · cases hF
  · cases hF
theorem calls_plain (x:Nat) (W:World):Calls Tryz.prog 204 #[.int .i32 (x:Int)] W fun e w'=>e = .returned (.bool (plainR x))∧w'=W:=by
  go_enter Tryz.func204,Tryz.ntmps204
  go_wp2
  all_goals (go_ret; refine ⟨congrArg (fun b=>Ending.returned (.bool b)) ?_,rfl⟩; rw [Bool.eq_iff_iff]; simp [plainR]; try omega)
theorem gives_plain (x:Nat) (hx:x ≤ 1114111) (W:World):FnGives Tryz.prog 203 #[] #[encR x] (.bool (!plainR x)) W:=by
  show Calls Tryz.prog 203 #[.int .i32 (x:Int)] W _
  go_enter Tryz.func203,Tryz.ntmps203
  go_wp2_with (go_at_call 204; refine (calls_plain _ _).mono ?_; rintro e w' ⟨rfl,rfl⟩)
  all_goals (go_ret; exact ⟨by simp,0,rfl⟩)
theorem nat_indexFunc:NatAt Tryz.prog 205 (indexFuncF 203):=natAt_below fun args rs hF w m vs hg hr=>by
  unfold indexFuncF at hF
  split at hF
  · rename_i s f
    split at hF
    · rename_i hb
      cases hF
      obtain rfl:=Nat.eq_of_beq_eq_true hb
      obtain ⟨u,v,rfl,h1,h2⟩:=hr.two
      obtain rfl:=h1.sc_eq
      cases h2 with
      | @fn _ _ _ _ us ws hl hl' _ _ =>
        have e1:us=[]:=List.eq_nil_of_length_eq_zero hl.symm
        have e2:ws=[]:=List.eq_nil_of_length_eq_zero hl'.symm
        subst e1
        subst e2
        exact ⟨_,Rl.sc1 rfl,Tryz.strings_IndexFunc_runes 203 #[] (fun args w=>by kernel_rfl) (fun c=>!plainR c) s w (fun W x hx _=>gives_plain x hx W)⟩
    · cases hF
  · cases hF
abbrev NatF:=List PV→Sto→Option (AEnd × Sto)
def natFind (f:FuncId):List (FuncId × NatF)→Option NatF
  |[]=>none
  |(g,F) :: r=>match Nat.beq f g with
    |true=>some F
    |false=>natFind f r
theorem natFind_mem {f:FuncId} {F:NatF}:∀ {l:List (FuncId × NatF)},natFind f l=some F→(f,F) ∈ l
  |[],h=>by cases h
  |(g,G) :: r,h=>by
    simp only [natFind] at h
    split at h
    · rename_i hb
      obtain rfl:=Nat.eq_of_beq_eq_true hb
      cases h
      exact List.mem_cons_self
    · exact List.mem_cons_of_mem _ (natFind_mem h)
theorem natOk_of {C:Cfg} {l:List (FuncId × NatF)} (hl:∀ f,C.nat f=natFind f l) (h:∀ p ∈ l,DoesOk (CallD C.P p.1) p.2):NatOk C:=fun f F hF=>h (f,F) (natFind_mem (by rw [← hl]; exact hF))
def nat1:List (FuncId × NatF):=[
  (164,natP joinF),
  (156,natP cutPrefixF),
  (126,natP hasPrefixF),
  (43,natP itoaF),
  (194,natP atoiF),
  (192,natP indexAnyF),
  (225,natP indexF),
  (205,natP (indexFuncF 203))]
theorem nat1_ok:∀ p ∈ nat1,DoesOk (CallD Tryz.prog p.1) p.2:=by
  intro p hp
  simp only [nat1,List.mem_cons,List.not_mem_nil,or_false] at hp
  rcases hp with rfl|rfl|rfl|rfl|rfl|rfl|rfl|rfl
  · exact natAt_does nat_join
  · exact natAt_does nat_cutPrefix
  · exact natAt_does nat_hasPrefix
  · exact natAt_does nat_itoa
  · exact natAt_does nat_atoi
  · exact natAt_does nat_indexAny
  · exact natAt_does nat_index
  · exact natAt_does nat_indexFunc
end Go.Proofs.YtehhihdahalfeaaGreatDoor
