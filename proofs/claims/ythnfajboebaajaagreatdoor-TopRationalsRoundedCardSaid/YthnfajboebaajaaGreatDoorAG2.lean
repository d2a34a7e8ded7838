import Derived.Test.YthnfajboebaajaaGreatDoorAG1
import Derived.Shelf.SlIter.Collect
import Derived.Shelf.SlIterI.Collect
import Derived.Shelf.Strings.BuilderK
import Derived.Test.YthnfajboebaajaaGreatDoorProg
import Derived.Test.YthnfajboebaajaaGreatDoorAD
import Derived.Lib.OthersKept
import Derived.LoopN
set_option maxHeartbeats 8000000
set_option maxRecDepth 100000
set_option linter.unusedVariables false
namespace Go.Proofs.YthnfajboebaajaaGreatDoor
set_option linter.unusedVariables false
open Go.RowKit Go.Shelf Go.Proofs.WWords
attribute [local go_sem] Oper.semAt_some
theorem chk_stops (n : Nat) (hn : 1 ≤ n) (Bs n₀ : Nat) (a0 : ByteArray) (m : Nat) (hm1 : a0.size ≤ 9 * m) (hm2 : 9 * m < a0.size + 9) (hdig : AllD a0.data.toList) (hm : a0.size ≤ 4611686018427387904) (w : World) (hn₀ : n₀ ≤ w.heap.size) (hBs : Boxed w Bs 9 (.string a0)) :
    SeqStopsK Fence.wide n Tryz.prog 193 #[.pointer (some ⟨Bs, 0, none⟩)] (fun x : Int => #[.int .i64 x]) (KB n₀ Bs) (fun ys => ys = gk (dl a0) m) (fun pre => ∃ k, k < m ∧ pre = gk (dl a0) (k + 1)) m w := fun l J Jx W hW hJ _ hY h0 =>
  chk1_in n hn l Bs n₀ a0 m hm1 hm2 hdig hm J Jx W (Nat.le_trans hn₀ hW.size) hJ hY ((hW.block Bs hBs.lt).trans hBs) h0
def ApI (w : World) (pre : List Int) (W : World) : Prop :=
  ∃ v, W.heap[w.heap.size]? = some (.cells #[v] 86 (0, 0)) ∧ W.ownsRow w.heap.size 3 1 v pre.length (pre.map encZ)
theorem ApI.own (w : World) : Own (ApI w) := fun s A B row hs hg hr => by
  obtain ⟨v, h1, h2⟩ := hs
  refine ⟨v, ?_, ?_⟩
  · refine (hg.block _ (Array.getElem?_eq_some_iff.1 h1).1 (fun e => ?_)).trans h1
    obtain ⟨o, ho, hc⟩ := hr _ e.symm
    rw [h1] at ho
    cases ho
    cases hc
  · cases row with
    | none =>
      refine h2.kept hg ?_
      cases hv : v.ownBlock with
      | none => exact .inl rfl
      | some k => exact .inr (by simp)
    | some r =>
      obtain ⟨o, ho, hc⟩ := hr r rfl
      exact h2.kept hg (ownsRow_ne_a h2 ho (fun cur e => by rw [e] at hc; cases hc))
theorem append_in (n : Nat) (hn : 3 ≤ n) (Bs : Nat) (a0 : ByteArray) (m : Nat) (hm1 : a0.size ≤ 9 * m) (hm2 : 9 * m < a0.size + 9) (hdig : AllD a0.data.toList) (hm : a0.size ≤ 4294967296) (w : World) (hBs : Boxed w Bs 9 (.string a0)) :
    CallsIn Fence.wide n Tryz.prog 192 #[.slice none 0 0, .func (.func 193) #[] #[.pointer (some ⟨Bs, 0, none⟩)]] w fun e w' => ∃ v, e = .returned v ∧ w'.ownsRow w.heap.size 3 1 v m ((gk (dl a0) m).map encZ) ∧ Below w.heap.size w w' := by
 have hBl := hBs.lt
 have h1' : 1 ≤ n := by omega
 refine callsIn_of_wp_marks Tryz.func192 rfl trivial ?_ rfl
 simp only [Tryz.ntmps192, List.size_toArray, List.length_cons, List.length_nil, Nat.reduceAdd, Nat.reduceSub, Array.replicate_succ, Array.replicate_zero, List.push_toArray, List.append_toArray, List.nil_append, List.cons_append]
 gi_wp2
 obtain ⟨W0, hW0⟩ : ∃ W0, w.alloc (.cells #[.slice none 0 0] 86) = W0 := ⟨_, rfl⟩
 have hB0 : Below w.heap.size w W0 := by rw [← hW0]; exact (Below.refl _ w).alloc (Nat.le_refl _) _
 have hs0 : W0.heap.size = w.heap.size + 1 := by rw [← hW0]; simp
 have hb0 : W0.heap[w.heap.size]? = some (.cells #[.slice none 0 0] 86 (0, 0)) := by rw [← hW0]; exact Boxed.new _ _ _
 have hBs0 : Boxed W0 Bs 9 (.string a0) := (hB0.block Bs hBl).trans hBs
 rw [hW0]
 refine wpIn_rangeFunc_ownF rfl h1' (gf := 193) (lb := #[.pointer (some ⟨Bs, 0, none⟩)]) rfl trivial (enters_of Tryz.func193 (by kernel_rfl) rfl)
  (chk_stops (n - 1) (by omega) Bs w.heap.size a0 m hm1 hm2 hdig (by omega) W0 (by omega) hBs0) kb_t (kb_b (by omega) (by omega)) (Below.refl _ _) (fun _ => rfl)
  (fun pre W => ApI w pre W ∧ Below w.heap.size w W) (fun c pre W => False)
  (OwnFrom.and (Own.from (ApI.own w) _) (ownFrom_below (Nat.le_refl _) (by omega)))
  (fun c s A B row hs hg hr => hs) ⟨⟨_, hb0, World.ownsRow_nil _ _ _ _⟩, hB0⟩
  ?act1 ?assign ?body ?done ?stop
 case assign =>
  intro l x W K hK
  gi_wp2
  exact hK
 case body =>
  rintro l pre x W ⟨⟨v, hb, hr⟩, hB⟩ hlen
  obtain ⟨hbc, hbf⟩ := cell_of_box_a hb
  have hbl := (Array.getElem?_eq_some_iff.1 hb).1
  have hbk : some w.heap.size ≠ v.ownBlock := fun e => by
   rcases ownsRow_ne_a hr hb (fun cur e => by cases e) with h | h
   ·rw [h] at e; cases e
   exact h e.symm
  obtain ⟨i0, hi, hz0, hz1, hz2⟩ := info_parts (show (Tryz.prog.info? 3).map (fun i => (i.zero, i.size, i.bytes)) = some (some (.int .i64 0), 1, 8) by kernel_rfl)
  gi_wp2_with (first
    | (gi_at_builtin; refine wpListIn_append_own _ rfl _ _ 86 rfl w.heap.size 3 i0 (.int .i64 0) 1 8 Tryz.underlying86 hi hz0 hz1 hz2 rfl (by decide) v pre.length (pre.map encZ) rfl (hr.alloc _) ⟨W.heap.size, 0, none⟩ 1 1 [encZ x] rfl rfl (cell_one_new _ _ _) (by simp [Value.oneCell', encZ]) (by simp only [maxLen]; omega) (by omega) (by have := hB.size; simp; omega) ?_; intro v' w3 hown' hg3 hnil3
       have hb3 : w3.heap[w.heap.size]? = some (.cells #[v] 86 (0, 0)) := (hg3.block _ (by simp; omega) hbk).trans ((Below.heap_alloc _ _ _ hbl).trans hb)
       obtain ⟨hc3, hf3⟩ := cell_of_box_a hb3
       obtain ⟨g', cap', rfl⟩ : ∃ g' cap', v' = .slice (some ⟨g', 0, none⟩) (pre.length + 1) cap' := by
         rcases hown'.2 with ⟨_, h0⟩ | ⟨g', cap', cur', h', _⟩
         · omega
         · exact ⟨g', cap', h'⟩)
    | gi_in)
  have hkr : ∀ k, v.ownBlock = some k → w.heap.size ≤ k ∧ k ≠ Bs := fun k e => ⟨(hr.lt k e).1, fun e' => by have := (hr.lt k e).1; omega⟩
  have hgA : W.grownBy (W.alloc (.cells #[encZ x] 3)) none := World.grownBy_alloc W _ none
  have hb3k : KB w.heap.size Bs W w3 := ((KB.refl _ _ W).alloc hB.size _).grown hg3 (by have := hB.size; simp; omega) hkr
  have hB3 : Below w.heap.size w w3 := hB.trans hb3k.1
  refine ⟨((KeepsOthers.alloc W _).trans (KeepsOthers.of_grownBy hg3 (fun j o hj ho => ?_))).trans (KeepsOthers.setCell _ _ _), hb3k.setCell (p := ⟨w.heap.size, 0, none⟩) (Nat.le_refl _) (by simp; omega) _, ⟨_, heap_setCell_box_a _ hb3, ?_⟩, hB3.setCell (p := ⟨w.heap.size, 0, none⟩) (Nat.le_refl _) _⟩
  ·rcases (hr.alloc (.cells #[encZ x] 3)).2 with ⟨e, _⟩ | ⟨g, cap, cur, e, _, hgb, _⟩
   ·rw [e] at hj; cases hj
   rw [e] at hj
   have : g = j := by simpa [Value.ownBlock] using hj
   subst this
   rw [hgb] at ho
   cases ho
   rfl
  have h5 := hown'.kept (grownBy_setCell0_a w3 w.heap.size (.slice (some ⟨g', 0, none⟩) (pre.length + 1) cap')) (by
     refine ownsRow_ne_a hown' hb3 (fun cur e => by cases e))
  simpa using h5
 case done =>
  rintro D ys W hD rfl ⟨⟨v, hb, hr⟩, hB⟩ hK
  obtain ⟨hbc, hbf⟩ := cell_of_box_a hb
  gi_wp2
  refine ⟨by simp, .inl ⟨_, _, rfl, run_takeDeferred hK, ?_⟩⟩
  have hg5 := grownBy_putObj' W D (.deferred none)
  refine ⟨v, ?_, v, rfl, ?_, hB.trans (belowK_b (w := w) (Nat.le_refl _) W D _ _ (by omega) hK rfl rfl)⟩
  ·simp [results, Tryz.f192, go_sem]
  have h5 := hr.kept hg5 (ownsRow_ne_a hr hK (fun cur e => by cases e))
  rw [gk_length] at h5
  exact h5
 case stop =>
  rintro D c pre W hD hp hf hK
  exact hf.elim
end Go.Proofs.YthnfajboebaajaaGreatDoor
namespace Go.Proofs
set_option linter.unusedVariables false
open Go.Shelf
def Tryz.laysB167_ren : Go.Shelf.Ren := ⟨fun | 167 => 127 | 240 => 166 | 276 => 195  | n => n, fun | 0 => 0 | 4 => 4 | 5 => 5 | 9 => 9 | 20 => 20 | 37 => 101 | 70 => 125 | 72 => 127 | 75 => 129 | 80 => 138 | 164 => 176  | n => n, fun | n => n⟩
theorem Tryz.laysB167 : Go.Proofs.Lays.n167 Tryz.prog Tryz.laysB167_ren := {
 mixed := by kernel_rfl
 f167 := Tryz.func127.trans (congrArg some (by kernel_rfl))
 f240 := Tryz.func166.trans (congrArg some (by kernel_rfl))
 f276 := Tryz.func195.trans (congrArg some (by kernel_rfl))
 t0 := Tryz.underlying0
 a0 := Tryz.isAgg0
 z0 := Tryz.sizeOf0
 v0 := Tryz.zeroValue0
 t4 := Tryz.underlying4
 a4 := Tryz.isAgg4
 z4 := Tryz.sizeOf4
 v4 := Tryz.zeroValue4
 t5 := Tryz.underlying5
 a5 := Tryz.isAgg5
 z5 := Tryz.sizeOf5
 v5 := Tryz.zeroValue5
 t9 := Tryz.underlying9
 a9 := Tryz.isAgg9
 z9 := Tryz.sizeOf9
 v9 := Tryz.zeroValue9
 t20 := Tryz.underlying20
 a20 := Tryz.isAgg20
 z20 := Tryz.sizeOf20
 v20 := Tryz.zeroValue20
 t37 := Tryz.underlying101
 a37 := Tryz.isAgg101
 z37 := Tryz.sizeOf101
 v37 := Tryz.zeroValue101
 t70 := Tryz.underlying125
 a70 := Tryz.isAgg125
 z70 := Tryz.sizeOf125
 v70 := Tryz.zeroValue125
 t72 := Tryz.underlying127
 a72 := Tryz.isAgg127
 z72 := Tryz.sizeOf127
 v72 := Tryz.zeroValue127
 t75 := Tryz.underlying129
 a75 := Tryz.isAgg129
 z75 := Tryz.sizeOf129
 v75 := Tryz.zeroValue129
 t164 := Tryz.underlying176
 a164 := Tryz.isAgg176
 z164 := Tryz.sizeOf176
 v164 := Tryz.zeroValue176 }
theorem Tryz.Builder_Extra_B167 : Builder.Extra Tryz.prog Tryz.laysB167_ren := {
 sizeBuilder := by kernel_rfl
 liesBuilder := by kernel_rfl
 t5 := Tryz.underlying5
 a5 := Tryz.isAgg5
 z5 := Tryz.sizeOf5
 v5 := Tryz.zeroValue5
 infoByte := by kernel_rfl
 cellsByte := by kernel_rfl
 sizeByte := by kernel_rfl
 neB5 := by decide }
def Tryz.laysB166_ren : Go.Shelf.Ren := ⟨fun | 166 => 130 | 240 => 166 | 276 => 195  | n => n, fun | 0 => 0 | 3 => 3 | 4 => 4 | 5 => 5 | 9 => 9 | 20 => 20 | 37 => 101 | 70 => 125 | 72 => 127 | 75 => 129 | 80 => 138 | 164 => 176  | n => n, fun | n => n⟩
theorem Tryz.laysB166 : Go.Proofs.Lays.n166 Tryz.prog Tryz.laysB166_ren := {
 mixed := by kernel_rfl
 f166 := Tryz.func130.trans (congrArg some (by kernel_rfl))
 f240 := Tryz.func166.trans (congrArg some (by kernel_rfl))
 f276 := Tryz.func195.trans (congrArg some (by kernel_rfl))
 t0 := Tryz.underlying0
 a0 := Tryz.isAgg0
 z0 := Tryz.sizeOf0
 v0 := Tryz.zeroValue0
 t3 := Tryz.underlying3
 a3 := Tryz.isAgg3
 z3 := Tryz.sizeOf3
 v3 := Tryz.zeroValue3
 t4 := Tryz.underlying4
 a4 := Tryz.isAgg4
 z4 := Tryz.sizeOf4
 v4 := Tryz.zeroValue4
 t9 := Tryz.underlying9
 a9 := Tryz.isAgg9
 z9 := Tryz.sizeOf9
 v9 := Tryz.zeroValue9
 t20 := Tryz.underlying20
 a20 := Tryz.isAgg20
 z20 := Tryz.sizeOf20
 v20 := Tryz.zeroValue20
 t37 := Tryz.underlying101
 a37 := Tryz.isAgg101
 z37 := Tryz.sizeOf101
 v37 := Tryz.zeroValue101
 t70 := Tryz.underlying125
 a70 := Tryz.isAgg125
 z70 := Tryz.sizeOf125
 v70 := Tryz.zeroValue125
 t72 := Tryz.underlying127
 a72 := Tryz.isAgg127
 z72 := Tryz.sizeOf127
 v72 := Tryz.zeroValue127
 t75 := Tryz.underlying129
 a75 := Tryz.isAgg129
 z75 := Tryz.sizeOf129
 v75 := Tryz.zeroValue129
 t164 := Tryz.underlying176
 a164 := Tryz.isAgg176
 z164 := Tryz.sizeOf176
 v164 := Tryz.zeroValue176 }
theorem Tryz.Builder_Extra_B166 : Builder.Extra Tryz.prog Tryz.laysB166_ren := {
 sizeBuilder := by kernel_rfl
 liesBuilder := by kernel_rfl
 t5 := Tryz.underlying5
 a5 := Tryz.isAgg5
 z5 := Tryz.sizeOf5
 v5 := Tryz.zeroValue5
 infoByte := by kernel_rfl
 cellsByte := by kernel_rfl
 sizeByte := by kernel_rfl
 neB5 := by decide }
open Go.RowKit in
theorem Tryz.Builder_WriteByte_k (B b : Nat) (bs : List Value) (c : Int) (w : World) (h : Lib.IsBuilderF 127 5 B b bs w) (hlen : bs.length + 1 ≤ 140737488355328) (hBw : B ≤ w.heap.size) :
  Calls Tryz.prog 127 #[.pointer (some ⟨b, 0, none⟩), .int .u8 c] w fun e w' => e = .returned .nilIface ∧ (Lib.BuilderAtF 127 5 B b (.pointer (some ⟨b, 0, none⟩)) (bs ++ [.int .u8 c]) w' ∧ Below B w w' ∧ Lib.OthersKept 5 (some b) w w') := Any.Builder_WriteByte_k Tryz.laysB167 Tryz.Builder_Extra_B167 B b bs c w h hlen hBw
open Go.RowKit in
theorem Tryz.Builder_WriteString_k (B b : Nat) (bs : List Value) (s : ByteArray) (w : World) (h : Lib.IsBuilderF 127 5 B b bs w) (hlen : bs.length + s.size ≤ 140737488355328) (hBw : B ≤ w.heap.size) :
  Calls Tryz.prog 130 #[.pointer (some ⟨b, 0, none⟩), .string s] w fun e w' => e = .returned (.tuple #[.int .i64 s.size, .nilIface]) ∧ (Lib.BuilderAtF 127 5 B b (.pointer (some ⟨b, 0, none⟩)) (bs ++ Lib.strCells s) w' ∧ Below B w w' ∧ Lib.OthersKept 5 (some b) w w') := Any.Builder_WriteString_k Tryz.laysB166 Tryz.Builder_Extra_B166 B b bs s w h hlen hBw
end Go.Proofs
namespace Go.Proofs.YthnfajboebaajaaGreatDoor
set_option linter.unusedVariables false
set_option linter.unusedSimpArgs false
open Go.RowKit Go.Shelf Go.Proofs.WWords
attribute [local go_sem] Oper.semAt_some
theorem tacc_snoc (neg : Bool) {zs : List Int} (pre : List (BkT zs)) (x : BkT zs) : tacc neg (pre ++ [x]) = tacc neg pre ++ tstep zs.length x.1.1 x.1.2 := by simp [tacc]
theorem repeatL_length (k : Nat) : (Lib.repeatL [48] k).length = k := by
 induction k with
 | zero => rfl
 | succ k ih => simp [Lib.repeatL, ih]
theorem txt_small {v : Int} (h0 : 0 ≤ v) (h1 : v < 1000000000) : (Sv.txt v).size ≤ 9 := by
 rw [Sv.txt_size, if_neg (by omega)]
 have := Sv.nd_le (n := v) (k := 9) (by decide) (by omega)
 omega
theorem txtL_size (v : Int) : (Sv.txtL v).length = (Sv.txt v).size := by simp [Sv.txt, ByteArray.size]
theorem tstep_length {n : Nat} {i v : Int} (h0 : 0 ≤ v) (h1 : v < 1000000000) : (tstep n i v).length ≤ 9 := by
 have := txt_small h0 h1
 have h2 := txtL_size v
 unfold tstep
 split
 ·rw [List.length_append, repeatL_length]; omega
 omega
theorem tacc_length (neg : Bool) {zs : List Int} (hz : Sv.Digs Sv.LB zs) (pre : List (BkT zs)) : (tacc neg pre).length ≤ 1 + 9 * pre.length := by
 have h : (pre.flatMap fun x => tstep zs.length x.1.1 x.1.2).length ≤ 9 * pre.length := by
  induction pre with
  | nil => simp
  | cons x t ih =>
   have hv := rd_range (by decide) hz x.1.1
   rw [← x.2.2.2] at hv
   have := tstep_length (n := zs.length) (i := x.1.1) hv.1 hv.2
   simp only [List.flatMap_cons, List.length_append, List.length_cons]
   omega
 unfold tacc
 rw [List.length_append]
 have h2 : (if neg then [45] else ([] : List UInt8)).length ≤ 1 := by cases neg <;> decide
 omega
theorem isBuilderF_own {β : Type} (B b : Nat) (bs : β → List Value) : Own (fun (s : β) W => Lib.IsBuilderF 127 5 B b (bs s) W) := fun s A W row h hg hr => by
  have k : ∀ p, Lib.BuilderAtF 127 5 B b p (bs s) A → Lib.BuilderAtF 127 5 B b p (bs s) W := by
    rintro p ⟨h1, v, h2, h3, h4⟩
    refine ⟨h1, v, (hg.block b (Array.getElem?_eq_some_iff.1 h2).1 (fun e => ?_)).trans h2, h3.kept hg ?_, h4⟩
    · obtain ⟨o, ho, hc⟩ := hr b e.symm
      rw [h2] at ho
      cases ho
      cases hc
    · cases hv : v.ownBlock with
      | none => exact .inl rfl
      | some g =>
        refine .inr (fun e => ?_)
        obtain ⟨c, fz, hcc⟩ := Lib.ownsRowF_kind h3 g hv
        obtain ⟨o, ho, hc⟩ := hr g e.symm
        rw [hcc] at ho
        cases ho
        cases hc
  exact h.elim (fun x => .inl (k _ x)) (fun x => .inr (k _ x))
theorem isBuilderF_below {B b : Nat} {bs : List Value} {W W' : World} (h : Lib.IsBuilderF 127 5 B b bs W) (hb : Below W.heap.size W W') : Lib.IsBuilderF 127 5 B b bs W' :=
  isBuilderF_own (β := Unit) B b (fun _ => bs) () W W' none h ⟨hb.os, hb.tape, hb.output, hb.size, fun j hj _ => hb.block j hj⟩ (fun r e => by cases e)
theorem blk_own {β : Type} (b : Nat) (cs : β → Array Value) (t : TypeId) : Own (fun (s : β) W => W.heap[b]? = some (.cells (cs s) t (0, 0))) := fun s A W row h hg hr => by
  refine (hg.block b (Array.getElem?_eq_some_iff.1 h).1 (fun e => ?_)).trans h
  obtain ⟨o, ho, hc⟩ := hr b e.symm
  rw [h] at ho
  cases ho
  cases hc
theorem own_and {β : Type} {I J : β → World → Prop} (h : Own I) (g : Own J) : Own (fun s W => I s W ∧ J s W) := fun s A W row x hg hr => ⟨h s A W row x.1 hg hr, g s A W row x.2 hg hr⟩
def TxI (s : Nat) (neg : Bool) (A0 : Option Addr) (c0 : Nat) {zs : List Int} (pre : List (BkT zs)) (W : World) : Prop :=
  Lib.IsBuilderF 127 5 s (s + 1) (Lib.byteCells (tacc neg pre)) W ∧ W.heap[s]? = some (.cells #[.bool neg, .slice A0 zs.length c0] 88 (0, 0))
theorem TxI.own (s : Nat) (neg : Bool) (A0 : Option Addr) (c0 : Nat) {zs : List Int} : Own (TxI s neg A0 c0 (zs := zs)) := fun pre A W row h hg hr =>
  ⟨isBuilderF_own s (s + 1) (fun (pre : List (BkT zs)) => Lib.byteCells (tacc neg pre)) pre A W row h.1 hg hr, blk_own s (fun (_ : List (BkT zs)) => #[.bool neg, .slice A0 zs.length c0]) 88 pre A W row h.2 hg hr⟩
theorem new_builder (w : World) (cs : Array Value) : Lib.IsBuilderF 127 5 w.heap.size (w.heap.size + 1) [] ((w.alloc (.cells cs 88)).alloc (.cells #[.pointer none, .slice none 0 0] 127)) := by
 refine .inl ⟨by omega, .slice none 0 0, ?_, World.ownsRowF_nil _ _ _ _, by simp [Value.ownBlock]⟩
 have := World.alloc_heap_new (w.alloc (.cells cs 88)) (.cells #[.pointer none, .slice none 0 0] 127)
 simpa using this
theorem others_of {b : Option Nat} {w w' : World} (h : Lib.OthersKept 5 b w w') (hs : w.heap.size ≤ w'.heap.size) (hb : ∀ k, b = some k → ∃ o, w.heap[k]? = some o ∧ o.isCells = true) : KeepsOthers w w' :=
  ⟨hs, fun k o ho hc => h k o ho (fun e => by obtain ⟨o', ho', hc'⟩ := hb k e.symm; rw [ho] at ho'; cases ho'; rw [hc] at hc'; cases hc') (fun c fz e => by rw [e] at hc; cases hc)⟩
theorem text_in (n : Nat) (hn : 3 ≤ n) (neg : Bool) (A0 : Option Addr) (c0 : Nat) (l0 : List Int) (w : World) (hL : LaidW w) (hr0 : Kd.C (Kd.int .i64) w A0 l0.length l0) (hz : Sv.Digs Sv.LB l0) (hlen : l0.length ≤ 1099511627776) (hne : 0 < l0.length) :
    CallsIn Fence.wide n Tryz.prog 95 #[.agg #[.bool neg, .slice A0 l0.length c0]] w fun e w' => e = .returned (.string ⟨(tacc neg (bk l0 l0.length)).toArray⟩) ∧ Below w.heap.size w w' := by
 have hf127 : Fence.wide.fn 127 := trivial
 have hf128 : Fence.wide.fn 128 := trivial
 have hf132 : Fence.wide.fn 132 := trivial
 have h1' : 1 ≤ n := by omega
 have hu88 := Tryz.underlying88
 have hz0 : ((l0.length : Int) == 0) = false := by rw [beq_eq_false_iff_ne]; omega
 have hz1 : ¬ (l0.length : Int) = 0 := by omega
 have hz2 : ¬ l0.length = 0 := by omega
 have hnb := new_builder w #[.bool neg, .slice A0 l0.length c0]
 have hx0 : ((w.alloc (.cells #[.bool neg, .slice A0 l0.length c0] 88)).alloc (.cells #[.pointer none, .slice none 0 0] 127)).heap[w.heap.size]? = some (.cells #[.bool neg, .slice A0 l0.length c0] 88 (0, 0)) := (Below.heap_alloc _ _ _ (by simp)).trans (World.alloc_heap_new w _)
 have hB0 : Below w.heap.size w ((w.alloc (.cells #[.bool neg, .slice A0 l0.length c0] 88)).alloc (.cells #[.pointer none, .slice none 0 0] 127)) := ((Below.refl _ w).alloc (Nat.le_refl _) _).alloc (by simp) _
 cases neg
 all_goals refine callsIn_of_wp_marks Tryz.func95 rfl trivial ?_ rfl
 all_goals simp only [Tryz.ntmps95, List.size_toArray, List.length_cons, List.length_nil, Nat.reduceAdd, Nat.reduceSub, Array.replicate_succ, Array.replicate_zero, List.push_toArray, List.append_toArray, List.nil_append, List.cons_append]
 all_goals gi_wp2_with (first
   | (gi_at_call 127; refine (callsIn_wide.2 (Tryz.Builder_WriteByte_k w.heap.size (w.heap.size + 1) [] 45 _ hnb (by simp) (by simp; omega))).mono ?_; rintro e w1 ⟨rfl, hb1, hB1, hok1⟩; have hx1 := hok1 _ _ hx0 (by simp) (by intro c fz e; cases e); have hxc1 := (blk_cell hx1 1).trans (show _ = some (Value.slice A0 l0.length c0) from rfl))
   | (gi_at_call 128; refine (back_in Fence.wide (n - 1) hf128 rfl _ _ _ _).mono ?_; rintro e w' ⟨rfl, rfl⟩)
   | gi_in)
 obtain ⟨W1, hW1⟩ : ∃ W1, (w.alloc (.cells #[.bool false, .slice A0 l0.length c0] 88)).alloc (.cells #[.pointer none, .slice none 0 0] 127) = W1 := ⟨_, rfl⟩
 rw [hW1] at hnb hx0 hB0
 have hsz1 : w.heap.size + 1 + 1 = W1.heap.size := by rw [← hW1]; simp
 have hbu : Lib.IsBuilderF 127 5 w.heap.size (w.heap.size + 1) (Lib.byteCells (tacc false ([] : List (BkT l0)))) W1 := hnb
 rw [hW1, hsz1]
 clear hW1
 rotate_left 1
 obtain ⟨W1, hW1⟩ : ∃ W1, w1 = W1 := ⟨_, rfl⟩
 have hbu : Lib.IsBuilderF 127 5 w.heap.size (w.heap.size + 1) (Lib.byteCells (tacc true ([] : List (BkT l0)))) W1 := by rw [← hW1]; exact .inr hb1
 have hB2 : Below w.heap.size w W1 := by rw [← hW1]; exact hB0.trans hB1
 rw [hW1] at hx1
 rw [hW1]
 clear hB0 hx0
 have hB0 := hB2
 have hx0 := hx1
 clear hB2 hx1 hW1
 rotate_left 1
 -- MAIN
 ·obtain ⟨s, hs⟩ : ∃ s, w.heap.size = s := ⟨_, rfl⟩
  rw [hs] at hbu hB0 hx0
  simp only [hs]
  obtain ⟨W0, hW0⟩ : ∃ W0, W1.alloc (.cells #[.slice A0 l0.length c0] 86) = W0 := ⟨_, rfl⟩
  have hbx : Boxed W0 W1.heap.size 86 (.slice A0 l0.length c0) := by rw [← hW0]; exact Boxed.new _ _ _
  have hBW : Below s w W0 := by rw [← hW0]; exact hB0.alloc (by have := hB0.size; omega) _
  have hI0 := isBuilderF_below hbu (show Below W1.heap.size W1 W0 by rw [← hW0]; exact (Below.refl _ _).alloc (Nat.le_refl _) _)
  have hxx := (show Below W1.heap.size W1 W0 by rw [← hW0]; exact (Below.refl _ _).alloc (Nat.le_refl _) _).block s (Array.getElem?_eq_some_iff.1 hx0).1 |>.trans hx0
  have hs1 : s + 2 ≤ W1.heap.size := by
   have hc : (Lib.IsBuilderF 127 5 s (s + 1) _ W1) := hbu
   rcases hc with h | h
   ·have := h.lt; omega
   have := h.lt; omega
  have hs0 : W1.heap.size < W0.heap.size := by rw [← hW0]; simp
  rw [hW0]
  clear hW0
  have hm0 := Kd.C_max hr0
  refine wpIn_rangeFunc_ownF rfl h1' (gf := 167) (lb := #[.pointer (some ⟨W1.heap.size, 0, none⟩)]) rfl trivial (enters_of Tryz.func167 (by kernel_rfl) rfl)
   (back_stops Fence.wide (n - 1) trivial rfl (by omega) W1.heap.size s A0 c0 l0 hm0 W0 hbx (by have := hBW.size; omega) (fun W' hb => Kd.C_below hr0 (by rw [hs]; exact hBW.trans hb))) kb_t (kb_b (by have := hBW.size; omega) hs0) (Below.refl _ _) (fun _ => rfl)
   (fun pre W => (TxI s false A0 c0 pre W ∧ W.heap[W1.heap.size]? = some (.cells #[.slice A0 l0.length c0] 86 (0, 0))) ∧ Below s w W) (fun c pre W => False)
   (OwnFrom.and (Own.from (own_and (TxI.own s false A0 c0) (blk_own W1.heap.size (fun _ => #[.slice A0 l0.length c0]) 86)) _) (ownFrom_below (by omega) (by have := hBW.size; omega)))
   (fun c s A B row hs hg hr => hs) ⟨⟨⟨hI0, hxx⟩, hbx⟩, hBW⟩
   ?act1 ?assign ?body ?done ?stop
  case assign =>
   intro l x W K hK
   simp only [enc2]
   gi_wp2
   exact hK
  case body =>
   rintro l pre x W ⟨⟨⟨hbu, hx⟩, hbW⟩, hB⟩ hpl
   have hv := rd_range (by decide) hz x.1.1
   rw [← x.2.2.2] at hv
   have hsn := tacc_snoc false pre x
   have htl := tacc_length false hz pre
   try simp only [enc2]
   obtain ⟨i, hxi⟩ : ∃ i, x.1.1 = i := ⟨_, rfl⟩
   obtain ⟨v, hxv⟩ : ∃ v, x.1.2 = v := ⟨_, rfl⟩
   simp only [hxi, hxv] at hv hsn ⊢
   clear hxi hxv
   have hv1 : v < 1000000000 := hv.2
   have hv0 := hv.1
   have hts := txt_small hv0 hv1
   have hxc := (blk_cell hx 1).trans (show _ = some (Value.slice A0 l0.length c0) from rfl)
   have hd2 : 1 ≤ n - 1 - 1 := by omega
   have hf129 : Fence.wide.fn 129 := trivial
   have hf130 : Fence.wide.fn 130 := trivial
   have hf131 : Fence.wide.fn 131 := trivial
   have hLW : LaidW W := hL.below (by rw [hs]; exact hB)
   have hbl : (Lib.byteCells (tacc false pre)).length ≤ 1 + 9 * pre.length := by simp only [Lib.byteCells, List.length_map]; exact htl
   have hcz : (9 : Int) - ((Sv.txt v).size : Int) = ((9 - (Sv.txt v).size : Nat) : Int) := by omega
   have hrs : (⟨(Lib.repeatL [48] (9 - (Sv.txt v).size)).toArray⟩ : ByteArray).size = 9 - (Sv.txt v).size := by
    show (Lib.repeatL [48] (9 - (Sv.txt v).size)).toArray.size = _
    rw [List.size_toArray, repeatL_length]
   have hit : Lib.strCells (Sv.txt v) = Lib.byteCells (Sv.txtL v) := rfl
   have hir : Lib.strCells (⟨(Lib.repeatL [48] (9 - (Sv.txt v).size)).toArray⟩ : ByteArray) = Lib.byteCells (Lib.repeatL [48] (9 - (Sv.txt v).size)) := rfl
   have hBs := hB.size
   have hws : w.heap.size ≤ W.heap.size := hBs
   have hBW2 : s ≤ W.heap.size := by omega
   by_cases hi : i < (l0.length : Int) - 1
   ·have hsn2 : tacc false (pre ++ [x]) = tacc false pre ++ (Lib.repeatL [48] (9 - (Sv.txt v).size) ++ Sv.txtL v) := by rw [hsn, tstep, if_pos hi]
    have HS := Lib.hid hsn2
    clear hsn hsn2 hv
    have hi2 : decide (i < (l0.length : Int) - 1) = true := decide_eq_true hi
    gi_wp2_with (first
      | (gi_at_call 129; refine (CallsIn.inRound l (callsIn_wide.2 (strconv_Itoa.calls v (Sv.txt v) W hLW (if_pos ⟨by omega, by omega⟩)))).mono ?_; rintro e wa ⟨rfl, hba⟩
         have hbua := isBuilderF_below hbu hba
         have hxa := (hba.block s (Array.getElem?_eq_some_iff.1 hx).1).trans hx
         have hxca := (blk_cell hxa 1).trans (show _ = some (Value.slice A0 l0.length c0) from rfl))
      | (gi_at_call 131; refine (CallsIn.inRound l (callsIn_wide.2 (Tryz.strings_Repeat (⟨#[48]⟩ : ByteArray) (9 - (Sv.txt v).size) wa (by omega) (by show 1 * _ ≤ _; omega)))).mono ?_; rintro e wb ⟨rfl, hbb⟩
         have hbub := isBuilderF_below hbua hbb
         have hxb := (hbb.block s (Array.getElem?_eq_some_iff.1 hxa).1).trans hxa
         have hszb : s ≤ wb.heap.size := by have h1 := hba.size; have h2 := hbb.size; omega)
      | (gi_at_call 130; refine (CallsIn.inRound l (callsIn_wide.2 (Tryz.Builder_WriteString_k s (s + 1) _ (Sv.txt v) wc (.inr hbuc) (by simp only [List.length_append, hir]; simp only [Lib.byteCells, List.length_map, repeatL_length] at hbl ⊢; omega) hszc))).mono ?_; rintro e wd ⟨rfl, hbud, hBd, hokd⟩
         have hxd := hokd _ _ hxc2 (by simp) (by intro c fz e; cases e))
      | (gi_at_call 130; refine (CallsIn.inRound l (callsIn_wide.2 (Tryz.Builder_WriteString_k s (s + 1) _ (⟨(Lib.repeatL [48] (9 - (Sv.txt v).size)).toArray⟩ : ByteArray) wb hbub (by rw [hrs]; omega) hszb))).mono ?_; rintro e wc ⟨rfl, hbuc, hBc, hokc⟩
         have hxc2 := hokc _ _ hxb (by simp) (by intro c fz e; cases e)
         have hszc : s ≤ wc.heap.size := by have h1 := hBc.size; omega)
      | gi_in)
    have hbS : ∀ (a b : World), Below a.heap.size a b → KeepsOthers a b := fun a b h => ⟨h.size, fun k o ho hc => (h.block k (Array.getElem?_eq_some_iff.1 ho).1).trans ho⟩
    have hbc1 : ∀ (W : World) (bs : List Value), Lib.IsBuilderF 127 5 s (s + 1) bs W → ∀ k, some (s + 1) = some k → ∃ o, W.heap[k]? = some o ∧ o.isCells = true := fun W bs h k e => by
     cases e
     rcases h with ⟨_, v, h2, _⟩ | ⟨_, v, h2, _⟩ <;> exact ⟨_, h2, rfl⟩
    have hbWl := (Array.getElem?_eq_some_iff.1 hbW).1
    have hkw : wd.heap[W1.heap.size]? = W.heap[W1.heap.size]? :=
     (hokd _ _ (hokc _ _ ((hbb.block _ (Nat.lt_of_lt_of_le hbWl hba.size)).trans ((hba.block _ hbWl).trans hbW)) (by simp; omega) (by intro c fz e; cases e)) (by simp; omega) (by intro c fz e; cases e)).trans hbW.symm
    have hBe : Below s W wd := ((hba.mono hBW2).trans (hbb.mono (by have := hba.size; omega))).trans (hBc.trans hBd)
    refine ⟨((hbS _ _ hba).trans (hbS _ _ hbb)).trans ((others_of hokc hBc.size (hbc1 _ _ hbub)).trans (others_of hokd hBd.size (hbc1 _ _ (.inr hbuc)))), ⟨hBe, fun _ => hkw⟩, ⟨⟨?_, hxd⟩, hkw.trans hbW⟩, hB.trans hBe⟩
    rw [HS.out]
    have := hbud
    rw [hit, hir, List.append_assoc] at this
    exact .inr (by simpa [Lib.byteCells] using this)
   have hsn2 : tacc false (pre ++ [x]) = tacc false pre ++ Sv.txtL v := by rw [hsn, tstep, if_neg hi]
   have HS := Lib.hid hsn2
   clear hsn hsn2 hv
   have hi2 : decide (i < (l0.length : Int) - 1) = false := decide_eq_false hi
   gi_wp2_with (first
     | (gi_at_call 129; refine (CallsIn.inRound l (callsIn_wide.2 (strconv_Itoa.calls v (Sv.txt v) W hLW (if_pos ⟨by omega, by omega⟩)))).mono ?_; rintro e wa ⟨rfl, hba⟩
        have hbua := isBuilderF_below hbu hba
        have hxa := (hba.block s (Array.getElem?_eq_some_iff.1 hx).1).trans hx
        have hxca := (blk_cell hxa 1).trans (show _ = some (Value.slice A0 l0.length c0) from rfl)
        have hsza : s ≤ wa.heap.size := by have h1 := hba.size; omega)
     | (gi_at_call 130; refine (CallsIn.inRound l (callsIn_wide.2 (Tryz.Builder_WriteString_k s (s + 1) _ (Sv.txt v) wa hbua (by omega) hsza))).mono ?_; rintro e wd ⟨rfl, hbud, hBd, hokd⟩
        have hxd := hokd _ _ hxa (by simp) (by intro c fz e; cases e))
     | gi_in)
   have hbS : ∀ (a b : World), Below a.heap.size a b → KeepsOthers a b := fun a b h => ⟨h.size, fun k o ho hc => (h.block k (Array.getElem?_eq_some_iff.1 ho).1).trans ho⟩
   have hbc1 : ∀ (W : World) (bs : List Value), Lib.IsBuilderF 127 5 s (s + 1) bs W → ∀ k, some (s + 1) = some k → ∃ o, W.heap[k]? = some o ∧ o.isCells = true := fun W bs h k e => by
    cases e
    rcases h with ⟨_, v, h2, _⟩ | ⟨_, v, h2, _⟩ <;> exact ⟨_, h2, rfl⟩
   have hbWl := (Array.getElem?_eq_some_iff.1 hbW).1
   have hkw : wd.heap[W1.heap.size]? = W.heap[W1.heap.size]? :=
    (hokd _ _ ((hba.block _ hbWl).trans hbW) (by simp; omega) (by intro c fz e; cases e)).trans hbW.symm
   have hBe : Below s W wd := (hba.mono hBW2).trans hBd
   refine ⟨(hbS _ _ hba).trans (others_of hokd hBd.size (hbc1 _ _ hbua)), ⟨hBe, fun _ => hkw⟩, ⟨⟨?_, hxd⟩, hkw.trans hbW⟩, hB.trans hBe⟩
   rw [HS.out]
   have := hbud
   rw [hit] at this
   exact .inr (by simpa [Lib.byteCells] using this)
  case done =>
   rintro D ys W hD rfl ⟨⟨⟨hbu, hx⟩, hbW⟩, hB⟩ hK
   have hf132 : Fence.wide.fn 132 := trivial
   have hBW2 : s ≤ W.heap.size := by have := hB.size; omega
   gi_wp2_with (first
     | (gi_at_call 132; refine (callsIn_wide.2 (Tryz.Builder_String_any_k s (s + 1) (tacc false (bk l0 l0.length)) W hbu hBW2)).mono ?_; rintro e wz ⟨rfl, hbz, hBz, hokz⟩)
     | gi_in)
   have hDs : D ≠ s + 1 := by
    intro e
    subst e
    rcases hbu with ⟨_, v, h2, _⟩ | ⟨_, v, h2, _⟩ <;> (rw [h2] at hK; cases hK)
   have hKz := hokz _ _ hK (by simp; omega) (by intro c fz e; cases e)
   have hDw : w.heap.size ≤ D := by omega
   refine ⟨by simp, .inl ⟨_, _, rfl, run_takeDeferred hKz, ?_⟩⟩
   exact ⟨.string ⟨(tacc false (bk l0 l0.length)).toArray⟩, by simp [results, Tryz.f95, go_sem], rfl, (show Below w.heap.size w wz by rw [hs]; exact hB.trans hBz).trans (belowK_b (w := w) (Nat.le_refl _) wz D _ _ (by omega) hKz rfl rfl)⟩
  case stop =>
   rintro D c pre W hD hp hf hK
   exact hf.elim
 obtain ⟨s, hs⟩ : ∃ s, w.heap.size = s := ⟨_, rfl⟩
 rw [hs] at hbu hB0 hx0
 simp only [hs]
 obtain ⟨W0, hW0⟩ : ∃ W0, W1.alloc (.cells #[.slice A0 l0.length c0] 86) = W0 := ⟨_, rfl⟩
 have hbx : Boxed W0 W1.heap.size 86 (.slice A0 l0.length c0) := by rw [← hW0]; exact Boxed.new _ _ _
 have hBW : Below s w W0 := by rw [← hW0]; exact hB0.alloc (by have := hB0.size; omega) _
 have hI0 := isBuilderF_below hbu (show Below W1.heap.size W1 W0 by rw [← hW0]; exact (Below.refl _ _).alloc (Nat.le_refl _) _)
 have hxx := (show Below W1.heap.size W1 W0 by rw [← hW0]; exact (Below.refl _ _).alloc (Nat.le_refl _) _).block s (Array.getElem?_eq_some_iff.1 hx0).1 |>.trans hx0
 have hs1 : s + 2 ≤ W1.heap.size := by
  have hc : (Lib.IsBuilderF 127 5 s (s + 1) _ W1) := hbu
  rcases hc with h | h
  ·have := h.lt; omega
  have := h.lt; omega
 have hs0 : W1.heap.size < W0.heap.size := by rw [← hW0]; simp
 rw [hW0]
 clear hW0
 have hm0 := Kd.C_max hr0
 refine wpIn_rangeFunc_ownF rfl h1' (gf := 167) (lb := #[.pointer (some ⟨W1.heap.size, 0, none⟩)]) rfl trivial (enters_of Tryz.func167 (by kernel_rfl) rfl)
  (back_stops Fence.wide (n - 1) trivial rfl (by omega) W1.heap.size s A0 c0 l0 hm0 W0 hbx (by have := hBW.size; omega) (fun W' hb => Kd.C_below hr0 (by rw [hs]; exact hBW.trans hb))) kb_t (kb_b (by have := hBW.size; omega) hs0) (Below.refl _ _) (fun _ => rfl)
  (fun pre W => (TxI s true A0 c0 pre W ∧ W.heap[W1.heap.size]? = some (.cells #[.slice A0 l0.length c0] 86 (0, 0))) ∧ Below s w W) (fun c pre W => False)
  (OwnFrom.and (Own.from (own_and (TxI.own s true A0 c0) (blk_own W1.heap.size (fun _ => #[.slice A0 l0.length c0]) 86)) _) (ownFrom_below (by omega) (by have := hBW.size; omega)))
  (fun c s A B row hs hg hr => hs) ⟨⟨⟨hI0, hxx⟩, hbx⟩, hBW⟩
  ?act1T ?assignT ?bodyT ?doneT ?stopT
 case assignT =>
  intro l x W K hK
  simp only [enc2]
  gi_wp2
  exact hK
 case bodyT =>
  rintro l pre x W ⟨⟨⟨hbu, hx⟩, hbW⟩, hB⟩ hpl
  have hv := rd_range (by decide) hz x.1.1
  rw [← x.2.2.2] at hv
  have hsn := tacc_snoc true pre x
  have htl := tacc_length true hz pre
  try simp only [enc2]
  obtain ⟨i, hxi⟩ : ∃ i, x.1.1 = i := ⟨_, rfl⟩
  obtain ⟨v, hxv⟩ : ∃ v, x.1.2 = v := ⟨_, rfl⟩
  simp only [hxi, hxv] at hv hsn ⊢
  clear hxi hxv
  have hv1 : v < 1000000000 := hv.2
  have hv0 := hv.1
  have hts := txt_small hv0 hv1
  have hxc := (blk_cell hx 1).trans (show _ = some (Value.slice A0 l0.length c0) from rfl)
  have hd2 : 1 ≤ n - 1 - 1 := by omega
  have hf129 : Fence.wide.fn 129 := trivial
  have hf130 : Fence.wide.fn 130 := trivial
  have hf131 : Fence.wide.fn 131 := trivial
  have hLW : LaidW W := hL.below (by rw [hs]; exact hB)
  have hbl : (Lib.byteCells (tacc true pre)).length ≤ 1 + 9 * pre.length := by simp only [Lib.byteCells, List.length_map]; exact htl
  have hcz : (9 : Int) - ((Sv.txt v).size : Int) = ((9 - (Sv.txt v).size : Nat) : Int) := by omega
  have hrs : (⟨(Lib.repeatL [48] (9 - (Sv.txt v).size)).toArray⟩ : ByteArray).size = 9 - (Sv.txt v).size := by
   show (Lib.repeatL [48] (9 - (Sv.txt v).size)).toArray.size = _
   rw [List.size_toArray, repeatL_length]
  have hit : Lib.strCells (Sv.txt v) = Lib.byteCells (Sv.txtL v) := rfl
  have hir : Lib.strCells (⟨(Lib.repeatL [48] (9 - (Sv.txt v).size)).toArray⟩ : ByteArray) = Lib.byteCells (Lib.repeatL [48] (9 - (Sv.txt v).size)) := rfl
  have hBs := hB.size
  have hws : w.heap.size ≤ W.heap.size := hBs
  have hBW2 : s ≤ W.heap.size := by omega
  by_cases hi : i < (l0.length : Int) - 1
  ·have hsn2 : tacc true (pre ++ [x]) = tacc true pre ++ (Lib.repeatL [48] (9 - (Sv.txt v).size) ++ Sv.txtL v) := by rw [hsn, tstep, if_pos hi]
   have HS := Lib.hid hsn2
   clear hsn hsn2 hv
   have hi2 : decide (i < (l0.length : Int) - 1) = true := decide_eq_true hi
   gi_wp2_with (first
     | (gi_at_call 129; refine (CallsIn.inRound l (callsIn_wide.2 (strconv_Itoa.calls v (Sv.txt v) W hLW (if_pos ⟨by omega, by omega⟩)))).mono ?_; rintro e wa ⟨rfl, hba⟩
        have hbua := isBuilderF_below hbu hba
        have hxa := (hba.block s (Array.getElem?_eq_some_iff.1 hx).1).trans hx
        have hxca := (blk_cell hxa 1).trans (show _ = some (Value.slice A0 l0.length c0) from rfl))
     | (gi_at_call 131; refine (CallsIn.inRound l (callsIn_wide.2 (Tryz.strings_Repeat (⟨#[48]⟩ : ByteArray) (9 - (Sv.txt v).size) wa (by omega) (by show 1 * _ ≤ _; omega)))).mono ?_; rintro e wb ⟨rfl, hbb⟩
        have hbub := isBuilderF_below hbua hbb
        have hxb := (hbb.block s (Array.getElem?_eq_some_iff.1 hxa).1).trans hxa
        have hszb : s ≤ wb.heap.size := by have h1 := hba.size; have h2 := hbb.size; omega)
     | (gi_at_call 130; refine (CallsIn.inRound l (callsIn_wide.2 (Tryz.Builder_WriteString_k s (s + 1) _ (Sv.txt v) wc (.inr hbuc) (by simp only [List.length_append, hir]; simp only [Lib.byteCells, List.length_map, repeatL_length] at hbl ⊢; omega) hszc))).mono ?_; rintro e wd ⟨rfl, hbud, hBd, hokd⟩
        have hxd := hokd _ _ hxc2 (by simp) (by intro c fz e; cases e))
     | (gi_at_call 130; refine (CallsIn.inRound l (callsIn_wide.2 (Tryz.Builder_WriteString_k s (s + 1) _ (⟨(Lib.repeatL [48] (9 - (Sv.txt v).size)).toArray⟩ : ByteArray) wb hbub (by rw [hrs]; omega) hszb))).mono ?_; rintro e wc ⟨rfl, hbuc, hBc, hokc⟩
        have hxc2 := hokc _ _ hxb (by simp) (by intro c fz e; cases e)
        have hszc : s ≤ wc.heap.size := by have h1 := hBc.size; omega)
     | gi_in)
   have hbS : ∀ (a b : World), Below a.heap.size a b → KeepsOthers a b := fun a b h => ⟨h.size, fun k o ho hc => (h.block k (Array.getElem?_eq_some_iff.1 ho).1).trans ho⟩
   have hbc1 : ∀ (W : World) (bs : List Value), Lib.IsBuilderF 127 5 s (s + 1) bs W → ∀ k, some (s + 1) = some k → ∃ o, W.heap[k]? = some o ∧ o.isCells = true := fun W bs h k e => by
    cases e
    rcases h with ⟨_, v, h2, _⟩ | ⟨_, v, h2, _⟩ <;> exact ⟨_, h2, rfl⟩
   have hbWl := (Array.getElem?_eq_some_iff.1 hbW).1
   have hkw : wd.heap[W1.heap.size]? = W.heap[W1.heap.size]? :=
    (hokd _ _ (hokc _ _ ((hbb.block _ (Nat.lt_of_lt_of_le hbWl hba.size)).trans ((hba.block _ hbWl).trans hbW)) (by simp; omega) (by intro c fz e; cases e)) (by simp; omega) (by intro c fz e; cases e)).trans hbW.symm
   have hBe : Below s W wd := ((hba.mono hBW2).trans (hbb.mono (by have := hba.size; omega))).trans (hBc.trans hBd)
   refine ⟨((hbS _ _ hba).trans (hbS _ _ hbb)).trans ((others_of hokc hBc.size (hbc1 _ _ hbub)).trans (others_of hokd hBd.size (hbc1 _ _ (.inr hbuc)))), ⟨hBe, fun _ => hkw⟩, ⟨⟨?_, hxd⟩, hkw.trans hbW⟩, hB.trans hBe⟩
   rw [HS.out]
   have := hbud
   rw [hit, hir, List.append_assoc] at this
   exact .inr (by simpa [Lib.byteCells] using this)
  have hsn2 : tacc true (pre ++ [x]) = tacc true pre ++ Sv.txtL v := by rw [hsn, tstep, if_neg hi]
  have HS := Lib.hid hsn2
  clear hsn hsn2 hv
  have hi2 : decide (i < (l0.length : Int) - 1) = false := decide_eq_false hi
  gi_wp2_with (first
    | (gi_at_call 129; refine (CallsIn.inRound l (callsIn_wide.2 (strconv_Itoa.calls v (Sv.txt v) W hLW (if_pos ⟨by omega, by omega⟩)))).mono ?_; rintro e wa ⟨rfl, hba⟩
       have hbua := isBuilderF_below hbu hba
       have hxa := (hba.block s (Array.getElem?_eq_some_iff.1 hx).1).trans hx
       have hxca := (blk_cell hxa 1).trans (show _ = some (Value.slice A0 l0.length c0) from rfl)
       have hsza : s ≤ wa.heap.size := by have h1 := hba.size; omega)
    | (gi_at_call 130; refine (CallsIn.inRound l (callsIn_wide.2 (Tryz.Builder_WriteString_k s (s + 1) _ (Sv.txt v) wa hbua (by omega) hsza))).mono ?_; rintro e wd ⟨rfl, hbud, hBd, hokd⟩
       have hxd := hokd _ _ hxa (by simp) (by intro c fz e; cases e))
    | gi_in)
  have hbS : ∀ (a b : World), Below a.heap.size a b → KeepsOthers a b := fun a b h => ⟨h.size, fun k o ho hc => (h.block k (Array.getElem?_eq_some_iff.1 ho).1).trans ho⟩
  have hbc1 : ∀ (W : World) (bs : List Value), Lib.IsBuilderF 127 5 s (s + 1) bs W → ∀ k, some (s + 1) = some k → ∃ o, W.heap[k]? = some o ∧ o.isCells = true := fun W bs h k e => by
   cases e
   rcases h with ⟨_, v, h2, _⟩ | ⟨_, v, h2, _⟩ <;> exact ⟨_, h2, rfl⟩
  have hbWl := (Array.getElem?_eq_some_iff.1 hbW).1
  have hkw : wd.heap[W1.heap.size]? = W.heap[W1.heap.size]? :=
   (hokd _ _ ((hba.block _ hbWl).trans hbW) (by simp; omega) (by intro c fz e; cases e)).trans hbW.symm
  have hBe : Below s W wd := (hba.mono hBW2).trans hBd
  refine ⟨(hbS _ _ hba).trans (others_of hokd hBd.size (hbc1 _ _ hbua)), ⟨hBe, fun _ => hkw⟩, ⟨⟨?_, hxd⟩, hkw.trans hbW⟩, hB.trans hBe⟩
  rw [HS.out]
  have := hbud
  rw [hit] at this
  exact .inr (by simpa [Lib.byteCells] using this)
 case doneT =>
  rintro D ys W hD rfl ⟨⟨⟨hbu, hx⟩, hbW⟩, hB⟩ hK
  have hf132 : Fence.wide.fn 132 := trivial
  have hBW2 : s ≤ W.heap.size := by have := hB.size; omega
  gi_wp2_with (first
    | (gi_at_call 132; refine (callsIn_wide.2 (Tryz.Builder_String_any_k s (s + 1) (tacc true (bk l0 l0.length)) W hbu hBW2)).mono ?_; rintro e wz ⟨rfl, hbz, hBz, hokz⟩)
    | gi_in)
  have hDs : D ≠ s + 1 := by
   intro e
   subst e
   rcases hbu with ⟨_, v, h2, _⟩ | ⟨_, v, h2, _⟩ <;> (rw [h2] at hK; cases hK)
  have hKz := hokz _ _ hK (by simp; omega) (by intro c fz e; cases e)
  have hDw : w.heap.size ≤ D := by omega
  refine ⟨by simp, .inl ⟨_, _, rfl, run_takeDeferred hKz, ?_⟩⟩
  exact ⟨.string ⟨(tacc true (bk l0 l0.length)).toArray⟩, by simp [results, Tryz.f95, go_sem], rfl, (show Below w.heap.size w wz by rw [hs]; exact hB.trans hBz).trans (belowK_b (w := w) (Nat.le_refl _) wz D _ _ (by omega) hKz rfl rfl)⟩
 case stopT =>
  rintro D c pre W hD hp hf hK
  exact hf.elim
theorem bInumber_text.calls (a0_0 : Bool) (A0_1 : Option Addr) (c0_1 : Nat) (l0_1 : List Int) (r : ByteArray) (w : World) (hL : LaidW w) (hr0_1 : Kd.C (Kd.int .i64) w A0_1 l0_1.length l0_1) (hc0_1 : l0_1.length ≤ c0_1) (h : bInumber_text.f a0_0 l0_1 = some r) :
    Calls Tryz.prog 95 #[.agg #[.bool a0_0, .slice A0_1 l0_1.length c0_1]] w fun e w' => e = .returned (.string r) ∧ Below w.heap.size w w' := by
 unfold bInumber_text.f at h
 split at h
 ·rename_i hc
  simp only [Option.some.injEq] at h
  subst h
  by_cases hl : l0_1 = []
  ·subst hl
   rw [if_pos rfl]
   go_enter Tryz.func95, Tryz.ntmps95
   go_wp2
   refine ⟨by simp, ?_⟩
   exact ⟨.string ⟨#[48]⟩, by simp [results, Tryz.f95, go_sem], rfl, (Below.refl _ w).alloc (Nat.le_refl _) _⟩
  rw [if_neg hl]
  exact callsIn_wide.1 (text_in 3 (by omega) a0_0 A0_1 c0_1 l0_1 w hL hr0_1 hc.1 hc.2 (List.length_pos_iff.2 hl))
 cases h
end Go.Proofs.YthnfajboebaajaaGreatDoor
namespace Go.Proofs.YthnfajboebaajaaGreatDoor.PA
set_option linter.unusedVariables false
open Go.RowKit Go.Proofs.WWords Go.Proofs.WLast Go.Proofs.WMore
attribute [local go_sem] max2_int min2_int max_two min_two max_three min_three max_four min_four
set_option linter.unusedSimpArgs false
theorem bIwritten.calls (a0_0 : Bool) (A0_1 : Option Addr) (c0_1 : Nat) (l0_1 : List Int) (r1 : ByteArray) (r2 : Int) (w : World) (hL : LaidW w) (hr0_1 : Kd.C (Kd.int .i64) w A0_1 l0_1.length l0_1) (hc0_1 : l0_1.length ≤ c0_1) (h : bIwritten.f a0_0 l0_1 = some (r1, r2)) :
  Calls Tryz.prog 87 #[.agg #[.bool a0_0, .slice A0_1 l0_1.length c0_1]] w fun e w' => e = .returned (.tuple #[.string r1, .int .i64 r2]) ∧ Below w.heap.size w w' := by
 have hu88 := Tryz.underlying88
 have HR0_1 := Z0.mk hr0_1
 have HC0_1 := Z0.mk hc0_1
 clear hr0_1 hc0_1
 have HB := Z0.mk (Below.refl w.heap.size w)
 have H := h
 clear h
 unfold bIwritten.f at H
 obtain ⟨t296, A2, H⟩ := bnd H
 rcases jg H with ⟨-, c3b0, H⟩ | ⟨-, c3b0, H⟩
 ·simp only [Option.some.injEq, Prod.mk.injEq] at H
  obtain ⟨rfl, rfl⟩ := H
  go_enter Tryz.func87, Tryz.ntmps87
  go_wp2_with (first | ((with_reducible refine gd_ 1 rfl ?_); refine bxE 1 #[.bool a0_0, .slice A0_1 l0_1.length c0_1] 88 ?_; intro gb295 hg w4 hbox hb; have BK295 := Z0.mk hbox; have GW295 := fE HB hg; have GE295 := fE HB hg; replace HB := fB HB hb; clear hb hbox hg; obtain ⟨hcz5_0, hcz5_1, hfz5_0, hfz5_1⟩ := b2 BK295) | ((with_reducible refine gc_ 124 rfl ?_); refine gL 5 Tryz.func124 (bInumber_size.calls a0_0 _ _ l0_1 t296 _ ?side3 ?side1 ?side2 A2.out) ?_; (case side1 => exact cq (Kd.C_below HR0_1.out HB.out)); (case side2 => exact HC0_1.out); (case side3 => exact LaidW.below hL bqs); rintro _ w6 ⟨rfl, hb⟩; refine ⟨_, rfl, ?_⟩; replace BK295 := fk BK295 hb; replace HB := fB HB hb; clear hb))
  go_ret2
  exact finE
 obtain ⟨t297, A7, H⟩ := bnd H
 simp only [Option.some.injEq, Prod.mk.injEq] at H
 obtain ⟨rfl, rfl⟩ := H
 go_enter Tryz.func87, Tryz.ntmps87
 go_wp2_with (first | ((with_reducible refine gd_ 1 rfl ?_); refine bxE 1 #[.bool a0_0, .slice A0_1 l0_1.length c0_1] 88 ?_; intro gb295 hg w8 hbox hb; have BK295 := Z0.mk hbox; have GW295 := fE HB hg; have GE295 := fE HB hg; replace HB := fB HB hb; clear hb hbox hg; obtain ⟨hcz9_0, hcz9_1, hfz9_0, hfz9_1⟩ := b2 BK295) | ((with_reducible refine gc_ 124 rfl ?_); refine gL 5 Tryz.func124 (bInumber_size.calls a0_0 _ _ l0_1 t296 _ ?side3 ?side1 ?side2 A2.out) ?_; (case side1 => exact cq (Kd.C_below HR0_1.out HB.out)); (case side2 => exact HC0_1.out); (case side3 => exact LaidW.below hL bqs); rintro _ w10 ⟨rfl, hb⟩; refine ⟨_, rfl, ?_⟩; replace BK295 := fk BK295 hb; replace HB := fB HB hb; clear hb; obtain ⟨hcz11_0, hcz11_1, hfz11_0, hfz11_1⟩ := b2 BK295) | ((with_reducible refine gc_ 95 rfl ?_); refine gL 8 Tryz.func95 (bInumber_text.calls a0_0 _ _ l0_1 t297 _ ?side3 ?side1 ?side2 A7.out) ?_; (case side1 => exact cq (Kd.C_below HR0_1.out HB.out)); (case side2 => exact HC0_1.out); (case side3 => exact LaidW.below hL bqs); rintro _ w12 ⟨rfl, hb⟩; refine ⟨_, rfl, ?_⟩; replace BK295 := fk BK295 hb; replace HB := fB HB hb; clear hb))
 go_ret2
 exact finE
theorem bIcanonical.calls (a0 : ByteArray) (r : Bool) (w : World) (h : bIcanonical.f a0 = some r) :
  Calls Tryz.prog 120 #[.string a0] w fun e w' => e = .returned (.bool r) ∧ Below w.heap.size w w' := by
 have HB := Z0.mk (Below.refl w.heap.size w)
 have H := h
 clear h
 unfold bIcanonical.f at H
 obtain ⟨⟨t102, t103⟩, A2, H⟩ := bnd H
 try dsimp only at H
 rcases je H with ⟨-, c3b0, c3b1, H⟩ | ⟨c3, c3b0, c3b1, H⟩
 ·obtain rfl := Option.some.inj H
  go_enter Tryz.func120, Tryz.ntmps120
  go_wp2_with (first | ((with_reducible refine gc_ 159 rfl ?_); refine goB (some 7) Tryz.func159 #[.string a0, .string (⟨#[45]⟩ : ByteArray)] bq (strings_CutPrefix.calls a0 (⟨#[45]⟩ : ByteArray) t102 t103 _ A2.out) ?_; clear HB; intro w4 HB))
  go_ret
  exact finE
 rcases je H with ⟨-, c5b0, c5b1, H⟩ | ⟨c5, c5b0, c5b1, H⟩
 ·obtain rfl := Option.some.inj H
  go_enter Tryz.func120, Tryz.ntmps120
  go_wp2_with (first | ((with_reducible refine gc_ 159 rfl ?_); refine goB (some 7) Tryz.func159 #[.string a0, .string (⟨#[45]⟩ : ByteArray)] bq (strings_CutPrefix.calls a0 (⟨#[45]⟩ : ByteArray) t102 t103 _ A2.out) ?_; clear HB; intro w6 HB))
  go_ret
  exact finE
 obtain ⟨c7, c7b0, H⟩ := gd H
 have c7b1 : decide (0 < t102.size) = true := decide_eq_true (by omega)
 clear c7
 rcases je H with ⟨-, c9b0, c9b1, H⟩ | ⟨c9, c9b0, c9b1, H⟩
 ·obtain rfl := Option.some.inj H
  go_enter Tryz.func120, Tryz.ntmps120
  go_wp2_with (first | ((with_reducible refine gc_ 159 rfl ?_); refine gL 7 Tryz.func159 (strings_CutPrefix.calls _ _ _ _ _ A2.out) ?_; rintro _ w10 ⟨rfl, hb⟩; refine ⟨_, rfl, ?_⟩; replace HB := fB HB hb; clear hb; have p8 : 0 ≤ (0 : Int) := (by omega); have q8 : 0 < t102.size := (by have : (0 : Int) < (t102.size : Int) := od; omega); have hx8 : ∀ h : 0 < t102.size, ((t102[0]'h).toNat : Int) = bt t102 0 := bt_at t102 0; clear p8; have qi8 : (0 < (t102.size : Int)) = True := eq_true od; replace q8 := eq_true q8))
  go_ret
  exact finE
 obtain ⟨t104, A11, H⟩ := bnd H
 obtain rfl := Option.some.inj H
 go_enter Tryz.func120, Tryz.ntmps120
 go_wp2_with (first | ((with_reducible refine gc_ 159 rfl ?_); refine gL 7 Tryz.func159 (strings_CutPrefix.calls _ _ _ _ _ A2.out) ?_; rintro _ w12 ⟨rfl, hb⟩; refine ⟨_, rfl, ?_⟩; replace HB := fB HB hb; clear hb; have p8 : 0 ≤ (0 : Int) := (by omega); have q8 : 0 < t102.size := (by have : (0 : Int) < (t102.size : Int) := od; omega); have hx8 : ∀ h : 0 < t102.size, ((t102[0]'h).toNat : Int) = bt t102 0 := bt_at t102 0; clear p8; have qi8 : (0 < (t102.size : Int)) = True := eq_true od; replace q8 := eq_true q8) | (go_at_call 160; (with_reducible refine (strings_Trim.calls t102 (⟨#[48, 49, 50, 51, 52, 53, 54, 55, 56, 57]⟩ : ByteArray) t104 _ A11.out).mono ?_); rintro e w13 ⟨rfl, hb⟩; replace HB := fB HB hb; clear hb))
 go_ret
 exact finE
theorem stringslite_HasPrefix.calls (a0 : ByteArray) (a1 : ByteArray) (r : Bool) (w : World) (h : stringslite_HasPrefix.f a0 a1 = some r) :
  Calls Tryz.prog 179 #[.string a0, .string a1] w fun e w' => e = .returned (.bool r) ∧ Drawn0 w w' := by
 have H := h
 clear h
 unfold stringslite_HasPrefix.f at H
 rcases jh H with ⟨c3, c3b0, H⟩ | ⟨c3, c3b0, H⟩
 ·have c3b1 : decide (a1.size ≤ a0.size) = true := decide_eq_true (Int.ofNat_le.mp c3)
  clear c3
  obtain ⟨-, c4b0, c4b1, H⟩ := gt H
  obtain ⟨-, c5b0, c5b1, H⟩ := gt H
  obtain rfl := Option.some.inj H
  go_enter Tryz.func179, Tryz.ntmps179
  go_wp2
  go_ret
  exact finD
 have c3b1 : decide (a1.size ≤ a0.size) = false := decide_eq_false (fun h => c3 (Int.ofNat_le.mpr h))
 clear c3
 obtain rfl := Option.some.inj H
 go_enter Tryz.func179, Tryz.ntmps179
 go_wp2
 go_ret
 exact finD
theorem stringslite_TrimPrefix.calls (a0 : ByteArray) (a1 : ByteArray) (r : ByteArray) (w : World) (h : stringslite_TrimPrefix.f a0 a1 = some r) :
  Calls Tryz.prog 149 #[.string a0, .string a1] w fun e w' => e = .returned (.string r) ∧ Drawn0 w w' := by
 have H := h
 clear h
 unfold stringslite_TrimPrefix.f at H
 obtain ⟨t105, A3, H⟩ := bnd H
 by_cases c4 : t105 = true
 ·subst c4
  have H1 : (if 0 ≤ (a1.size : Int) then (if (a1.size : Int) ≤ (a0.size : Int) then (some (a0.extract ((a1.size : Int) : Int).toNat a0.size)) else (none)) else (none)) = some r := by rw [if_pos rfl] at H; exact H
  clear H
  have H := H1
  clear H1
  obtain ⟨-, c5b0, c5b1, H⟩ := gt H
  obtain ⟨-, c6b0, c6b1, H⟩ := gt H
  obtain rfl := Option.some.inj H
  go_enter Tryz.func149, Tryz.ntmps149
  go_wp2_with (first | ((with_reducible refine gc_ 179 rfl ?_); refine goD (some 7) Tryz.func179 #[.string a0, .string a1] (stringslite_HasPrefix.calls a0 a1 true _ A3.out) ?_; intro nd))
  go_ret
  exact finD
 replace c4 := Bool.eq_false_iff.mpr c4
 subst c4
 have H1 : (some a0) = some r := by rw [if_neg (show ¬ (false = true) by decide)] at H; exact H
 clear H
 have H := H1
 clear H1
 obtain rfl := Option.some.inj H
 go_enter Tryz.func149, Tryz.ntmps149
 go_wp2_with (first | ((with_reducible refine gc_ 179 rfl ?_); refine goD (some 7) Tryz.func179 #[.string a0, .string a1] (stringslite_HasPrefix.calls a0 a1 false _ A3.out) ?_; intro nd))
 go_ret
 exact finD
theorem strings_TrimPrefix.calls (a0 : ByteArray) (a1 : ByteArray) (r : ByteArray) (w : World) (h : strings_TrimPrefix.f a0 a1 = some r) :
  Calls Tryz.prog 110 #[.string a0, .string a1] w fun e w' => e = .returned (.string r) ∧ Drawn0 w w' := by
 have H := h
 clear h
 unfold strings_TrimPrefix.f at H
 obtain ⟨t106, A3, H⟩ := bnd H
 obtain rfl := Option.some.inj H
 go_enter Tryz.func110, Tryz.ntmps110
 go_wp2_with (first | ((with_reducible refine gc_ 149 rfl ?_); refine goD (some 7) Tryz.func149 #[.string a0, .string a1] (stringslite_TrimPrefix.calls a0 a1 t106 _ A3.out) ?_; intro nd))
 go_ret
 exact finD
theorem bIdigits.calls (a0 : ByteArray) (r : Int) (w : World) (h : bIdigits.f a0 = some r) :
  Calls Tryz.prog 121 #[.string a0] w fun e w' => e = .returned (.int .i64 r) ∧ Drawn0 w w' := by
 have H := h
 clear h
 unfold bIdigits.f at H
 obtain ⟨t107, A2, H⟩ := bnd H
 obtain rfl := Option.some.inj H
 go_enter Tryz.func121, Tryz.ntmps121
 go_wp2_with (first | ((with_reducible refine gc_ 110 rfl ?_); refine goD (some 4) Tryz.func110 #[.string a0, .string (⟨#[45]⟩ : ByteArray)] (strings_TrimPrefix.calls a0 (⟨#[45]⟩ : ByteArray) t107 _ A2.out) ?_; intro nd))
 go_ret
 exact finD
theorem bICheck.calls (a0 : ByteArray) (r : Int) (w : World) (h : bICheck.f a0 = some r) :
  Calls Tryz.prog 83 #[.string a0] w fun e w' => e = .returned (.int .i64 r) ∧ Below w.heap.size w w' := by
 have HB := Z0.mk (Below.refl w.heap.size w)
 have H := h
 clear h
 unfold bICheck.f at H
 obtain ⟨t108, A2, H⟩ := bnd H
 by_cases c3 : t108 = true
 ·subst c3
  have H1 : ((bIdigits.f a0).bind fun t109 => (if t109 > 4096 then (some 10) else (some 0))) = some r := by rw [if_pos rfl] at H; exact H
  clear H
  have H := H1
  clear H1
  obtain ⟨t109, A4, H⟩ := bnd H
  rcases jg H with ⟨-, c5b0, H⟩ | ⟨-, c5b0, H⟩
  ·obtain rfl := Option.some.inj H
   go_enter Tryz.func83, Tryz.ntmps83
   go_wp2_with (first | ((with_reducible refine gc_ 120 rfl ?_); refine goB (some 5) Tryz.func120 #[.string a0] bq (bIcanonical.calls a0 true _ A2.out) ?_; clear HB; intro w6 HB) | ((with_reducible refine gc_ 121 rfl ?_); refine goD (some 9) Tryz.func121 #[.string a0] (bIdigits.calls a0 t109 _ A4.out) ?_; intro nd))
   go_ret
   exact finE
  obtain rfl := Option.some.inj H
  go_enter Tryz.func83, Tryz.ntmps83
  go_wp2_with (first | ((with_reducible refine gc_ 120 rfl ?_); refine goB (some 5) Tryz.func120 #[.string a0] bq (bIcanonical.calls a0 true _ A2.out) ?_; clear HB; intro w7 HB) | ((with_reducible refine gc_ 121 rfl ?_); refine goD (some 9) Tryz.func121 #[.string a0] (bIdigits.calls a0 t109 _ A4.out) ?_; intro nd))
  go_ret
  exact finE
 replace c3 := Bool.eq_false_iff.mpr c3
 subst c3
 have H1 : (some 3) = some r := by rw [if_neg (show ¬ (false = true) by decide)] at H; exact H
 clear H
 have H := H1
 clear H1
 obtain rfl := Option.some.inj H
 go_enter Tryz.func83, Tryz.ntmps83
 go_wp2_with (first | ((with_reducible refine gc_ 120 rfl ?_); refine goB (some 5) Tryz.func120 #[.string a0] bq (bIcanonical.calls a0 false _ A2.out) ?_; clear HB; intro w8 HB))
 go_ret
 exact finE
theorem bItrim.calls (k : Nat) (P0_ : Nat → Prop) (u9000_ : Value) (l0 : List Int) (r : List Int) (w0 w : World) (hB : Below w0.heap.size w0 w) (ho0 : Kd.R (Kd.int .i64) 3 w w0.heap.size P0_ u9000_ l0) (h : bItrim.f k l0 = some r) :
  Calls Tryz.prog 147 #[u9000_] w fun e w' => ∃ v0_ : Value, e = .returned (v0_) ∧ Kd.R (Kd.int .i64) 3 w' w0.heap.size (fun k_ => (P0_ k_ ∨ w.heap.size ≤ k_)) v0_ r ∧ Below w0.heap.size w0 w' ∧ Kept w w' (fun k_ => P0_ k_) := by
 have HO0 := Z0.mk (show Kd.R (Kd.int .i64) 3 w w0.heap.size (fun k_ => (P0_ k_ ∨ w.heap.size ≤ k_)) u9000_ l0 from Kd.R_mono ho0 (fun k_ hk => (.inl hk)))
 have HK := Z0.mk (Kept.refl w (fun k_ => P0_ k_))
 have HW0 := Z0.mk hB.size
 have HB := Z0.mk hB
 clear hB
 have H := h
 clear h
 unfold bItrim.f at H
 have H' := Z0.mk H
 clear H
 go_enter Tryz.func147, Tryz.ntmps147
 go_wp2
 go_loopg [0] k (fun kq v0 w' => ∃ (x0_1 : List Int), Z0 (bItrim.l0 kq x0_1 = some r) ∧ Z0 (kq ≤ k) ∧ Z0 (Kd.R (Kd.int .i64) 3 w' w0.heap.size (fun k_ => (P0_ k_ ∨ w.heap.size ≤ k_)) v0 x0_1) ∧ Z0 (Kept w w' (fun k_ => P0_ k_)) ∧ Z0 (Below w0.heap.size w0 w'))
 case atStart => exact ⟨(l0), H', ⟨Nat.le_refl _⟩, ⟨rq HO0⟩, ⟨kqs⟩, ⟨bqs⟩⟩
 case round =>
  clear H'
  try clear c1
  obtain ⟨x0_1, HA, HK1, HO_0, HK, HB⟩ := hrel
  cases gk with
  | zero => exact absurd HA.out (by simp [bItrim.l0])
  | succ k1 =>
   have H := HA.out
   clear HA
   simp only [bItrim.l0] at H
   rcases jg H with ⟨c2, c2b0, H⟩ | ⟨c2, c2b0, H⟩
   ·have c2b1 : decide (0 < x0_1.length) = true := decide_eq_true (by omega)
    clear c2
    obtain ⟨ji3, hji3⟩ : ∃ j_ : Int, (wrap64 ((x0_1.length : Int) - 1)) = j_ := ⟨_, rfl⟩
    replace H : (if 0 ≤ (ji3) then (if (ji3) < (x0_1.length : Int) then (if (rd x0_1 (ji3)) = 0 then (if (ji3) ≤ (x0_1.length : Int) then (bItrim.l0 k1 (x0_1.take ((ji3) : Int).toNat)) else (none)) else (some x0_1)) else (none)) else (none)) = some r := by first | (rw [hji3] at H; exact H) | (simp only [hji3] at H ⊢; exact H)
    have hji3w : (IntKind.i64.wrap ((x0_1.length : Int) - 1)) = ji3 := (i64_w _).trans hji3
    obtain ⟨-, c4b0, H⟩ := gd H
    obtain ⟨-, c5b0, H⟩ := gd H
    rcases je H with ⟨-, c6b0, c6b1, H⟩ | ⟨c6, c6b0, c6b1, H⟩
    ·obtain ⟨-, c7b0, c7b1, H⟩ := gt H
     generalize hy112 : (x0_1.take ((ji3) : Int).toNat : List Int) = y112 at H
     have Ny112 := Z0.mk hy112.symm
     clear hy112
     have H' := Z0.mk H
     clear H
     obtain ⟨Ao8, co8, eo8⟩ := Kd.R_slice HO_0.out
     subst eo8
     obtain ⟨ad111, e111, hx111_0, p111, q111⟩ := atI (Kd.R_reads' HO_0.out).2.2 (ji3)
     cases e111
     have q9 : ((ji3) : Int) ≤ ((x0_1.length : Int) : Int) := od
     obtain ⟨i09, hi09, _, hsz9, _⟩ := info_parts info3
     have hcut9 := cut_to (P := Tryz.prog) 86 3 .i64 Tryz.underlying86 hi09 (some ad111) x0_1.length co8 (ji3) od q9 (Kd.R_reads' HO_0.out).2.1
     have hr9 := Kd.R_take (m := ((ji3) : Int).toNat) HO_0.out (by omega)
     have hy9 : y112.length = ((ji3) : Int).toNat := (by rw [Ny112.out, List.length_take]; omega)
     rw [← Ny112.out] at hr9
     rw [← hy9] at hr9 hcut9
     clear hy9 hi09 hsz9 HO_0
     have HO114 := Z0.mk hr9
     clear hr9
     replace q9 := eq_true q9
     go_wp2
     go_roundg k1
     case measure => have := HK1.out; omega
     case rel => exact ⟨(y112), H', ⟨by have := HK1.out; omega⟩, ⟨rq HO114⟩, ⟨kqs⟩, ⟨bqs⟩⟩
    obtain rfl := Option.some.inj H
    obtain ⟨Ao10, co10, eo10⟩ := Kd.R_slice HO_0.out
    subst eo10
    obtain ⟨ad111, e111, hx111_0, p111, q111⟩ := atI (Kd.R_reads' HO_0.out).2.2 (ji3)
    cases e111
    go_wp2
    go_ret
    exact ⟨_, by first | rfl | (simp [errW_none, errW_some] <;> rfl) | (simp only [← hji3]; first | rfl | (simp [errW_none, errW_some] <;> rfl)) | (simp [*, errW_none, errW_some] <;> rfl), rq HO_0, bqs, kqs⟩
   have c2b1 : decide (0 < x0_1.length) = false := decide_eq_false (by omega)
   clear c2
   obtain rfl := Option.some.inj H
   obtain ⟨Ao11, co11, eo11⟩ := Kd.R_slice HO_0.out
   subst eo11
   go_wp2
   go_ret
   exact ⟨_, fe, rq HO_0, bqs, kqs⟩
end Go.Proofs.YthnfajboebaajaaGreatDoor.PA
namespace Go.Proofs.YthnfajboebaajaaGreatDoor
set_option linter.unusedVariables false
open Go.RowKit Go.Shelf Go.Proofs.WWords Go.Proofs.WLast Go.Proofs.WMore PA
set_option linter.unusedSimpArgs false
theorem chunks_calls (a0 : ByteArray) (w : World) :
    Calls Tryz.prog 162 #[.string a0] w fun e w' => ∃ g, e = .returned (.func (.func 193) #[] #[.pointer (some ⟨g, 0, none⟩)]) ∧ Boxed w' g 9 (.string a0) ∧ Below w.heap.size w w' := by
 go_enter Tryz.func162, Tryz.ntmps162
 go_wp2
 go_ret
 exact ⟨w.heap.size, rfl, Boxed.new _ _ _, (Below.refl _ w).alloc (Nat.le_refl _) _⟩
theorem slices_Collect_int.calls (a0 : ByteArray) (r : List Int) (g : Nat) (w : World) (hb : Boxed w g 9 (.string a0)) (h : slices_Collect_int.f a0 = some r) :
    Calls Tryz.prog 161 #[.func (.func 193) #[] #[.pointer (some ⟨g, 0, none⟩)]] w fun e w' => ∃ v0_ : Value, e = .returned (v0_) ∧ Kd.R (Kd.int .i64) 3 w' w.heap.size (fun _ => True) v0_ r ∧ Below w.heap.size w w' := by
 unfold slices_Collect_int.f at h
 split at h
 ·rename_i hc
  obtain rfl := Option.some.inj h
  clear h
  go_enter Tryz.func161, Tryz.ntmps161
  go_wp2_with ((with_reducible refine gc_ 192 rfl ?_); refine goesL_ (some 4) rfl rfl Tryz.func192 (by kernel_rfl) rfl #[.slice none 0 0, .func (.func 193) #[] #[.pointer (some ⟨g, 0, none⟩)]] rfl (by (try simp only [List.map_toArray, List.map_cons, List.map_nil]); first | done | rfl) ?_
               refine (callsIn_wide.1 (append_in 3 (by omega) g a0 ((a0.size + 8) / 9) (by omega) (by omega) hc.1 hc.2 w hb)).mono ?_
               rintro e w' ⟨v, rfl, hr, hB⟩; refine ⟨_, rfl, ?_⟩)
  go_ret
  refine ⟨_, rfl, Kd.R_of_own (enc := .int .i64) ?_ (fun _ _ => trivial), hB⟩
  rw [gk_length]
  exact hr
 cases h
theorem bIread.calls (k : Nat) (a0 : ByteArray) (r1 : Bool) (r2 : List Int) (w : World) (h : bIread.f k a0 = some (r1, r2)) :
    Calls Tryz.prog 123 #[.string a0] w fun e w' => ∃ v1_ : Value, e = .returned (.agg #[.bool r1, v1_]) ∧ Kd.R (Kd.int .i64) 3 w' w.heap.size (fun _ => True) v1_ r2 ∧ Below w.heap.size w w' := by
 have hu88 := Tryz.underlying88
 have HB := Z0.mk (Below.refl w.heap.size w)
 have H := h
 clear h
 unfold bIread.f at H
 obtain ⟨⟨t116, t117⟩, A2, H⟩ := bnd H
 try dsimp only at H
 obtain ⟨t118, A3, H⟩ := bnd H
 obtain ⟨t121, A4, H⟩ := bnd H
 simp only [Option.some.injEq, Prod.mk.injEq] at H
 obtain ⟨rfl, rfl⟩ := H
 go_enter Tryz.func123, Tryz.ntmps123
 go_wp2_with (first | ((with_reducible refine gd_ 2 rfl ?_); refine bxE 2 #[.bool false, .slice none 0 0] 88 ?_; intro gb115 hg w5 hbox hb; have BK115 := Z0.mk hbox; have GW115 := fE HB hg; have GE115 := fE HB hg; replace HB := fB HB hb; clear hb hbox hg) | ((with_reducible refine gc_ 159 rfl ?_); refine gL 7 Tryz.func159 (strings_CutPrefix.calls _ _ _ _ _ A2.out) ?_; rintro _ w6 ⟨rfl, hb⟩; refine ⟨_, rfl, ?_⟩; replace BK115 := fk BK115 hb; replace HB := fB HB hb; clear hb) | ((with_reducible refine gc_ 162 rfl ?_); refine goesL_ (some 12) rfl rfl Tryz.func162 (by kernel_rfl) rfl #[.string t116] rfl (by (try simp only [List.map_toArray, List.map_cons, List.map_nil]); first | done | rfl) ?_; (with_reducible refine (chunks_calls t116 _).mono ?_); rintro e w6b ⟨gq, rfl, hbq, hb⟩; refine ⟨_, rfl, ?_⟩; replace BK115 := fk BK115 hb; replace HB := fB HB hb; have HBQ := Z0.mk hbq; clear hb hbq) | ((with_reducible refine gc_ 161 rfl ?_); refine gL 13 Tryz.func161 (slices_Collect_int.calls _ _ _ _ HBQ.out A3.out) ?_; rintro _ w7 ⟨v119, rfl, ho0, hb⟩; refine ⟨_, rfl, ?_⟩; have HO120 := fN ho0; replace BK115 := fk BK115 hb; replace HB := fB HB hb; clear hb ho0; obtain ⟨Ao8, co8, eo8⟩ := Kd.R_slice HO120.out; subst eo8) | ((with_reducible refine gc_ 147 rfl ?_); refine gL 14 Tryz.func147 (bItrim.calls k (fun k_ => some k_ = (.slice Ao8 t118.length co8 : Value).ownBlock) (.slice Ao8 t118.length co8) t118 t121 w _ ?side1 ?side2 A4.out) ?_; (case side1 => repeat (first | (with_reducible first | exact HB.out | apply below_alloc | apply pw_below_drewN | apply below_drew1 | refine below_set ?_ GE115.out) | exact HB.out)); (case side2 => exact Kd.R_tight rfl HO120.out); rintro _ w9 ⟨v122, rfl, ho0, hb, hkp⟩; refine ⟨_, rfl, ?_⟩; have HO123 := Z0.mk (Kd.R_mono (ok' := fun k_ => True) ho0 (fun k_ hk_ => trivial)); replace BK115 := Z0.mk (blk_kept (hq BK115) hkp (fun hs_ => (fun e_ => (Kd.R_ne HO120.out BK115.out (by decide)) e_) hs_)); replace HB := Z0.mk (hb); clear HO120; clear hb hkp ho0; obtain ⟨Ao10, co10, eo10⟩ := Kd.R_slice HO123.out; subst eo10; obtain ⟨hcz11_0, hcz11_1, hfz11_0, hfz11_1⟩ := b2 BK115))
 refine bodyPost_ret (results_cell_row rfl _ _ gb115 88 #[.bool t117, .slice Ao10 t121.length co10] (0, 0) _ rfl (by (with_reducible repeat (first | refine blk_drewN ?_ _ | refine blk_drew ?_ | refine blk_alloc ?_ _)); refine blk_put (cs := #[.bool t117, .slice none 0 0]) ?_ 1 _ rfl; (with_reducible repeat (first | refine blk_drewN ?_ _ | refine blk_drew ?_ | refine blk_alloc ?_ _)); refine blk_put (cs := #[.bool false, .slice none 0 0]) ?_ 0 _ rfl; (with_reducible repeat (first | refine blk_drewN ?_ _ | refine blk_drew ?_ | refine blk_alloc ?_ _)); exact BK115.out) Tryz.underlying88 rfl (by kernel_rfl)) rfl ?_
 exact ⟨_, fe, by (with_reducible repeat (first | apply Kd.R_alloc | apply Kd.R_drewN | apply Kd.R_drew)); exact Kd.R_mono (Kd.R_far (p := ⟨gb115, 1, none⟩) (Kd.R_far (p := ⟨gb115, 0, none⟩) (Kd.R_types HO123.out BK115.out (by decide)) (fun _ hk => hk.2) (.bool t117)) (fun _ hk => hk.2) (.slice Ao10 t121.length co10)) (fun _ hk => trivial), bqs⟩
theorem at45_0 (x y : ByteArray) (w : World) : (Instr.index 45 (.agg #[.string x, .string y]) (.int .i64 0)).run Tryz.prog w = .ok (.string x) w := by kernel_rfl
theorem at45_1 (x y : ByteArray) (w : World) : (Instr.index 45 (.agg #[.string x, .string y]) (.int .i64 1)).run Tryz.prog w = .ok (.string y) w := by kernel_rfl
attribute [local go_sem] at45_0 at45_1
theorem bIpair.calls (k : Nat) (a0 : ByteArray) (a1 : ByteArray) (r1 : Bool) (r2 : List Int) (r3 : Bool) (r4 : List Int) (r5 : Int) (w : World) (h : bIpair.f k a0 a1 = some (r1, r2, r3, r4, r5)) :
  Calls Tryz.prog 86 #[.string a0, .string a1] w fun e w' => ∃ v1_ v3_ : Value, e = .returned (.tuple #[.agg #[.bool r1, v1_], .agg #[.bool r3, v3_], .int .i64 r5]) ∧ Kd.R (Kd.int .i64) 3 w' w.heap.size (fun k_ => some k_ ≠ (v3_ : Value).ownBlock) v1_ r2 ∧ Kd.R (Kd.int .i64) 3 w' w.heap.size (fun k_ => some k_ ≠ (v1_ : Value).ownBlock) v3_ r4 ∧ Below w.heap.size w w' := by
 have hu88 := Tryz.underlying88
 have hu45 := Tryz.underlying45
 have hz45 := run_underlying (P := Tryz.prog) Tryz.underlying45
 have HB := Z0.mk (Below.refl w.heap.size w)
 have H := h
 clear h
 unfold bIpair.f at H
 obtain ⟨t113, A3, H⟩ := bnd H
 rcases je H with ⟨-, c4b0, c4b1, H⟩ | ⟨c4, c4b0, c4b1, H⟩
 ·obtain ⟨t114, A5, H⟩ := bnd H
  rcases je H with ⟨-, c6b0, c6b1, H⟩ | ⟨c6, c6b0, c6b1, H⟩
  ·obtain ⟨⟨t115, t116⟩, A7, H⟩ := bnd H
   try dsimp only at H
   obtain ⟨⟨t119, t120⟩, A8, H⟩ := bnd H
   try dsimp only at H
   simp only [Option.some.injEq, Prod.mk.injEq] at H
   obtain ⟨rfl, rfl, rfl, rfl, rfl⟩ := H
   go_enter Tryz.func86, Tryz.ntmps86
   go_wp2_with (first | ((with_reducible refine gd_ 4 rfl ?_); refine bxE 4 #[.bool false, .slice none 0 0] 88 ?_; intro gb111 hg w9 hbox hb; have BK111 := Z0.mk hbox; have GW111 := fE HB hg; have GE111 := fE HB hg; replace HB := fB HB hb; clear hb hbox hg) | ((with_reducible refine gd_ 5 rfl ?_); refine bxE 5 #[.bool false, .slice none 0 0] 88 ?_; intro gb112 hg w10 hbox hb; have BK112 := Z0.mk hbox; have GW112 := fE HB hg; have GE112 := fE HB hg; have NB111_112 := fl BK111 hg; have NB112_111 := fg BK111 hg; replace BK111 := fk BK111 hb; replace HB := fB HB hb; clear hb hbox hg) | ((with_reducible refine gc_ 83 rfl ?_); refine gL 17 Tryz.func83 (bICheck.calls _ _ _ A3.out) ?_; rintro _ w11 ⟨rfl, hb⟩; refine ⟨_, rfl, ?_⟩; replace BK111 := fk BK111 hb; replace BK112 := fk BK112 hb; replace HB := fB HB hb; clear hb) | ((with_reducible refine gc_ 83 rfl ?_); refine gL 17 Tryz.func83 (bICheck.calls _ _ _ A5.out) ?_; rintro _ w12 ⟨rfl, hb⟩; refine ⟨_, rfl, ?_⟩; replace BK111 := fk BK111 hb; replace BK112 := fk BK112 hb; replace HB := fB HB hb; clear hb) | ((with_reducible refine gc_ 123 rfl ?_); refine gL 25 Tryz.func123 (bIread.calls _ _ _ _ _ A7.out) ?_; rintro _ w13 ⟨v117, rfl, ho0, hb⟩; refine ⟨_, rfl, ?_⟩; have HO118 := fN ho0; replace BK111 := fk BK111 hb; replace BK112 := fk BK112 hb; replace HB := fB HB hb; clear hb ho0) | ((with_reducible refine gc_ 123 rfl ?_); refine gL 27 Tryz.func123 (bIread.calls _ _ _ _ _ A8.out) ?_; rintro _ w14 ⟨v121, rfl, ho0, hb⟩; refine ⟨_, rfl, ?_⟩; have HO122 := Z0.mk (Kd.R_lower (Kd.R_new' ho0 (Kd.R_lt (rq HO118))) (below_size bqs)); replace HO118 := Z0.mk (Kd.R_elder' (rq HO118) (Kd.R_base ho0) hb); replace BK111 := fk BK111 hb; replace BK112 := fk BK112 hb; replace HB := fB HB hb; clear hb ho0; have hnb15 := NB111_112.out; have hnc15 := NB112_111.out; obtain ⟨hcz16_0, hcz16_1, hfz16_0, hfz16_1⟩ := b2 BK111; obtain ⟨Ao17, co17, eo17⟩ := Kd.R_slice HO118.out; subst eo17; obtain ⟨hcz18_0, hcz18_1, hfz18_0, hfz18_1⟩ := b2 BK112; obtain ⟨Ao19, co19, eo19⟩ := Kd.R_slice HO122.out; subst eo19))
   refine wp_loop_rounds 3 ?_
   rw [rounds_succ]
   go_wp2_with (first | ((with_reducible refine gd_ 4 rfl ?_); refine bxE 4 #[.bool false, .slice none 0 0] 88 ?_; intro gb111 hg w9 hbox hb; have BK111 := Z0.mk hbox; have GW111 := fE HB hg; have GE111 := fE HB hg; replace HB := fB HB hb; clear hb hbox hg) | ((with_reducible refine gd_ 5 rfl ?_); refine bxE 5 #[.bool false, .slice none 0 0] 88 ?_; intro gb112 hg w10 hbox hb; have BK112 := Z0.mk hbox; have GW112 := fE HB hg; have GE112 := fE HB hg; have NB111_112 := fl BK111 hg; have NB112_111 := fg BK111 hg; replace BK111 := fk BK111 hb; replace HB := fB HB hb; clear hb hbox hg) | ((with_reducible refine gc_ 83 rfl ?_); refine gL 17 Tryz.func83 (bICheck.calls _ _ _ A3.out) ?_; rintro _ w11 ⟨rfl, hb⟩; refine ⟨_, rfl, ?_⟩; replace BK111 := fk BK111 hb; replace BK112 := fk BK112 hb; replace HB := fB HB hb; clear hb) | ((with_reducible refine gc_ 83 rfl ?_); refine gL 17 Tryz.func83 (bICheck.calls _ _ _ A5.out) ?_; rintro _ w12 ⟨rfl, hb⟩; refine ⟨_, rfl, ?_⟩; replace BK111 := fk BK111 hb; replace BK112 := fk BK112 hb; replace HB := fB HB hb; clear hb) | ((with_reducible refine gc_ 123 rfl ?_); refine gL 25 Tryz.func123 (bIread.calls _ _ _ _ _ A7.out) ?_; rintro _ w13 ⟨v117, rfl, ho0, hb⟩; refine ⟨_, rfl, ?_⟩; have HO118 := fN ho0; replace BK111 := fk BK111 hb; replace BK112 := fk BK112 hb; replace HB := fB HB hb; clear hb ho0) | ((with_reducible refine gc_ 123 rfl ?_); refine gL 27 Tryz.func123 (bIread.calls _ _ _ _ _ A8.out) ?_; rintro _ w14 ⟨v121, rfl, ho0, hb⟩; refine ⟨_, rfl, ?_⟩; have HO122 := Z0.mk (Kd.R_lower (Kd.R_new' ho0 (Kd.R_lt (rq HO118))) (below_size bqs)); replace HO118 := Z0.mk (Kd.R_elder' (rq HO118) (Kd.R_base ho0) hb); replace BK111 := fk BK111 hb; replace BK112 := fk BK112 hb; replace HB := fB HB hb; clear hb ho0; have hnb15 := NB111_112.out; have hnc15 := NB112_111.out; obtain ⟨hcz16_0, hcz16_1, hfz16_0, hfz16_1⟩ := b2 BK111; obtain ⟨Ao17, co17, eo17⟩ := Kd.R_slice HO118.out; subst eo17; obtain ⟨hcz18_0, hcz18_1, hfz18_0, hfz18_1⟩ := b2 BK112; obtain ⟨Ao19, co19, eo19⟩ := Kd.R_slice HO122.out; subst eo19))
   rw [rounds_succ]
   go_wp2_with (first | ((with_reducible refine gd_ 4 rfl ?_); refine bxE 4 #[.bool false, .slice none 0 0] 88 ?_; intro gb111 hg w9 hbox hb; have BK111 := Z0.mk hbox; have GW111 := fE HB hg; have GE111 := fE HB hg; replace HB := fB HB hb; clear hb hbox hg) | ((with_reducible refine gd_ 5 rfl ?_); refine bxE 5 #[.bool false, .slice none 0 0] 88 ?_; intro gb112 hg w10 hbox hb; have BK112 := Z0.mk hbox; have GW112 := fE HB hg; have GE112 := fE HB hg; have NB111_112 := fl BK111 hg; have NB112_111 := fg BK111 hg; replace BK111 := fk BK111 hb; replace HB := fB HB hb; clear hb hbox hg) | ((with_reducible refine gc_ 83 rfl ?_); refine gL 17 Tryz.func83 (bICheck.calls _ _ _ A3.out) ?_; rintro _ w11 ⟨rfl, hb⟩; refine ⟨_, rfl, ?_⟩; replace BK111 := fk BK111 hb; replace BK112 := fk BK112 hb; replace HB := fB HB hb; clear hb) | ((with_reducible refine gc_ 83 rfl ?_); refine gL 17 Tryz.func83 (bICheck.calls _ _ _ A5.out) ?_; rintro _ w12 ⟨rfl, hb⟩; refine ⟨_, rfl, ?_⟩; replace BK111 := fk BK111 hb; replace BK112 := fk BK112 hb; replace HB := fB HB hb; clear hb) | ((with_reducible refine gc_ 123 rfl ?_); refine gL 25 Tryz.func123 (bIread.calls _ _ _ _ _ A7.out) ?_; rintro _ w13 ⟨v117, rfl, ho0, hb⟩; refine ⟨_, rfl, ?_⟩; have HO118 := fN ho0; replace BK111 := fk BK111 hb; replace BK112 := fk BK112 hb; replace HB := fB HB hb; clear hb ho0) | ((with_reducible refine gc_ 123 rfl ?_); refine gL 27 Tryz.func123 (bIread.calls _ _ _ _ _ A8.out) ?_; rintro _ w14 ⟨v121, rfl, ho0, hb⟩; refine ⟨_, rfl, ?_⟩; have HO122 := Z0.mk (Kd.R_lower (Kd.R_new' ho0 (Kd.R_lt (rq HO118))) (below_size bqs)); replace HO118 := Z0.mk (Kd.R_elder' (rq HO118) (Kd.R_base ho0) hb); replace BK111 := fk BK111 hb; replace BK112 := fk BK112 hb; replace HB := fB HB hb; clear hb ho0; have hnb15 := NB111_112.out; have hnc15 := NB112_111.out; obtain ⟨hcz16_0, hcz16_1, hfz16_0, hfz16_1⟩ := b2 BK111; obtain ⟨Ao17, co17, eo17⟩ := Kd.R_slice HO118.out; subst eo17; obtain ⟨hcz18_0, hcz18_1, hfz18_0, hfz18_1⟩ := b2 BK112; obtain ⟨Ao19, co19, eo19⟩ := Kd.R_slice HO122.out; subst eo19))
   rw [rounds_succ]
   go_wp2_with (first | ((with_reducible refine gd_ 4 rfl ?_); refine bxE 4 #[.bool false, .slice none 0 0] 88 ?_; intro gb111 hg w9 hbox hb; have BK111 := Z0.mk hbox; have GW111 := fE HB hg; have GE111 := fE HB hg; replace HB := fB HB hb; clear hb hbox hg) | ((with_reducible refine gd_ 5 rfl ?_); refine bxE 5 #[.bool false, .slice none 0 0] 88 ?_; intro gb112 hg w10 hbox hb; have BK112 := Z0.mk hbox; have GW112 := fE HB hg; have GE112 := fE HB hg; have NB111_112 := fl BK111 hg; have NB112_111 := fg BK111 hg; replace BK111 := fk BK111 hb; replace HB := fB HB hb; clear hb hbox hg) | ((with_reducible refine gc_ 83 rfl ?_); refine gL 17 Tryz.func83 (bICheck.calls _ _ _ A3.out) ?_; rintro _ w11 ⟨rfl, hb⟩; refine ⟨_, rfl, ?_⟩; replace BK111 := fk BK111 hb; replace BK112 := fk BK112 hb; replace HB := fB HB hb; clear hb) | ((with_reducible refine gc_ 83 rfl ?_); refine gL 17 Tryz.func83 (bICheck.calls _ _ _ A5.out) ?_; rintro _ w12 ⟨rfl, hb⟩; refine ⟨_, rfl, ?_⟩; replace BK111 := fk BK111 hb; replace BK112 := fk BK112 hb; replace HB := fB HB hb; clear hb) | ((with_reducible refine gc_ 123 rfl ?_); refine gL 25 Tryz.func123 (bIread.calls _ _ _ _ _ A7.out) ?_; rintro _ w13 ⟨v117, rfl, ho0, hb⟩; refine ⟨_, rfl, ?_⟩; have HO118 := fN ho0; replace BK111 := fk BK111 hb; replace BK112 := fk BK112 hb; replace HB := fB HB hb; clear hb ho0) | ((with_reducible refine gc_ 123 rfl ?_); refine gL 27 Tryz.func123 (bIread.calls _ _ _ _ _ A8.out) ?_; rintro _ w14 ⟨v121, rfl, ho0, hb⟩; refine ⟨_, rfl, ?_⟩; have HO122 := Z0.mk (Kd.R_lower (Kd.R_new' ho0 (Kd.R_lt (rq HO118))) (below_size bqs)); replace HO118 := Z0.mk (Kd.R_elder' (rq HO118) (Kd.R_base ho0) hb); replace BK111 := fk BK111 hb; replace BK112 := fk BK112 hb; replace HB := fB HB hb; clear hb ho0; have hnb15 := NB111_112.out; have hnc15 := NB112_111.out; obtain ⟨hcz16_0, hcz16_1, hfz16_0, hfz16_1⟩ := b2 BK111; obtain ⟨Ao17, co17, eo17⟩ := Kd.R_slice HO118.out; subst eo17; obtain ⟨hcz18_0, hcz18_1, hfz18_0, hfz18_1⟩ := b2 BK112; obtain ⟨Ao19, co19, eo19⟩ := Kd.R_slice HO122.out; subst eo19))
   refine bodyPost_ret (results_list (rs := [.cell 4 88, .cell 5 88, .tmp 6]) rfl (by simp) (.cell gb111 88 #[.bool t115, .slice Ao17 t116.length co17] (0, 0) _ rfl (by (with_reducible repeat (first | refine blk_drewN ?_ _ | refine blk_drew ?_ | refine blk_alloc ?_ _)); refine blk_far ?_ NB111_112.out _; (with_reducible repeat (first | refine blk_drewN ?_ _ | refine blk_drew ?_ | refine blk_alloc ?_ _)); refine blk_far ?_ NB111_112.out _; (with_reducible repeat (first | refine blk_drewN ?_ _ | refine blk_drew ?_ | refine blk_alloc ?_ _)); refine blk_put (cs := #[.bool t115, .slice none 0 0]) ?_ 1 _ rfl; (with_reducible repeat (first | refine blk_drewN ?_ _ | refine blk_drew ?_ | refine blk_alloc ?_ _)); refine blk_put (cs := #[.bool false, .slice none 0 0]) ?_ 0 _ rfl; (with_reducible repeat (first | refine blk_drewN ?_ _ | refine blk_drew ?_ | refine blk_alloc ?_ _)); exact BK111.out) Tryz.underlying88 rfl (by kernel_rfl) (.cell gb112 88 #[.bool t119, .slice Ao19 t120.length co19] (0, 0) _ rfl (by (with_reducible repeat (first | refine blk_drewN ?_ _ | refine blk_drew ?_ | refine blk_alloc ?_ _)); refine blk_put (cs := #[.bool t119, .slice none 0 0]) ?_ 1 _ rfl; (with_reducible repeat (first | refine blk_drewN ?_ _ | refine blk_drew ?_ | refine blk_alloc ?_ _)); refine blk_put (cs := #[.bool false, .slice none 0 0]) ?_ 0 _ rfl; (with_reducible repeat (first | refine blk_drewN ?_ _ | refine blk_drew ?_ | refine blk_alloc ?_ _)); refine blk_far ?_ NB112_111.out _; (with_reducible repeat (first | refine blk_drewN ?_ _ | refine blk_drew ?_ | refine blk_alloc ?_ _)); refine blk_far ?_ NB112_111.out _; (with_reducible repeat (first | refine blk_drewN ?_ _ | refine blk_drew ?_ | refine blk_alloc ?_ _)); exact BK112.out) Tryz.underlying88 rfl (by kernel_rfl) (.tmp .nil)))) rfl ?_
   exact ⟨_, _, fe, by (with_reducible repeat (first | apply Kd.R_alloc | apply Kd.R_drewN | apply Kd.R_drew)); exact Kd.R_mono (Kd.R_far (p := ⟨gb112, 1, none⟩) (Kd.R_far (p := ⟨gb112, 0, none⟩) (Kd.R_far (p := ⟨gb111, 1, none⟩) (Kd.R_far (p := ⟨gb111, 0, none⟩) (Kd.R_types (Kd.R_types HO118.out BK111.out (by decide)) BK112.out (by decide)) (fun _ hk => hk.1.2) (.bool t115)) (fun _ hk => hk.1.2) (.slice Ao17 t116.length co17)) (fun _ hk => hk.2) (.bool t119)) (fun _ hk => hk.2) (.slice Ao19 t120.length co19)) (fun _ hk => hk.1.1.2), by (with_reducible repeat (first | apply Kd.R_alloc | apply Kd.R_drewN | apply Kd.R_drew)); exact Kd.R_mono (Kd.R_far (p := ⟨gb112, 1, none⟩) (Kd.R_far (p := ⟨gb112, 0, none⟩) (Kd.R_far (p := ⟨gb111, 1, none⟩) (Kd.R_far (p := ⟨gb111, 0, none⟩) (Kd.R_types (Kd.R_types HO122.out BK111.out (by decide)) BK112.out (by decide)) (fun _ hk => hk.1.2) (.bool t115)) (fun _ hk => hk.1.2) (.slice Ao17 t116.length co17)) (fun _ hk => hk.2) (.bool t119)) (fun _ hk => hk.2) (.slice Ao19 t120.length co19)) (fun _ hk => hk.1.1.2), bqs⟩
  simp only [Option.some.injEq, Prod.mk.injEq] at H
  obtain ⟨rfl, rfl, rfl, rfl, rfl⟩ := H
  go_enter Tryz.func86, Tryz.ntmps86
  go_wp2_with (first | ((with_reducible refine gd_ 4 rfl ?_); refine bxE 4 #[.bool false, .slice none 0 0] 88 ?_; intro gb111 hg w20 hbox hb; have BK111 := Z0.mk hbox; have GW111 := fE HB hg; have GE111 := fE HB hg; replace HB := fB HB hb; clear hb hbox hg) | ((with_reducible refine gd_ 5 rfl ?_); refine bxE 5 #[.bool false, .slice none 0 0] 88 ?_; intro gb112 hg w21 hbox hb; have BK112 := Z0.mk hbox; have GW112 := fE HB hg; have GE112 := fE HB hg; have NB111_112 := fl BK111 hg; have NB112_111 := fg BK111 hg; replace BK111 := fk BK111 hb; replace HB := fB HB hb; clear hb hbox hg) | ((with_reducible refine gc_ 83 rfl ?_); refine gL 17 Tryz.func83 (bICheck.calls _ _ _ A3.out) ?_; rintro _ w22 ⟨rfl, hb⟩; refine ⟨_, rfl, ?_⟩; replace BK111 := fk BK111 hb; replace BK112 := fk BK112 hb; replace HB := fB HB hb; clear hb) | ((with_reducible refine gc_ 83 rfl ?_); refine gL 17 Tryz.func83 (bICheck.calls _ _ _ A5.out) ?_; rintro _ w23 ⟨rfl, hb⟩; refine ⟨_, rfl, ?_⟩; replace BK111 := fk BK111 hb; replace BK112 := fk BK112 hb; replace HB := fB HB hb; clear hb; have hnb24 := NB111_112.out; have hnc24 := NB112_111.out; obtain ⟨hcz25_0, hcz25_1, hfz25_0, hfz25_1⟩ := b2 BK111; obtain ⟨hcz26_0, hcz26_1, hfz26_0, hfz26_1⟩ := b2 BK112))
  refine wp_loop_rounds 3 ?_
  rw [rounds_succ]
  go_wp2_with (first | ((with_reducible refine gd_ 4 rfl ?_); refine bxE 4 #[.bool false, .slice none 0 0] 88 ?_; intro gb111 hg w20 hbox hb; have BK111 := Z0.mk hbox; have GW111 := fE HB hg; have GE111 := fE HB hg; replace HB := fB HB hb; clear hb hbox hg) | ((with_reducible refine gd_ 5 rfl ?_); refine bxE 5 #[.bool false, .slice none 0 0] 88 ?_; intro gb112 hg w21 hbox hb; have BK112 := Z0.mk hbox; have GW112 := fE HB hg; have GE112 := fE HB hg; have NB111_112 := fl BK111 hg; have NB112_111 := fg BK111 hg; replace BK111 := fk BK111 hb; replace HB := fB HB hb; clear hb hbox hg) | ((with_reducible refine gc_ 83 rfl ?_); refine gL 17 Tryz.func83 (bICheck.calls _ _ _ A3.out) ?_; rintro _ w22 ⟨rfl, hb⟩; refine ⟨_, rfl, ?_⟩; replace BK111 := fk BK111 hb; replace BK112 := fk BK112 hb; replace HB := fB HB hb; clear hb) | ((with_reducible refine gc_ 83 rfl ?_); refine gL 17 Tryz.func83 (bICheck.calls _ _ _ A5.out) ?_; rintro _ w23 ⟨rfl, hb⟩; refine ⟨_, rfl, ?_⟩; replace BK111 := fk BK111 hb; replace BK112 := fk BK112 hb; replace HB := fB HB hb; clear hb; have hnb24 := NB111_112.out; have hnc24 := NB112_111.out; obtain ⟨hcz25_0, hcz25_1, hfz25_0, hfz25_1⟩ := b2 BK111; obtain ⟨hcz26_0, hcz26_1, hfz26_0, hfz26_1⟩ := b2 BK112))
  rw [rounds_succ]
  go_wp2_with (first | ((with_reducible refine gd_ 4 rfl ?_); refine bxE 4 #[.bool false, .slice none 0 0] 88 ?_; intro gb111 hg w20 hbox hb; have BK111 := Z0.mk hbox; have GW111 := fE HB hg; have GE111 := fE HB hg; replace HB := fB HB hb; clear hb hbox hg) | ((with_reducible refine gd_ 5 rfl ?_); refine bxE 5 #[.bool false, .slice none 0 0] 88 ?_; intro gb112 hg w21 hbox hb; have BK112 := Z0.mk hbox; have GW112 := fE HB hg; have GE112 := fE HB hg; have NB111_112 := fl BK111 hg; have NB112_111 := fg BK111 hg; replace BK111 := fk BK111 hb; replace HB := fB HB hb; clear hb hbox hg) | ((with_reducible refine gc_ 83 rfl ?_); refine gL 17 Tryz.func83 (bICheck.calls _ _ _ A3.out) ?_; rintro _ w22 ⟨rfl, hb⟩; refine ⟨_, rfl, ?_⟩; replace BK111 := fk BK111 hb; replace BK112 := fk BK112 hb; replace HB := fB HB hb; clear hb) | ((with_reducible refine gc_ 83 rfl ?_); refine gL 17 Tryz.func83 (bICheck.calls _ _ _ A5.out) ?_; rintro _ w23 ⟨rfl, hb⟩; refine ⟨_, rfl, ?_⟩; replace BK111 := fk BK111 hb; replace BK112 := fk BK112 hb; replace HB := fB HB hb; clear hb; have hnb24 := NB111_112.out; have hnc24 := NB112_111.out; obtain ⟨hcz25_0, hcz25_1, hfz25_0, hfz25_1⟩ := b2 BK111; obtain ⟨hcz26_0, hcz26_1, hfz26_0, hfz26_1⟩ := b2 BK112))
  refine bodyPost_ret (results_list (rs := [.cell 4 88, .cell 5 88, .tmp 6]) rfl (by simp) (.cell gb111 88 #[.bool false, .slice none 0 0] (0, 0) _ rfl (by (with_reducible repeat (first | refine blk_drewN ?_ _ | refine blk_drew ?_ | refine blk_alloc ?_ _)); refine blk_far ?_ NB111_112.out _; (with_reducible repeat (first | refine blk_drewN ?_ _ | refine blk_drew ?_ | refine blk_alloc ?_ _)); refine blk_far ?_ NB111_112.out _; (with_reducible repeat (first | refine blk_drewN ?_ _ | refine blk_drew ?_ | refine blk_alloc ?_ _)); refine blk_put (cs := #[.bool false, .slice none 0 0]) ?_ 1 _ rfl; (with_reducible repeat (first | refine blk_drewN ?_ _ | refine blk_drew ?_ | refine blk_alloc ?_ _)); refine blk_put (cs := #[.bool false, .slice none 0 0]) ?_ 0 _ rfl; (with_reducible repeat (first | refine blk_drewN ?_ _ | refine blk_drew ?_ | refine blk_alloc ?_ _)); exact BK111.out) Tryz.underlying88 rfl (by kernel_rfl) (.cell gb112 88 #[.bool false, .slice none 0 0] (0, 0) _ rfl (by (with_reducible repeat (first | refine blk_drewN ?_ _ | refine blk_drew ?_ | refine blk_alloc ?_ _)); refine blk_put (cs := #[.bool false, .slice none 0 0]) ?_ 1 _ rfl; (with_reducible repeat (first | refine blk_drewN ?_ _ | refine blk_drew ?_ | refine blk_alloc ?_ _)); refine blk_put (cs := #[.bool false, .slice none 0 0]) ?_ 0 _ rfl; (with_reducible repeat (first | refine blk_drewN ?_ _ | refine blk_drew ?_ | refine blk_alloc ?_ _)); refine blk_far ?_ NB112_111.out _; (with_reducible repeat (first | refine blk_drewN ?_ _ | refine blk_drew ?_ | refine blk_alloc ?_ _)); refine blk_far ?_ NB112_111.out _; (with_reducible repeat (first | refine blk_drewN ?_ _ | refine blk_drew ?_ | refine blk_alloc ?_ _)); exact BK112.out) Tryz.underlying88 rfl (by kernel_rfl) (.tmp .nil)))) rfl ?_
  exact ⟨_, _, fe, by first | exact Kd.R_nil _ _ _ _ _ | exact Kd.N_nil _ _ _ _ _ | exact Kd.V_nil _ _ _ _ _ | exact Kd.Q_nil _ _ _ _ _ | exact Kd.S_nil _ _ _ _ _, by first | exact Kd.R_nil _ _ _ _ _ | exact Kd.N_nil _ _ _ _ _ | exact Kd.V_nil _ _ _ _ _ | exact Kd.Q_nil _ _ _ _ _ | exact Kd.S_nil _ _ _ _ _, bqs⟩
 simp only [Option.some.injEq, Prod.mk.injEq] at H
 obtain ⟨rfl, rfl, rfl, rfl, rfl⟩ := H
 go_enter Tryz.func86, Tryz.ntmps86
 go_wp2_with (first | ((with_reducible refine gd_ 4 rfl ?_); refine bxE 4 #[.bool false, .slice none 0 0] 88 ?_; intro gb111 hg w27 hbox hb; have BK111 := Z0.mk hbox; have GW111 := fE HB hg; have GE111 := fE HB hg; replace HB := fB HB hb; clear hb hbox hg) | ((with_reducible refine gd_ 5 rfl ?_); refine bxE 5 #[.bool false, .slice none 0 0] 88 ?_; intro gb112 hg w28 hbox hb; have BK112 := Z0.mk hbox; have GW112 := fE HB hg; have GE112 := fE HB hg; have NB111_112 := fl BK111 hg; have NB112_111 := fg BK111 hg; replace BK111 := fk BK111 hb; replace HB := fB HB hb; clear hb hbox hg) | ((with_reducible refine gc_ 83 rfl ?_); refine gL 17 Tryz.func83 (bICheck.calls _ _ _ A3.out) ?_; rintro _ w29 ⟨rfl, hb⟩; refine ⟨_, rfl, ?_⟩; replace BK111 := fk BK111 hb; replace BK112 := fk BK112 hb; replace HB := fB HB hb; clear hb; have hnb30 := NB111_112.out; have hnc30 := NB112_111.out; obtain ⟨hcz31_0, hcz31_1, hfz31_0, hfz31_1⟩ := b2 BK111; obtain ⟨hcz32_0, hcz32_1, hfz32_0, hfz32_1⟩ := b2 BK112))
 refine wp_loop_rounds 3 ?_
 rw [rounds_succ]
 go_wp2_with (first | ((with_reducible refine gd_ 4 rfl ?_); refine bxE 4 #[.bool false, .slice none 0 0] 88 ?_; intro gb111 hg w27 hbox hb; have BK111 := Z0.mk hbox; have GW111 := fE HB hg; have GE111 := fE HB hg; replace HB := fB HB hb; clear hb hbox hg) | ((with_reducible refine gd_ 5 rfl ?_); refine bxE 5 #[.bool false, .slice none 0 0] 88 ?_; intro gb112 hg w28 hbox hb; have BK112 := Z0.mk hbox; have GW112 := fE HB hg; have GE112 := fE HB hg; have NB111_112 := fl BK111 hg; have NB112_111 := fg BK111 hg; replace BK111 := fk BK111 hb; replace HB := fB HB hb; clear hb hbox hg) | ((with_reducible refine gc_ 83 rfl ?_); refine gL 17 Tryz.func83 (bICheck.calls _ _ _ A3.out) ?_; rintro _ w29 ⟨rfl, hb⟩; refine ⟨_, rfl, ?_⟩; replace BK111 := fk BK111 hb; replace BK112 := fk BK112 hb; replace HB := fB HB hb; clear hb; have hnb30 := NB111_112.out; have hnc30 := NB112_111.out; obtain ⟨hcz31_0, hcz31_1, hfz31_0, hfz31_1⟩ := b2 BK111; obtain ⟨hcz32_0, hcz32_1, hfz32_0, hfz32_1⟩ := b2 BK112))
 refine bodyPost_ret (results_list (rs := [.cell 4 88, .cell 5 88, .tmp 6]) rfl (by simp) (.cell gb111 88 #[.bool false, .slice none 0 0] (0, 0) _ rfl (by (with_reducible repeat (first | refine blk_drewN ?_ _ | refine blk_drew ?_ | refine blk_alloc ?_ _)); refine blk_far ?_ NB111_112.out _; (with_reducible repeat (first | refine blk_drewN ?_ _ | refine blk_drew ?_ | refine blk_alloc ?_ _)); refine blk_far ?_ NB111_112.out _; (with_reducible repeat (first | refine blk_drewN ?_ _ | refine blk_drew ?_ | refine blk_alloc ?_ _)); refine blk_put (cs := #[.bool false, .slice none 0 0]) ?_ 1 _ rfl; (with_reducible repeat (first | refine blk_drewN ?_ _ | refine blk_drew ?_ | refine blk_alloc ?_ _)); refine blk_put (cs := #[.bool false, .slice none 0 0]) ?_ 0 _ rfl; (with_reducible repeat (first | refine blk_drewN ?_ _ | refine blk_drew ?_ | refine blk_alloc ?_ _)); exact BK111.out) Tryz.underlying88 rfl (by kernel_rfl) (.cell gb112 88 #[.bool false, .slice none 0 0] (0, 0) _ rfl (by (with_reducible repeat (first | refine blk_drewN ?_ _ | refine blk_drew ?_ | refine blk_alloc ?_ _)); refine blk_put (cs := #[.bool false, .slice none 0 0]) ?_ 1 _ rfl; (with_reducible repeat (first | refine blk_drewN ?_ _ | refine blk_drew ?_ | refine blk_alloc ?_ _)); refine blk_put (cs := #[.bool false, .slice none 0 0]) ?_ 0 _ rfl; (with_reducible repeat (first | refine blk_drewN ?_ _ | refine blk_drew ?_ | refine blk_alloc ?_ _)); refine blk_far ?_ NB112_111.out _; (with_reducible repeat (first | refine blk_drewN ?_ _ | refine blk_drew ?_ | refine blk_alloc ?_ _)); refine blk_far ?_ NB112_111.out _; (with_reducible repeat (first | refine blk_drewN ?_ _ | refine blk_drew ?_ | refine blk_alloc ?_ _)); exact BK112.out) Tryz.underlying88 rfl (by kernel_rfl) (.tmp .nil)))) rfl ?_
 exact ⟨_, _, fe, by first | exact Kd.R_nil _ _ _ _ _ | exact Kd.N_nil _ _ _ _ _ | exact Kd.V_nil _ _ _ _ _ | exact Kd.Q_nil _ _ _ _ _ | exact Kd.S_nil _ _ _ _ _, by first | exact Kd.R_nil _ _ _ _ _ | exact Kd.N_nil _ _ _ _ _ | exact Kd.V_nil _ _ _ _ _ | exact Kd.Q_nil _ _ _ _ _ | exact Kd.S_nil _ _ _ _ _, bqs⟩
end Go.Proofs.YthnfajboebaajaaGreatDoor
