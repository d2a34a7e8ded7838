import Derived.Test.YthnfajboebaajaaGreatDoorAD
import Derived.Test.YthnfajboebaajaaGreatDoorAG1
import Derived.Lib.AtoiErrMem
import Derived.Lib.Hide
import Derived.Shelf.SlIter.Collect
import Derived.Shelf.SlIterI.Collect
import Derived.OrdersIn
import Derived.OrdersHeld
import Derived.Deep.RegionHeld3
import Derived.OwnWalkIn
import Derived.Test.YthnfajboebaajaaGreatDoorAW
set_option maxHeartbeats 8000000
set_option maxRecDepth 100000
set_option linter.unusedVariables false
namespace Go.Proofs.YthnfajboebaajaaGreatDoor
set_option linter.unusedVariables false
open Go.RowKit Go.Shelf Go.Proofs.YthnfajboebaajaaGreatDoorW.PrintWords
attribute [local go_sem] Oper.semAt_some
theorem gk_length (ds : List Int) (k : Nat) : (gk ds k).length = k := by
 induction k with
 | zero => rfl
 | succ k ih => simp [gk, ih]
theorem AllD.digs {l : List UInt8} (h : AllD l) : Sv.Digs 10 (l.reverse.map Sv.chd) := by
 intro d hd
 obtain ⟨c, hc, rfl⟩ := List.mem_map.1 hd
 have := h c (by simpa using hc)
 unfold Sv.chd
 omega
theorem valN_cons (c : UInt8) (t : List UInt8) : Sv.valN (c :: t) = Sv.valN t + 10 ^ t.length * Sv.chd c := by
 unfold Sv.valN
 rw [List.reverse_cons, List.map_append, Sv.vl_append]
 simp [Sv.vl]
theorem valN_nonneg {l : List UInt8} (h : AllD l) : 0 ≤ Sv.valN l := Sv.vl_nonneg (by decide) h.digs
theorem decFrom_valN : ∀ (l : List UInt8) (acc : Nat), AllD l → Lib.decFrom acc l = some (acc * 10 ^ l.length + (Sv.valN l).toNat) := by
 intro l
 induction l with
 | nil => intro acc _; simp [Lib.decFrom, Sv.valN, Sv.vl]
 | cons c t ih =>
  intro acc h
  have hc := h c (by simp)
  have ht : AllD t := fun x hx => h x (by simp [hx])
  have hd : Lib.digitVal c = some (c.toNat - 48) := by
   unfold Lib.digitVal
   simp [hc.1, hc.2]
  rw [Lib.decFrom, hd]
  simp only
  rw [ih _ ht, valN_cons]
  have h0 := valN_nonneg ht
  have e : Sv.chd c = ((c.toNat - 48 : Nat) : Int) := by unfold Sv.chd; omega
  obtain ⟨v, hv⟩ : ∃ v : Nat, Sv.valN t = v := ⟨(Sv.valN t).toNat, by omega⟩
  rw [e, hv]
  congr 1
  have e2 : ((v : Int) + 10 ^ t.length * ((c.toNat - 48 : Nat) : Int)).toNat = v + 10 ^ t.length * (c.toNat - 48) := by
   have : ((v : Int) + 10 ^ t.length * ((c.toNat - 48 : Nat) : Int)) = ((v + 10 ^ t.length * (c.toNat - 48) : Nat) : Int) := by push_cast; rfl
   rw [this, Int.toNat_natCast]
  rw [e2, List.length_cons, Nat.pow_succ, Int.toNat_natCast]
  generalize 10 ^ t.length = p
  generalize c.toNat - 48 = q
  grind
theorem atoi_valN {l : List UInt8} (h : AllD l) (hne : l ≠ []) : Lib.atoi l = some (Sv.valN l) := by
 cases l with
 | nil => exact absurd rfl hne
 | cons c t =>
  have hc := h c (by simp)
  have h45 : (c == 45) = false := by
   rw [beq_eq_false_iff_ne]; rintro rfl; have := hc.1; simp at this
  have h43 : (c == 43) = false := by
   rw [beq_eq_false_iff_ne]; rintro rfl; have := hc.1; simp at this
  have h0 := valN_nonneg h
  rw [Lib.atoi, h45, h43]
  simp only [Bool.false_eq_true, if_false]
  rw [Lib.decNat]
  simp only [List.isEmpty_cons, Bool.false_eq_true, if_false]
  rw [decFrom_valN _ _ h]
  simp
  omega
theorem sub_valN (l : List UInt8) (k : Nat) (h : 9 * k < l.length) : Sv.valN ((l.take (l.length - 9 * k)).drop (l.length - 9 * k - 9)) = Sv.vl 10 (((l.reverse.map Sv.chd).drop (9 * k)).take 9) := by
 unfold Sv.valN
 rw [← List.map_drop, ← List.map_take]
 congr 2
 rw [List.drop_reverse, List.take_reverse, List.length_take]
 congr 1
 congr 1
 omega
theorem sub_alld {l : List UInt8} (h : AllD l) (i j : Nat) : AllD ((l.take j).drop i) := fun c hc => h c (List.mem_of_mem_take (List.mem_of_mem_drop hc))
theorem chk1_in (n : Nat) (hn : 1 ≤ n) (l Bs n₀ : Nat) (a0 : ByteArray) (m : Nat) (hm1 : a0.size ≤ 9 * m) (hm2 : 9 * m < a0.size + 9) (hdig : AllD a0.data.toList) (hm : a0.size ≤ 4611686018427387904) (J Jx : List Int → World → Prop) (W : World) (hn₀ : n₀ ≤ W.heap.size) (hJ : AbidesFrom W.heap.size J)
    (hY : ∀ pre x W, J pre W → pre.length < m → YieldAt Fence.wide (n - 1) Tryz.prog l #[.int .i64 x] W fun e W' =>
      (e = .returned (.bool true) ∧ J (pre ++ [x]) W' ∧ KB n₀ Bs W W') ∨ (e = .returned (.bool false) ∧ Jx (pre ++ [x]) W'))
    (hBs : Boxed W Bs 9 (.string a0)) (h0 : J [] W) :
    CallsIn Fence.wide n Tryz.prog 193 #[.func (.yield l) #[] #[], .pointer (some ⟨Bs, 0, none⟩)] W fun e W' => (∃ v, e = .returned v) ∧
      ((∃ ys, ys = gk (dl a0) m ∧ J ys W') ∨ (∃ pre, (∃ k, k < m ∧ pre = gk (dl a0) (k + 1)) ∧ Jx pre W')) := by
 have hBc := hBs.cell
 have hf194 : Fence.wide.fn 194 := trivial
 refine callsIn_of_wp Tryz.func193 rfl trivial ?_ rfl
 simp only [Tryz.ntmps193, List.size_toArray, List.length_cons, List.length_nil, Nat.reduceAdd, Nat.reduceSub, Array.replicate_succ, Array.replicate_zero, List.push_toArray, List.append_toArray, List.nil_append, List.cons_append]
 gi_wp2
 gi_loopw [3] (fun i wr => ∃ k : Nat, k ≤ m ∧ i = .int .i64 ((a0.size : Int) - 9 * k) ∧ J (gk (dl a0) k) wr ∧ KB n₀ Bs W wr)
  (fun i _ => match i with | .int _ z => (z + 9).toNat | _ => 0)
 case atStart => exact ⟨0, Nat.zero_le _, by simp, h0, KB.refl _ _ _⟩
 case round =>
  obtain ⟨k, hk, rfl, hJs, hnx⟩ := hrel
  have hBs' : wr.cell? ⟨Bs, 0, none⟩ = some (.string a0) := (show Boxed wr Bs 9 _ from (hnx.2 hBs.lt).trans hBs).cell
  by_cases hlt : k < m
  ·obtain ⟨hi, hhi⟩ : ∃ hi : Nat, (a0.size : Int) - 9 * k = hi := ⟨a0.size - 9 * k, by omega⟩
   rw [hhi]
   have hpos : 0 < hi := by omega
   have hle : hi ≤ a0.size := by omega
   obtain ⟨lo, hlo⟩ : ∃ lo : Nat, lo = hi - 9 := ⟨_, rfl⟩
   have hmx : max (0 : Int) ((hi : Int) - 9) = (lo : Int) := by omega
   have hlh : lo ≤ hi := by omega
   obtain ⟨z, hz⟩ : ∃ z, Sv.vl 10 (((dl a0).drop (9 * k)).take 9) = z := ⟨_, rfl⟩
   have hlen : a0.data.toList.length = a0.size := rfl
   have hex : (a0.extract lo hi).data.toList = (a0.data.toList.take hi).drop lo := by simp [ByteArray.data_extract, Array.toList_extract, List.extract_eq_take_drop, List.drop_take]
   have hsz : (a0.extract lo hi).size ≤ 18 := by
    have e1 : (a0.extract lo hi).size = (a0.extract lo hi).data.toList.length := rfl
    rw [e1, hex, List.length_drop, List.length_take]
    omega
   have hat : Lib.atoi (a0.extract lo hi).data.toList = some z := by
    have e1 : hi = a0.data.toList.length - 9 * k := by omega
    have e2 : lo = a0.data.toList.length - 9 * k - 9 := by omega
    rw [hex, atoi_valN (sub_alld hdig _ _) (by intro e; have := congrArg List.length e; rw [List.length_drop, List.length_take, List.length_nil] at this; omega), e1, e2, sub_valN _ _ (by omega)]; rw [← hz]; rfl
   have hgk : gk (dl a0) (k + 1) = gk (dl a0) k ++ [z] := by rw [gk, hz]
   have HE := Lib.hid hhi
   have HG := Lib.hid hgk
   clear hhi hlo hex hz hgk hlen
   gi_wp2_with (gi_at_call 194; refine (callsIn_wide.2 (Tryz.strconv_Atoi (a0.extract lo hi) z hsz hat wr)).mono ?_; rintro e W2 ⟨rfl, t', ht⟩
                have hb2 : Below wr.heap.size wr W2 := by rw [ht]; exact Lib.bytesWorld_below wr 5 t'
                clear ht
                have hJ2 := hJ _ wr W2 none hJs ⟨hb2.os, hb2.tape, hb2.output, hb2.size, fun j hj _ => hb2.block j hj⟩ (fun r e => by cases e)
                have hn2 := hnx.below hb2 (Nat.le_trans hn₀ hnx.1.size)
                obtain ⟨fn, tmps, assign, body, hy, hR⟩ := hY _ z W2 hJ2 (by rw [gk_length]; exact hlt))
   refine hR.mono ?_
   rintro e W3 (⟨rfl, hJ3, hk3⟩ | ⟨rfl, hJx3⟩)
   ·gi_wp2
    go_roundw
    case rel => exact ⟨k + 1, by omega, by have := HE.out; go_num, by rw [HG.out]; exact hJ3, hn2.trans hk3⟩
    case measure => dsimp only; omega
   gi_wp2
   refine bodyPost_ret (results_none rfl _ _ _) rfl ?_
   exact ⟨⟨_, rfl⟩, .inr ⟨_, ⟨k, hlt, rfl⟩, by rw [HG.out]; exact hJx3⟩⟩
  obtain rfl : k = m := by omega
  have hnp : ¬ (0 : Int) < (a0.size : Int) - 9 * k := by omega
  gi_wp2
  go_end0
  exact ⟨⟨_, rfl⟩, .inl (by first | exact ⟨_, rfl, hJs⟩ | exact hJs)⟩
theorem chk_stops (n : Nat) (hn : 1 ≤ n) (Bs n₀ : Nat) (a0 : ByteArray) (m : Nat) (hm1 : a0.size ≤ 9 * m) (hm2 : 9 * m < a0.size + 9) (hdig : AllD a0.data.toList) (hm : a0.size ≤ 4611686018427387904) (w : World) (hn₀ : n₀ ≤ w.heap.size) (hBs : Boxed w Bs 9 (.string a0)) :
    SeqStopsK Fence.wide n Tryz.prog 193 #[.pointer (some ⟨Bs, 0, none⟩)] (fun x : Int => #[.int .i64 x]) (KB n₀ Bs) (fun ys => ys = gk (dl a0) m) (fun pre => ∃ k, k < m ∧ pre = gk (dl a0) (k + 1)) m w := fun l J Jx W hW hJ _ hY h0 =>
  chk1_in n hn l Bs n₀ a0 m hm1 hm2 hdig hm J Jx W (Nat.le_trans hn₀ hW.size) hJ hY ((hW.block Bs hBs.lt).trans hBs) h0
def ApI (w : World) (pre : List Int) (W : World) : Prop :=
  ∃ v, W.heap[w.heap.size]? = some (.cells #[v] 86 (0, 0)) ∧ W.ownsRow w.heap.size 3 1 v pre.length (pre.map encZ)
theorem ApI.own (w : World) : Own (ApI w) := fun s A B row hs hg hr => by
  obtain ⟨v, h1, h2⟩ := hs
  refine ⟨v, ?_, ?_⟩
  · refine (hg.block _ (Array.getElem?_eq_some_iff.1 h1).1 (fun e => ?_)).trans h1
    obtain ⟨o, ho, hc⟩ := hr _ e.symm
    rw [h1] at ho
    cases ho
    cases hc
  · cases row with
    | none =>
      refine h2.kept hg ?_
      cases hv : v.ownBlock with
      | none => exact .inl rfl
      | some k => exact .inr (by simp)
    | some r =>
      obtain ⟨o, ho, hc⟩ := hr r rfl
      exact h2.kept hg (ownsRow_ne_a h2 ho (fun cur e => by rw [e] at hc; cases hc))
theorem append_in (n : Nat) (hn : 3 ≤ n) (Bs : Nat) (a0 : ByteArray) (m : Nat) (hm1 : a0.size ≤ 9 * m) (hm2 : 9 * m < a0.size + 9) (hdig : AllD a0.data.toList) (hm : a0.size ≤ 4294967296) (w : World) (hBs : Boxed w Bs 9 (.string a0)) :
    CallsIn Fence.wide n Tryz.prog 192 #[.slice none 0 0, .func (.func 193) #[] #[.pointer (some ⟨Bs, 0, none⟩)]] w fun e w' => ∃ v, e = .returned v ∧ w'.ownsRow w.heap.size 3 1 v m ((gk (dl a0) m).map encZ) ∧ Below w.heap.size w w' := by
 have hBl := hBs.lt
 have h1' : 1 ≤ n := by omega
 refine callsIn_of_wp_marks Tryz.func192 rfl trivial ?_ rfl
 simp only [Tryz.ntmps192, List.size_toArray, List.length_cons, List.length_nil, Nat.reduceAdd, Nat.reduceSub, Array.replicate_succ, Array.replicate_zero, List.push_toArray, List.append_toArray, List.nil_append, List.cons_append]
 gi_wp2
 obtain ⟨W0, hW0⟩ : ∃ W0, w.alloc (.cells #[.slice none 0 0] 86) = W0 := ⟨_, rfl⟩
 have hB0 : Below w.heap.size w W0 := by rw [← hW0]; exact (Below.refl _ w).alloc (Nat.le_refl _) _
 have hs0 : W0.heap.size = w.heap.size + 1 := by rw [← hW0]; simp
 have hb0 : W0.heap[w.heap.size]? = some (.cells #[.slice none 0 0] 86 (0, 0)) := by rw [← hW0]; exact Boxed.new _ _ _
 have hBs0 : Boxed W0 Bs 9 (.string a0) := (hB0.block Bs hBl).trans hBs
 rw [hW0]
 refine wpIn_rangeFunc_ownF rfl h1' (gf := 193) (lb := #[.pointer (some ⟨Bs, 0, none⟩)]) rfl trivial (enters_of Tryz.func193 (by kernel_rfl) rfl)
  (chk_stops (n - 1) (by omega) Bs w.heap.size a0 m hm1 hm2 hdig (by omega) W0 (by omega) hBs0) kb_t (kb_b (by omega) (by omega)) (Below.refl _ _) (fun _ => rfl)
  (fun pre W => ApI w pre W ∧ Below w.heap.size w W) (fun c pre W => False)
  (OwnFrom.and (Own.from (ApI.own w) _) (ownFrom_below (Nat.le_refl _) (by omega)))
  (fun c s A B row hs hg hr => hs) ⟨⟨_, hb0, World.ownsRow_nil _ _ _ _⟩, hB0⟩
  ?act1 ?assign ?body ?done ?stop
 case assign =>
  intro l x W K hK
  gi_wp2
  exact hK
 case body =>
  rintro l pre x W ⟨⟨v, hb, hr⟩, hB⟩ hlen
  obtain ⟨hbc, hbf⟩ := cell_of_box_a hb
  have hbl := (Array.getElem?_eq_some_iff.1 hb).1
  have hbk : some w.heap.size ≠ v.ownBlock := fun e => by
   rcases ownsRow_ne_a hr hb (fun cur e => by cases e) with h | h
   ·rw [h] at e; cases e
   exact h e.symm
  obtain ⟨i0, hi, hz0, hz1, hz2⟩ := info_parts (show (Tryz.prog.info? 3).map (fun i => (i.zero, i.size, i.bytes)) = some (some (.int .i64 0), 1, 8) by kernel_rfl)
  gi_wp2_with (first
    | (gi_at_builtin; refine wpListIn_append_own _ rfl _ _ 86 rfl w.heap.size 3 i0 (.int .i64 0) 1 8 Tryz.underlying86 hi hz0 hz1 hz2 rfl (by decide) v pre.length (pre.map encZ) rfl (hr.alloc _) ⟨W.heap.size, 0, none⟩ 1 1 [encZ x] rfl rfl (cell_one_new _ _ _) (by simp [Value.oneCell', encZ]) (by simp only [maxLen]; omega) (by omega) (by have := hB.size; simp; omega) ?_; intro v' w3 hown' hg3 hnil3
       have hb3 : w3.heap[w.heap.size]? = some (.cells #[v] 86 (0, 0)) := (hg3.block _ (by simp; omega) hbk).trans ((Below.heap_alloc _ _ _ hbl).trans hb)
       obtain ⟨hc3, hf3⟩ := cell_of_box_a hb3
       obtain ⟨g', cap', rfl⟩ : ∃ g' cap', v' = .slice (some ⟨g', 0, none⟩) (pre.length + 1) cap' := by
         rcases hown'.2 with ⟨_, h0⟩ | ⟨g', cap', cur', h', _⟩
         · omega
         · exact ⟨g', cap', h'⟩)
    | gi_in)
  have hkr : ∀ k, v.ownBlock = some k → w.heap.size ≤ k ∧ k ≠ Bs := fun k e => ⟨(hr.lt k e).1, fun e' => by have := (hr.lt k e).1; omega⟩
  have hgA : W.grownBy (W.alloc (.cells #[encZ x] 3)) none := World.grownBy_alloc W _ none
  have hb3k : KB w.heap.size Bs W w3 := ((KB.refl _ _ W).alloc hB.size _).grown hg3 (by have := hB.size; simp; omega) hkr
  have hB3 : Below w.heap.size w w3 := hB.trans hb3k.1
  refine ⟨((KeepsOthers.alloc W _).trans (KeepsOthers.of_grownBy hg3 (fun j o hj ho => ?_))).trans (KeepsOthers.setCell _ _ _), hb3k.setCell (p := ⟨w.heap.size, 0, none⟩) (Nat.le_refl _) (by simp; omega) _, ⟨_, heap_setCell_box_a _ hb3, ?_⟩, hB3.setCell (p := ⟨w.heap.size, 0, none⟩) (Nat.le_refl _) _⟩
  ·rcases (hr.alloc (.cells #[encZ x] 3)).2 with ⟨e, _⟩ | ⟨g, cap, cur, e, _, hgb, _⟩
   ·rw [e] at hj; cases hj
   rw [e] at hj
   have : g = j := by simpa [Value.ownBlock] using hj
   subst this
   rw [hgb] at ho
   cases ho
   rfl
  have h5 := hown'.kept (grownBy_setCell0_a w3 w.heap.size (.slice (some ⟨g', 0, none⟩) (pre.length + 1) cap')) (by
     refine ownsRow_ne_a hown' hb3 (fun cur e => by cases e))
  simpa using h5
 case done =>
  rintro D ys W hD rfl ⟨⟨v, hb, hr⟩, hB⟩ hK
  obtain ⟨hbc, hbf⟩ := cell_of_box_a hb
  gi_wp2
  refine ⟨by simp, .inl ⟨_, _, rfl, run_takeDeferred hK, ?_⟩⟩
  have hg5 := grownBy_putObj' W D (.deferred none)
  refine ⟨v, ?_, v, rfl, ?_, hB.trans (belowK_b (w := w) (Nat.le_refl _) W D _ _ (by omega) hK rfl rfl)⟩
  ·simp [results, Tryz.f192, go_sem]
  have h5 := hr.kept hg5 (ownsRow_ne_a hr hK (fun cur e => by cases e))
  rw [gk_length] at h5
  exact h5
 case stop =>
  rintro D c pre W hD hp hf hK
  exact hf.elim
open Go.RowKit
def plainOp : Op → Bool
 | .move _ | .assign _ | .load _ _ | .binOp .. | .unOp .. | .indexAddr .. | .fieldAddr .. | .store .. => true
 | _ => false
theorem plain_about {P : Program} {o : Oper} (h : plainOp o.op = true) (w : World) (ρ : Operand → Value) : o.about P w ρ = none := by
 unfold Oper.about
 cases ho : o.op <;> first | rfl | (rw [ho] at h; cases h)
theorem plain_defer {o : Oper} (h : plainOp o.op = true) : ∀ c, o.op ≠ .defer c := by
 intro c hc
 rw [hc] at h
 cases h
def EndsPlain : Result Next → Prop
 | .ok (.value _) _ => True
 | .ok .skip _ => True
 | .halt _ _ => True
 | _ => False
theorem endsPlain_value {x : Result Value} : EndsPlain (x.andThen fun v w => .ok (.value v) w) := by
 cases x <;> exact trivial
theorem endsPlain_skip {x : Result Unit} : EndsPlain (x.andThen fun _ w => .ok .skip w) := by
 cases x <;> exact trivial
theorem plain_run {P : Program} {o : Oper} (h : plainOp o.op = true) (ρ : Operand → Value) (w : World) : EndsPlain ((execOp ρ o).run P w) := by
 unfold execOp
 cases ho : o.op <;> first | (rw [ho] at h; cases h; done) | skip
 all_goals simp only [Sem.run_bind, Sem.run_pure, bind_pure_comp, Sem.run_map]
 all_goals first | exact trivial | exact endsPlain_value | exact endsPlain_skip
theorem plain_wpIn {F : Fence} {n : Nat} {P : Program} {Q : Exit → Act → World → Prop} {o : Oper} (h : plainOp o.op = true) {a : Act} {w : World} {K K' : Act → World → Prop} (hK : ∀ a w, K a w → K' a w) (hw : o.wp P a w K Q) : o.wpIn F n P a w K' Q := by
 unfold Oper.wpIn
 refine ⟨fun f hf => (by rw [plain_about h] at hf; cases hf), ?_⟩
 rw [Oper.semAt_plain F _ _ (plain_defer h)]
 unfold Oper.wp at hw
 have he := plain_run (P := P) h a.eval w
 revert he hw
 generalize (execOp a.eval o).run P w = R
 intro hw he
 cases R with
 | ok x w' =>
  cases x <;> first | exact hK _ _ hw | exact he.elim
 | halt x w' => cases x <;> first | exact hw | exact hw.elim
theorem wpAnyIn_of_wpAny {F : Fence} {n : Nat} {P : Program} {md : Region.Mode} {ops : Array Oper} {Q : Exit → Act → World → Prop} (hp : ∀ (i : Nat) (o : Oper), ops[i]? = some o → plainOp o.op = true) (hlo : ¬ LetsOut Q) :
  ∀ (fuel : Nat) (listed : Array Bool) (a : Act) (w : World), wpAny P md ops Q fuel listed a w → wpAnyIn F n P md ops Q fuel listed a w
 | 0, _, _, _, h => h
 | fuel + 1, listed, a, w, h => ⟨h.1, fun i hi => by
  have h1 := h.2 i hi
  unfold wpOp at h1
  unfold wpOpIn
  cases ho : ops[i]? with
  | none => simp only [ho] at h1 ⊢; exact wpAnyIn_of_wpAny hp hlo fuel _ a w h1
  | some o =>
   simp only [ho] at h1 ⊢
   by_cases hw : Region.wanted o (yielded ops a.tmps) = true
   ·rw [if_pos hw] at h1 ⊢
    rcases h1 with h1 | h1
    ·exact plain_wpIn (hp i o ho) (fun a' w' h' => wpAnyIn_of_wpAny hp hlo fuel _ a' w' h') h1
    ·exact absurd h1.2 hlo
   ·rw [if_neg hw] at h1 ⊢
    exact ⟨fun f hf => (by rw [plain_about (hp i o ho)] at hf; cases hf), wpAnyIn_of_wpAny hp hlo fuel _ _ w h1⟩⟩
theorem plain_all {ops : Array Oper} (h : (ops.toList.all fun o => plainOp o.op) = true) : ∀ (i : Nat) (o : Oper), ops[i]? = some o → plainOp o.op = true := fun i o ho => by
 have hm : o ∈ ops.toList := List.mem_of_getElem? (by rw [Array.getElem?_toList]; exact ho)
 have := List.all_eq_true.1 h o hm
 simpa using this
def wpAnyS (P : Program) (md : Region.Mode) (ops : Array Oper) (Q : Exit → Act → World → Prop) (S : World → Prop) (z : Nat) : Nat → Array Bool → Act → World → Prop
 | 0, listed, a, w => Region.ready md ops listed = [] ∧ Q .normal a w
 | fuel + 1, listed, a, w =>
  (Region.ready md ops listed = [] → Q .normal a w) ∧
  ∀ i ∈ Region.ready md ops listed, wpOp P ops Q i (fun a' w' => ((listed.setIfInBounds i true).getD z true = false → S w') ∧ wpAnyS P md ops Q S z fuel (listed.setIfInBounds i true) a' w') a w
section
variable {P : Program} {ops : Array Oper} {Q : Exit → Act → World → Prop} {md : Region.Mode} {S : World → Prop} {z : Nat}
theorem wpAny_of_S : ∀ (fuel : Nat) (listed : Array Bool) (a : Act) (w : World), wpAnyS P md ops Q S z fuel listed a w → wpAny P md ops Q fuel listed a w
 | 0, _, _, _, h => h
 | fuel + 1, _, _, _, h => ⟨h.1, fun i hi => wpOp_mono (fun a' w' h' => wpAny_of_S fuel _ a' w' h'.2) (h.2 i hi)⟩
theorem wpAnyS_first {i : Nat} {oi : Oper} {v : Value} (hi : ops[i]? = some oi) (hsel : ∀ (j : Nat) (o : Oper) cs b, ops[j]? = some o → o.op ≠ .select cs b)
  (hQ : ∀ c a w, Q (.panic c) (a.put oi.dst v) w → Q (.panic c) a w) (hz : (ops[z]?.map fun oz => oz.after.toList.any fun e => Region.binds md e && e.on == i) = some true) :
  ∀ (fuel : Nat) (listed : Array Bool) (a : Act) (w : World),
   (∀ j oj, ops[j]? = some oj → j ≠ i → listed.getD j true = false → (∀ e ∈ oj.after, Region.binds md e = true → e.on ≠ i) → oi.apart ops oj = true) →
   i ∈ Region.ready md ops listed → listed.getD z true = false → YieldsIf P ops S oi v a → S w →
   wpAnyS P md ops Q S z fuel (listed.setIfInBounds i true) (a.put oi.dst v) w → wpAnyS P md ops Q S z (fuel + 1) listed a w := by
 intro fuel
 induction fuel with
 | zero =>
  intro listed a w _ hr _ hy hS H
  refine ⟨fun h => (by rw [h] at hr; cases hr), fun j hj => ?_⟩
  by_cases hji : j = i
  ·subst hji
   exact hy.wpOp hi hS ⟨fun _ => hS, H⟩
  have h0 := ready_mono hj hji
  rw [H.1] at h0
  cases h0
 | succ fuel ih =>
  intro listed a w hfree hr hlz hy hS H
  refine ⟨fun h => (by rw [h] at hr; cases hr), fun j hj => ?_⟩
  by_cases hji : j = i
  ·subst hji
   exact hy.wpOp hi hS ⟨fun _ => hS, H⟩
  have h1 := H.2 j (ready_mono hj hji)
  obtain ⟨hjun, oj, hoj, hall⟩ := mem_ready.1 hj
  have hnot : ∀ e ∈ oj.after, Region.binds md e = true → e.on ≠ i := fun e he hb heq => by
   have h1 := hall e he hb
   have h0 := (mem_ready.1 hr).1
   rw [heq] at h1
   rcases Nat.lt_or_ge i listed.size with h' | h'
   ·simp [h'] at h0 h1; rw [h0] at h1; cases h1
   simp [Array.getElem?_eq_none h'] at h1
  have hjz : j ≠ z := by
   rintro rfl
   rw [hoj] at hz
   simp only [Option.map_some, Option.some.injEq, List.any_eq_true, Bool.and_eq_true, beq_iff_eq] at hz
   obtain ⟨e, he, hb, hon⟩ := hz
   exact hnot e (by simpa using he) hb hon
  have h2 := wpOp_putIf hoj (hfree j oj hoj hji hjun hnot) (fun cs b => hsel i oi cs b hi) (fun cs b => hsel j oj cs b hoj) hQ hy h1
  have hfree' : ∀ k ok, ops[k]? = some ok → k ≠ i → (listed.setIfInBounds j true).getD k true = false →
   (∀ e ∈ ok.after, Region.binds md e = true → e.on ≠ i) → oi.apart ops ok = true := fun k ok hk hki hun hno => by
   refine hfree k ok hk hki ?_ hno
   by_cases hjk : j = k
   ·subst hjk; exact hjun
   rw [getD_set_ne true hjk] at hun; exact hun
  have hlz' : (listed.setIfInBounds j true).getD z true = false := by rw [getD_set_ne true hjz]; exact hlz
  have hiz : i ≠ z := by
   rintro rfl
   obtain ⟨h0, o', ho', hall'⟩ := mem_ready.1 hr
   rw [ho'] at hz
   simp only [Option.map_some, Option.some.injEq, List.any_eq_true, Bool.and_eq_true, beq_iff_eq] at hz
   obtain ⟨e, he, hb, hon⟩ := hz
   have h1 := hall' e (by simpa using he) hb
   rw [hon] at h1
   rcases Nat.lt_or_ge i listed.size with h' | h'
   ·simp [h'] at h0 h1; rw [h0] at h1; cases h1
   simp [Array.getElem?_eq_none h'] at h1
  refine wpOp_mono (fun a' w' h3 => ?_) h2
  have hS' : S w' := h3.2.1 (by rw [getD_set_ne true hjz, getD_set_ne true hiz]; exact hlz)
  refine ⟨fun _ => hS', ih (listed.setIfInBounds j true) a' w' hfree' (ready_mono hr (Ne.symm hji)) hlz' h3.1 hS' ?_⟩
  rw [Array.setIfInBounds_comm _ _ hji]
  exact h3.2.2
theorem wpAnyS_take {i : Nat} {oi : Oper} {v : Value} {fuel : Nat} {listed : Array Bool} {a : Act} {w : World} (hi : ops[i]? = some oi)
  (hs : Region.noSelect ops = true) (hf : Region.free md ops listed i = true) (hr : (Region.ready md ops listed).contains i = true)
  (hz : (ops[z]?.map fun oz => oz.after.toList.any fun e => Region.binds md e && e.on == i) = some true) (hlz : listed.getD z true = false)
  (hQ : ∀ c a w, Q (.panic c) (a.put oi.dst v) w → Q (.panic c) a w) (hy : YieldsIf P ops S oi v a) (hS : S w)
  (h : wpAnyS P md ops Q S z fuel (listed.setIfInBounds i true) (a.put oi.dst v) w) : wpAnyS P md ops Q S z (fuel + 1) listed a w :=
 wpAnyS_first hi (Region.noSelect_spec hs) hQ hz fuel listed a w (Region.free_spec hi hf) (by simpa using hr) hlz hy hS h
theorem wpAnyS_one {i : Nat} {fuel : Nat} {listed : Array Bool} {a : Act} {w : World} (hr : Region.ready md ops listed = [i])
  (h : wpOp P ops Q i (fun a' w' => ((listed.setIfInBounds i true).getD z true = false → S w') ∧ wpAnyS P md ops Q S z fuel (listed.setIfInBounds i true) a' w') a w) : wpAnyS P md ops Q S z (fuel + 1) listed a w :=
 ⟨fun h0 => (by rw [hr] at h0; cases h0), fun j hj => (by rw [hr, List.mem_singleton] at hj; rw [hj]; exact h)⟩
theorem wpAnyS_store {i : Nat} {o : Oper} {fuel : Nat} {listed : Array Bool} {a : Act} {w w1 : World} (hr : Region.ready md ops listed = [i]) (ho : ops[i]? = some o) (hw : Region.wanted o (yielded ops a.tmps) = true) (hrun : (execOp a.eval o).run P w = .ok .skip w1)
  (hS : (listed.setIfInBounds i true).getD z true = false → S w1) (h : wpAnyS P md ops Q S z fuel (listed.setIfInBounds i true) (a.put o.dst undef) w1) : wpAnyS P md ops Q S z (fuel + 1) listed a w := by
 refine wpAnyS_one hr ?_
 unfold wpOp
 simp only [ho, hw, if_true]
 refine .inl ?_
 unfold Oper.wp
 rw [hrun]
 exact ⟨hS, h⟩
theorem wpAnyS_done {listed : Array Bool} {a : Act} {w : World} (hr : Region.ready md ops listed = []) (h : Q .normal a w) : ∀ fuel, wpAnyS P md ops Q S z fuel listed a w
 | 0 => ⟨hr, h⟩
 | _ + 1 => ⟨fun _ => h, fun j hj => (by rw [hr] at hj; cases hj)⟩
end
theorem wpIn_region_heldP {F : Fence} {n : Nat} {P : Program} {ops : Array Oper} {Q : Exit → Act → World → Prop} {S : World → Prop} (z : Nat) {id : Nat} {a : Act} {w : World} (hm : P.follows .mixedOrders = true) (hp : (ops.toList.all fun o => plainOp o.op) = true) (hlo : ¬ LetsOut Q)
  (h : wpAnyS P .any ops Q S z ops.size (Array.replicate ops.size false) a w.drew) : (Code.region id ops true).wpIn F n P Q a w :=
 wpIn_region_any hm (wpAnyIn_of_wpAny (plain_all hp) hlo _ _ _ _ (wpAny_of_S _ _ _ _ h))
set_option linter.unusedVariables false
set_option linter.unusedSimpArgs false
open Go.RowKit Go.Shelf Go.Proofs.YthnfajboebaajaaGreatDoorW.PrintWords
attribute [local go_sem] Oper.semAt_some
theorem fld_snoc (d : Int) {zs : List Int} (pre : List (BkT zs)) (x : BkT zs) : fld d (pre ++ [x]) = stp d (fld d pre) x.1.1 x.1.2 := by simp [fld]
theorem fld_length (d : Int) {zs : List Int} (pre : List (BkT zs)) : (fld d pre).1.length = zs.length := by
 suffices h : ∀ (p : List Int × Int), p.1.length = zs.length → (pre.foldl (fun p x => stp d p x.1.1 x.1.2) p).1.length = zs.length from h _ (by simp)
 induction pre with
 | nil => intro p h; exact h
 | cons x t ih => intro p h; exact ih _ (by simp [stp, h])
theorem fld_range {d : Int} (h0 : 0 < d) {zs : List Int} (hz : Sv.Digs Sv.LB zs) (pre : List (BkT zs)) : 0 ≤ (fld d pre).2 ∧ (fld d pre).2 < d := by
 suffices h : ∀ (p : List Int × Int), 0 ≤ p.2 ∧ p.2 < d → 0 ≤ (pre.foldl (fun p x => stp d p x.1.1 x.1.2) p).2 ∧ (pre.foldl (fun p x => stp d p x.1.1 x.1.2) p).2 < d from h _ ⟨by simp, by simpa using h0⟩
 induction pre with
 | nil => intro p h; exact h
 | cons x t ih =>
  intro p h
  refine ih _ ?_
  have hv := rd_range (by decide) hz x.1.1
  rw [← x.2.2.2] at hv
  have hn : 0 ≤ p.2 * 1000000000 + x.1.2 := by omega
  simp only [stp]
  exact ⟨Int.tmod_nonneg _ hn, Int.tmod_lt_of_pos _ h0⟩
def ShI (w : World) (s : Nat) (d : Int) {zs : List Int} (pre : List (BkT zs)) (W : World) : Prop :=
 W.ownsRow s 3 1 (.slice (some ⟨s + 1, 0, none⟩) zs.length zs.length) zs.length ((fld d pre).1.map encZ) ∧ Boxed W s 3 (.int .i64 d) ∧ Boxed W (s + 2) 86 (.slice (some ⟨s + 1, 0, none⟩) zs.length zs.length) ∧ Boxed W (s + 3) 3 (.int .i64 (fld d pre).2)
theorem owns_own {β : Type} (base e size : Nat) (v : β → Value) (n : β → Nat) (xs : β → List Value) : Own (fun (s : β) W => W.ownsRow base e size (v s) (n s) (xs s)) := fun s A B row h2 hg hr => by
 cases row with
 | none =>
  refine h2.kept hg ?_
  cases hv : (v s).ownBlock with
  | none => exact .inl rfl
  | some k => exact .inr (by simp)
 | some r =>
  obtain ⟨o, ho, hc⟩ := hr r rfl
  exact h2.kept hg (ownsRow_ne_a h2 ho (fun cur e => by rw [e] at hc; cases hc))
theorem ShI.own (w : World) (s : Nat) (d : Int) {zs : List Int} : Own (ShI w s d (zs := zs)) := fun pre A B row h hg hr =>
 ⟨owns_own s 3 1 (fun _ => _) (fun _ => _) (fun (pre : List (BkT zs)) => (fld d pre).1.map encZ) pre A B row h.1 hg hr, boxed_own _ _ (fun _ => _) pre A B row h.2.1 hg hr, boxed_own _ _ (fun _ => _) pre A B row h.2.2.1 hg hr, boxed_own _ _ (fun (pre : List (BkT zs)) => .int .i64 (fld d pre).2) pre A B row h.2.2.2 hg hr⟩
theorem makeIn {F : Fence} {n : Nat} (w : World) {ops : Array Oper} {rest : List Oper} {o : Oper} {a : Act} {Q : Exit → Act → World → Prop}
  (hg : o.guard = none) (l c : Operand) (hop : o.op = Op.makeSlice 86 l c) (m : Nat) (hl : a.eval l = .int .i64 m) (hc : a.eval c = .int .i64 m) (hm : m ≤ 17592186044416)
  (hK : wpListIn F n Tryz.prog ops Q rest (a.put o.dst (.slice (some ⟨w.heap.size, 0, none⟩) m m)) (w.alloc (.cells (madeCells #[.int .i64 0] m) 3))) :
  wpListIn F n Tryz.prog ops Q (o :: rest) a w := by
 refine wpListIn_plain hg fun K hK' => ?_
 have hrun := run_make_row' (P := Tryz.prog) 86 3 (.int .i64 0) 8 Tryz.underlying86 (by kernel_rfl) rfl .i64 .i64 m (by omega) (by omega) w
 unfold Oper.wpIn
 refine ⟨?_, ?_⟩
 ·simp [Oper.about, hop]
 rw [Oper.semAt_plain F _ _ (by rw [hop]; intro c hc'; cases hc')]
 simp [execOp, hop, hl, hc, hrun, Result.andThen]
 exact hK' _ _ hK
theorem short_in (n : Nat) (hn : 3 ≤ n) (A0 : Option Addr) (c0 : Nat) (l0 : List Int) (d : Int) (k : Nat) (t : List Int) (w : World)
  (hr0 : Kd.C (Kd.int .i64) w A0 l0.length l0) (hd0 : 0 < d) (hd1 : d < 1000000000) (hz : Sv.Digs Sv.LB l0) (hlen : l0.length ≤ 17592186044416)
  (ht : PA.bItrim.f k (fld d (bk l0 l0.length)).1 = some t) :
  CallsIn Fence.wide n Tryz.prog 146 #[.slice A0 l0.length c0, .int .i64 d] w fun e w' => ∃ v0_ : Value, e = .returned (.tuple #[v0_, .int .i64 (fld d (bk l0 l0.length)).2]) ∧ Kd.R (Kd.int .i64) 3 w' w.heap.size (fun _ => True) v0_ t ∧ Below w.heap.size w w' := by
 have hf128 : Fence.wide.fn 128 := trivial
 have hf147 : Fence.wide.fn 147 := trivial
 have h1' : 1 ≤ n := by omega
 refine callsIn_of_wp_marks Tryz.func146 rfl trivial ?_ rfl
 simp only [Tryz.ntmps146, List.size_toArray, List.length_cons, List.length_nil, Nat.reduceAdd, Nat.reduceSub, Array.replicate_succ, Array.replicate_zero, List.push_toArray, List.append_toArray, List.nil_append, List.cons_append]
 gi_wp2_with (first | (gi_at_make; refine makeIn _ rfl _ _ rfl l0.length rfl rfl hlen ?_) | (gi_at_call 128; refine (back_in Fence.wide (n - 1) hf128 rfl _ _ _ _).mono ?_; rintro e w' ⟨rfl, rfl⟩) | gi_in)
 obtain ⟨s, hs⟩ : ∃ s, w.heap.size = s := ⟨_, rfl⟩
 simp only [hs]
 obtain ⟨W0, hW0⟩ : ∃ W0, (((((w.alloc (.cells #[.int .i64 d] 3)).alloc (.cells (madeCells #[.int .i64 0] l0.length) 3)).alloc (.cells #[.slice (some ⟨s + 1, 0, none⟩) l0.length l0.length] 86)).alloc (.cells #[.int .i64 0] 3)).alloc (.cells #[.slice A0 l0.length c0] 86)) = W0 := ⟨_, rfl⟩
 have hB0 : Below s w W0 := by
  rw [← hW0]
  refine ((((((Below.refl _ w).alloc ?_ _).alloc ?_ _).alloc ?_ _).alloc ?_ _).alloc ?_ _) <;> first | omega | (simp; omega)
 have hs0 : W0.heap.size = s + 5 := by rw [← hW0]; simp [hs]
 have e1 : (w.alloc (.cells #[.int .i64 d] 3)).heap.size = s + 1 := by simp [hs]
 have e2 : ((w.alloc (.cells #[.int .i64 d] 3)).alloc (.cells (madeCells #[.int .i64 0] l0.length) 3)).heap.size = s + 2 := by simp [hs]
 have e3 : (((w.alloc (.cells #[.int .i64 d] 3)).alloc (.cells (madeCells #[.int .i64 0] l0.length) 3)).alloc (.cells #[.slice (some ⟨s + 1, 0, none⟩) l0.length l0.length] 86)).heap.size = s + 3 := by simp [hs]
 have e4 : ((((w.alloc (.cells #[.int .i64 d] 3)).alloc (.cells (madeCells #[.int .i64 0] l0.length) 3)).alloc (.cells #[.slice (some ⟨s + 1, 0, none⟩) l0.length l0.length] 86)).alloc (.cells #[.int .i64 0] 3)).heap.size = s + 4 := by simp [hs]
 have hI0 : ShI w s d ([] : List (BkT l0)) W0 := by
  rw [← hW0]
  refine ⟨?_, ?_, ?_, ?_⟩
  ·refine World.ownsRow.alloc (World.ownsRow.alloc (World.ownsRow.alloc ?_ _) _) _
   have h := World.ownsRow_lit (base := s) (e := 3) (size := 1) (w.alloc (.cells #[.int .i64 d] 3)) (madeCells #[.int .i64 0] l0.length) l0.length (by rw [e1]; omega) (by simp only [maxLen]; omega) (by simp [madeCells])
   rw [e1] at h
   have hm : (madeCells #[.int .i64 0] l0.length).toList = (fld d ([] : List (BkT l0))).1.map encZ := by
    apply List.ext_getElem
    ·simp [fld, madeCells]
    intro i h1 h2
    simp [fld, madeCells, Nat.mod_one]
   rw [← hm]
   exact h
  ·have := ((((Boxed.new w 3 (.int .i64 d)).alloc (.cells (madeCells #[.int .i64 0] l0.length) 3)).alloc (.cells #[.slice (some ⟨s + 1, 0, none⟩) l0.length l0.length] 86)).alloc (.cells #[.int .i64 0] 3)).alloc (.cells #[.slice A0 l0.length c0] 86)
   rw [hs] at this
   exact this
  ·have := ((Boxed.new ((w.alloc (.cells #[.int .i64 d] 3)).alloc (.cells (madeCells #[.int .i64 0] l0.length) 3)) 86 (.slice (some ⟨s + 1, 0, none⟩) l0.length l0.length)).alloc (.cells #[.int .i64 0] 3)).alloc (.cells #[.slice A0 l0.length c0] 86)
   rw [e2] at this
   exact this
  have := (Boxed.new (((w.alloc (.cells #[.int .i64 d] 3)).alloc (.cells (madeCells #[.int .i64 0] l0.length) 3)).alloc (.cells #[.slice (some ⟨s + 1, 0, none⟩) l0.length l0.length] 86)) 3 (.int .i64 0)).alloc (.cells #[.slice A0 l0.length c0] 86)
  rw [e3] at this
  exact this
 have hbx : Boxed W0 (s + 4) 86 (.slice A0 l0.length c0) := by
  have := Boxed.new ((((w.alloc (.cells #[.int .i64 d] 3)).alloc (.cells (madeCells #[.int .i64 0] l0.length) 3)).alloc (.cells #[.slice (some ⟨s + 1, 0, none⟩) l0.length l0.length] 86)).alloc (.cells #[.int .i64 0] 3)) 86 (.slice A0 l0.length c0)
  rw [e4, hW0] at this
  exact this
 rw [hW0]
 clear hW0 e1 e2 e3 e4
 have mixed : Tryz.prog.follows .mixedOrders = true := by kernel_rfl
 refine wpIn_rangeFunc_ownF rfl h1' (gf := 167) (lb := #[.pointer (some ⟨s + 1 + 1 + 1 + 1, 0, none⟩)]) rfl trivial (enters_of Tryz.func167 (by kernel_rfl) rfl)
  (back_stops Fence.wide (n - 1) trivial rfl (by omega) (s + 4) s A0 c0 l0 (by omega) W0 hbx (by omega) (fun W' hb => Kd.C_below hr0 (by rw [hs]; exact hB0.trans hb))) kb_t (kb_b (by omega) (by omega)) (Below.refl _ _) (fun _ => rfl)
  (fun pre W => ShI w s d pre W ∧ Below s w W) (fun c pre W => False)
  (OwnFrom.and (Own.from (ShI.own w s d) _) (ownFrom_below (by omega) (by omega)))
  (fun c s A B row hs hg hr => hs) ⟨hI0, hB0⟩
  ?act1 ?assign ?body ?done ?stop
 case assign =>
  intro l x W K hK
  simp only [enc2]
  gi_wp2
  exact hK
 case body =>
  rintro l pre x W ⟨⟨hrow, hbd, hbs, hbr⟩, hB⟩ _
  have hfr := fld_range hd0 hz pre
  have hfl := fld_length d pre
  have hv := rd_range (by decide) hz x.1.1
  rw [← x.2.2.2] at hv
  have hx0 := x.2.1
  have hx1 := x.2.2.1
  have hsn := fld_snoc d pre x
  obtain ⟨⟨i, v⟩, hx⟩ := x
  simp only [stp] at hv hx0 hx1 hsn
  obtain ⟨r, hr⟩ : ∃ r, (fld d pre).2 = r := ⟨_, rfl⟩
  obtain ⟨o, ho⟩ : ∃ o, (fld d pre).1 = o := ⟨_, rfl⟩
  rw [hr] at hfr hsn hbr
  rw [ho] at hrow hfl hsn
  have hLB : Sv.LB = 1000000000 := rfl
  rw [hLB] at hv
  have hcd := hbd.cell
  have hcs := hbs.cell
  have hcr := hbr.cell
  have hfr' := hbr.frozen
  have hci : W.cell? ⟨s + 1, i.toNat, none⟩ = some (.int .i64 (rd o i)) := by
   rw [hrow.cellAt i.toNat (by omega), List.getElem?_map]
   have hil : i.toNat < o.length := by omega
   simp [rd, List.getElem?_eq_getElem hil, List.getD_eq_getElem?_getD]
  have hcf := hrow.frozenAt i.toNat
  have hv0 := hv.1
  have hv1 := hv.2
  have hr0' := hfr.1
  have hr1' : r < 1000000000 := by omega
  have hdne : d ≠ 0 := by omega
  have HX := Lib.hid hsn
  have HF := Lib.hid hfl
  have HR := Lib.hid hr
  have HO := Lib.hid ho
  clear hsn hfl hr ho hfr hv hLB
  gi_wp2
  obtain ⟨z, hz'⟩ : ∃ z, r * 1000000000 + v = z := ⟨_, rfl⟩
  rw [hz']
  obtain ⟨W1, hW1⟩ : ∃ W1, W.setCell ⟨s + 3, 0, none⟩ (.int .i64 z) = W1 := ⟨_, rfl⟩
  simp only [hW1]
  have hz0 : 0 ≤ z := by omega
  have hz1 : z < 1000000000000000000 := by omega
  have hrow1 : W1.ownsRow s 3 1 (.slice (some ⟨s + 1, 0, none⟩) l0.length l0.length) l0.length (o.map encZ) := by
   rw [← hW1]; exact hrow.kept (grownBy_setCell0_a W (s + 3) (.int .i64 z)) (.inr (by simp [Value.ownBlock]))
  have hbd1 : Boxed W1 s 3 (.int .i64 d) := by rw [← hW1]; exact hbd.kept (grownBy_setCell0_a W (s + 3) (.int .i64 z)) (by simp)
  have hbs1 : Boxed W1 (s + 2) 86 (.slice (some ⟨s + 1, 0, none⟩) l0.length l0.length) := by rw [← hW1]; exact hbs.kept (grownBy_setCell0_a W (s + 3) (.int .i64 z)) (by simp)
  have hcd1 := hbd1.cell
  have hcs1 := hbs1.cell
  have hko : KeepsOthers W W1 := by rw [← hW1]; exact KeepsOthers.setCell _ _ _
  have hkb : KB s (s + 4) W W1 := by rw [← hW1]; exact (KB.refl _ _ W).setCell (p := ⟨s + 3, 0, none⟩) (by simp) (by simp) _
  have hbB : Below s w W1 := hB.trans hkb.1
  have hbr1 : Boxed W1 (s + 3) 3 (.int .i64 z) := by rw [← hW1]; exact hbr.set _
  have hcr1 := hbr1.cell
  have hfr1 := hbr1.frozen
  have hci1 : W1.cell? ⟨s + 1, i.toNat, none⟩ = some (.int .i64 (rd o i)) := by
   have hil : i.toNat < o.length := by have := HF.out; omega
   rw [hrow1.cellAt i.toNat (by have := HF.out; omega), List.getElem?_map]
   simp [rd, List.getElem?_eq_getElem hil, List.getD_eq_getElem?_getD]
  have hcf1 := hrow1.frozenAt i.toNat
  clear hcd hcs hcr hfr' hci hcf hrow hbd hbs hbr
  trace_state
  have hlo : ¬ LetsOut (Exit.inBlock 1 (ownPostK (KB s (s + 4)) (fun pre W => ShI w s d pre W ∧ Below s w W) (fun c pre W => False) (pre ++ [⟨(i, v), hx⟩]) W)) := by
   rintro ⟨_, _, h⟩
   exact h
  refine wpIn_region_heldP (S := fun w' => w'.cell? ⟨s, 0, none⟩ = some (.int .i64 d) ∧ w'.cell? ⟨s + 2, 0, none⟩ = some (.slice (some ⟨s + 1, 0, none⟩) l0.length l0.length) ∧ w'.cell? ⟨s + 3, 0, none⟩ = some (.int .i64 z)) 10 mixed (by kernel_rfl) hlo ?_
  have hq0 : 0 ≤ Int.tdiv z d := Int.tdiv_nonneg hz0 (by omega)
  have hq1 : Int.tdiv z d ≤ z := Int.tdiv_le_self _ hz0
  have hm0 : 0 ≤ Int.tmod z d := Int.tmod_nonneg _ hz0
  have hm1 : Int.tmod z d < d := Int.tmod_lt_of_pos _ hd0
  have hwq : IntKind.i64.wrap (Int.tdiv z d) = Int.tdiv z d := by rw [IntKind.wrap_i64]; omega
  have hwm : IntKind.i64.wrap (Int.tmod z d) = Int.tmod z d := by rw [IntKind.wrap_i64]; omega
  have hHeld : W1.drew.cell? ⟨s, 0, none⟩ = some (.int .i64 d) ∧ W1.drew.cell? ⟨s + 2, 0, none⟩ = some (.slice (some ⟨s + 1, 0, none⟩) l0.length l0.length) ∧ W1.drew.cell? ⟨s + 3, 0, none⟩ = some (.int .i64 z) := ⟨hcd1, hcs1, hcr1⟩
  refine wpAnyS_take (i := 0) (v := .slice (some ⟨s + 1, 0, none⟩) l0.length l0.length) rfl (by kernel_rfl) (by kernel_rfl) (by kernel_rfl) (by kernel_rfl) (by kernel_rfl) (fun _ _ _ h => h) (.inl ⟨by rfl, fun w hSw => by obtain ⟨s1, s2, s3⟩ := hSw; go_simp; all_goals first | with_reducible rfl | (rw [hwq]; done) | (rw [hwm]; done)⟩) hHeld ?_
  (try simp only [Act.put, List.setIfInBounds_toArray, List.set_cons_zero, List.set_cons_succ])
  refine wpAnyS_take (i := 1) (v := .int .i64 i) rfl (by kernel_rfl) (by kernel_rfl) (by kernel_rfl) (by kernel_rfl) (by kernel_rfl) (fun _ _ _ h => h) (.inl ⟨by rfl, fun w hSw => by obtain ⟨s1, s2, s3⟩ := hSw; go_simp; all_goals first | with_reducible rfl | (rw [hwq]; done) | (rw [hwm]; done)⟩) hHeld ?_
  (try simp only [Act.put, List.setIfInBounds_toArray, List.set_cons_zero, List.set_cons_succ])
  refine wpAnyS_take (i := 2) (v := .int .i64 z) rfl (by kernel_rfl) (by kernel_rfl) (by kernel_rfl) (by kernel_rfl) (by kernel_rfl) (fun _ _ _ h => h) (.inl ⟨by rfl, fun w hSw => by obtain ⟨s1, s2, s3⟩ := hSw; go_simp; all_goals first | with_reducible rfl | (rw [hwq]; done) | (rw [hwm]; done)⟩) hHeld ?_
  (try simp only [Act.put, List.setIfInBounds_toArray, List.set_cons_zero, List.set_cons_succ])
  refine wpAnyS_take (i := 3) (v := .int .i64 d) rfl (by kernel_rfl) (by kernel_rfl) (by kernel_rfl) (by kernel_rfl) (by kernel_rfl) (fun _ _ _ h => h) (.inl ⟨by rfl, fun w hSw => by obtain ⟨s1, s2, s3⟩ := hSw; go_simp; all_goals first | with_reducible rfl | (rw [hwq]; done) | (rw [hwm]; done)⟩) hHeld ?_
  (try simp only [Act.put, List.setIfInBounds_toArray, List.set_cons_zero, List.set_cons_succ])
  refine wpAnyS_take (i := 5) (v := .int .i64 z) rfl (by kernel_rfl) (by kernel_rfl) (by kernel_rfl) (by kernel_rfl) (by kernel_rfl) (fun _ _ _ h => h) (.inl ⟨by rfl, fun w hSw => by obtain ⟨s1, s2, s3⟩ := hSw; go_simp; all_goals first | with_reducible rfl | (rw [hwq]; done) | (rw [hwm]; done)⟩) hHeld ?_
  (try simp only [Act.put, List.setIfInBounds_toArray, List.set_cons_zero, List.set_cons_succ])
  refine wpAnyS_take (i := 6) (v := .int .i64 d) rfl (by kernel_rfl) (by kernel_rfl) (by kernel_rfl) (by kernel_rfl) (by kernel_rfl) (fun _ _ _ h => h) (.inl ⟨by rfl, fun w hSw => by obtain ⟨s1, s2, s3⟩ := hSw; go_simp; all_goals first | with_reducible rfl | (rw [hwq]; done) | (rw [hwm]; done)⟩) hHeld ?_
  (try simp only [Act.put, List.setIfInBounds_toArray, List.set_cons_zero, List.set_cons_succ])
  refine wpAnyS_take (i := 4) (v := .int .i64 (Int.tdiv z d)) rfl (by kernel_rfl) (by kernel_rfl) (by kernel_rfl) (by kernel_rfl) (by kernel_rfl) (fun _ _ _ h => h) (.inl ⟨by rfl, fun w hSw => by obtain ⟨s1, s2, s3⟩ := hSw; go_simp; all_goals first | with_reducible rfl | (rw [hwq]; done) | (rw [hwm]; done)⟩) hHeld ?_
  (try simp only [Act.put, List.setIfInBounds_toArray, List.set_cons_zero, List.set_cons_succ])
  refine wpAnyS_take (i := 7) (v := .int .i64 (Int.tmod z d)) rfl (by kernel_rfl) (by kernel_rfl) (by kernel_rfl) (by kernel_rfl) (by kernel_rfl) (fun _ _ _ h => h) (.inl ⟨by rfl, fun w hSw => by obtain ⟨s1, s2, s3⟩ := hSw; go_simp; all_goals first | with_reducible rfl | (rw [hwq]; done) | (rw [hwm]; done)⟩) hHeld ?_
  (try simp only [Act.put, List.setIfInBounds_toArray, List.set_cons_zero, List.set_cons_succ])
  refine wpAnyS_take (i := 8) (v := .pointer (some ⟨s + 1, i.toNat, none⟩)) rfl (by kernel_rfl) (by kernel_rfl) (by kernel_rfl) (by kernel_rfl) (by kernel_rfl) (fun _ _ _ h => h) (.inl ⟨by rfl, fun w hSw => by obtain ⟨s1, s2, s3⟩ := hSw; go_simp; all_goals first | with_reducible rfl | (rw [hwq]; done) | (rw [hwm]; done)⟩) hHeld ?_
  (try simp only [Act.put, List.setIfInBounds_toArray, List.set_cons_zero, List.set_cons_succ])
  have hbd1d : Boxed W1.drew s 3 (.int .i64 d) := hbd1
  have hbs1d : Boxed W1.drew (s + 2) 86 (.slice (some ⟨s + 1, 0, none⟩) l0.length l0.length) := hbs1
  have hbr1d : Boxed W1.drew (s + 3) 3 (.int .i64 z) := hbr1
  have hst := (hrow1.kept (w' := W1.drew) (row := none) ⟨rfl, rfl, rfl, Nat.le_refl _, fun _ _ _ => rfl⟩ (.inr (by simp [Value.ownBlock]))).stored i.toNat (.int .i64 (Int.tdiv z d))
  refine wpAnyS_store (i := 9) (w1 := W1.drew.setCell ⟨s + 1, i.toNat, none⟩ (.int .i64 (Int.tdiv z d))) (by kernel_rfl) rfl (by rfl) (by go_simp) (fun _ => ?_) ?_
  ·exact ⟨(hbd1d.kept hst.2 (by simp)).cell, (hbs1d.kept hst.2 (by simp)).cell, (hbr1d.kept hst.2 (by simp)).cell⟩
  (try simp only [Act.put, List.setIfInBounds_toArray, List.set_cons_zero, List.set_cons_succ])
  refine wpAnyS_store (i := 10) (w1 := (W1.drew.setCell ⟨s + 1, i.toNat, none⟩ (.int .i64 (Int.tdiv z d))).setCell ⟨s + 3, 0, none⟩ (.int .i64 (Int.tmod z d))) (by kernel_rfl) rfl (by rfl) (by go_simp) (fun h => by have h' : true = false := h; cases h') ?_
  refine wpAnyS_done (by kernel_rfl) ?_ _
  have hq2 : fld d (pre ++ [⟨(i, v), hx⟩]) = (o.set i.toNat (Int.tdiv z d), Int.tmod z d) := by rw [HX.out, hz']
  refine ⟨((hko.trans (KeepsOthers.drew _)).trans (KeepsOthers.setCell _ _ _)).trans (KeepsOthers.setCell _ _ _), (hkb.drew.setCell (p := ⟨s + 1, i.toNat, none⟩) (by simp) (by simp) _).setCell (p := ⟨s + 3, 0, none⟩) (by simp) (by simp) _, ⟨?_, ?_, ?_, ?_⟩, ((hbB.drew).setCell (p := ⟨s + 1, i.toNat, none⟩) (by simp) _).setCell (p := ⟨s + 3, 0, none⟩) (by simp) _⟩
  ·rw [hq2, List.map_set]
   exact hst.1.kept (grownBy_setCell0_a _ (s + 3) _) (.inr (by simp [Value.ownBlock]))
  ·exact (hbd1d.kept hst.2 (by simp)).kept (grownBy_setCell0_a _ (s + 3) _) (by simp)
  ·exact (hbs1d.kept hst.2 (by simp)).kept (grownBy_setCell0_a _ (s + 3) _) (by simp)
  rw [hq2]
  exact (hbr1d.kept hst.2 (by simp)).set _
 case done =>
  rintro D ys W hD rfl ⟨⟨hrow, hbd, hbs, hbr⟩, hB⟩ hK
  have hfl := fld_length d (bk l0 l0.length)
  obtain ⟨fo, hfo⟩ : ∃ fo, (fld d (bk l0 l0.length)).1 = fo := ⟨_, rfl⟩
  obtain ⟨fr, hfr⟩ : ∃ fr, (fld d (bk l0 l0.length)).2 = fr := ⟨_, rfl⟩
  rw [hfo] at hrow hfl ht
  rw [hfr] at hbr
  simp only [hfr]
  have hR : Kd.R (Kd.int .i64) 3 W.drew w.heap.size (fun k => k = s + 1) (.slice (some ⟨s + 1, 0, none⟩) l0.length l0.length) fo := by
   refine Kd.R_of_own (enc := .int .i64) ?_ (fun k hk => ?_)
   ·have := hrow.kept (w' := W.drew) (row := none) ⟨rfl, rfl, rfl, Nat.le_refl _, fun _ _ _ => rfl⟩ (.inr (by simp [Value.ownBlock]))
    rw [hfl, hs]
    exact this
   simpa [Value.ownBlock] using hk.symm
  have hBd : Below w.heap.size w W.drew := by rw [hs]; exact hB.drew
  have hbsd : Boxed W.drew (s + 2) 86 (.slice (some ⟨s + 1, 0, none⟩) l0.length l0.length) := hbs
  have hbrd : Boxed W.drew (s + 3) 3 (.int .i64 fr) := hbr
  have hKd : W.drew.heap[D]? = some (.deferred (some [])) := hK
  gi_wp2
  refine wpIn_wide.2 ?_
  go_region_held3 (fun w' => w'.cell? ⟨s + 2, 0, none⟩ = some (.slice (some ⟨s + 1, 0, none⟩) l0.length l0.length) ∧ w'.cell? ⟨s + 3, 0, none⟩ = some (.int .i64 fr)) (first | exact ⟨hbsd.cell, hbrd.cell⟩ | exact ⟨hc2.cell, hc3.cell⟩) (first | (go_at_call 147; refine (PA.bItrim.calls k (fun k_ => k_ = s + 1) _ fo t w _ hBd hR ht).mono ?_; rintro e w' ⟨v0, rfl, ho, hb, hk⟩; have hc2 : Boxed w' (s + 2) 86 (.slice (some ⟨s + 1, 0, none⟩) l0.length l0.length) := (hk.2 (s + 2) hbsd.lt (by omega)).trans hbsd; have hc3 : Boxed w' (s + 3) 3 (.int .i64 fr) := (hk.2 (s + 3) hbrd.lt (by omega)).trans hbrd))
  gi_wp2
  refine ⟨by simp, .inl ⟨_, _, rfl, run_takeDeferred (show w'.heap[D]? = some (.deferred (some [])) from (hk.2 D (Array.getElem?_eq_some_iff.1 hKd).1 (by omega)).trans hKd), ?_⟩⟩
  have hKe : w'.heap[D]? = some (.deferred (some [])) := (hk.2 D (Array.getElem?_eq_some_iff.1 hKd).1 (by omega)).trans hKd
  refine ⟨.tuple #[v0, .int .i64 fr], ?_, v0, by rw [hfr], ?_, hb.trans (by rw [hs]; exact belowK_b (w := w) (by omega) w' D _ _ (by omega) hKe rfl rfl)⟩
  ·simp [results, Tryz.f146, go_sem]
  obtain ⟨inner, ho2⟩ := Kd.R_own ho
  have hne := ownsRow_ne_a ho2 hKe (fun cur e => by cases e)
  exact Kd.R_mono (Kd.R_grown (Kd.R_tight rfl ho) (grownBy_putObj' w' D (.deferred none)) (fun k hk e => by rw [← hk] at hne; rcases hne with h | h; exact (by cases h); exact h e)) (fun _ _ => trivial)
 case stop =>
  rintro D c pre W hD hp hf hK
  exact hf.elim
theorem bIshort.calls (k : Nat) (A0 : Option Addr) (c0 : Nat) (l0 : List Int) (a1 : Int) (r1 : List Int) (r2 : Int) (w : World) (hr0 : Kd.C (Kd.int .i64) w A0 l0.length l0) (hc0 : l0.length ≤ c0) (h : bIshort.f k l0 a1 = some (r1, r2)) :
  Calls Tryz.prog 146 #[.slice A0 l0.length c0, .int .i64 a1] w fun e w' => ∃ v0_ : Value, e = .returned (.tuple #[v0_, .int .i64 r2]) ∧ Kd.R (Kd.int .i64) 3 w' w.heap.size (fun _ => True) v0_ r1 ∧ Below w.heap.size w w' := by
 unfold bIshort.f at h
 split at h
 ·rename_i hc
  obtain ⟨t, ht, h⟩ := Option.bind_eq_some_iff.mp h
  simp only [Option.some.injEq, Prod.mk.injEq] at h
  obtain ⟨rfl, rfl⟩ := h
  exact callsIn_wide.1 (short_in 3 (by omega) A0 c0 l0 a1 k t w hr0 hc.1 hc.2.1 hc.2.2.1 hc.2.2.2 ht)
 cases h
open Go.RowKit Go.Proofs.YthnfajboebaajaaGreatDoorW.PrintWords Go.Proofs.YthnfajboebaajaaGreatDoorW.PrintLast Go.Proofs.YthnfajboebaajaaGreatDoorW.PrintMore
theorem add_off (g o j : Nat) : (⟨g, o, none⟩ : Addr).add j = ⟨g, o + j, none⟩ := by unfold Addr.add; split <;> simp_all
def WR (pre post : List Int) (o cF : Nat) (w : World) (base : Nat) (ok : Nat → Prop) (v : Value) (xs : List Int) : Prop :=
 (∀ k, v.ownBlock = some k → ok k) ∧ pre.length = o ∧ ∃ g cap, v = .slice (some ⟨g, o, none⟩) xs.length cap ∧ xs.length ≤ cap ∧ Kd.R (Kd.int .i64) 3 w base (fun k => k = g) (.slice (some ⟨g, 0, none⟩) (pre ++ xs ++ post).length cF) (pre ++ xs ++ post)
section
variable {pre post xs : List Int} {o cF base n c g cap : Nat} {w w' w1 W : World} {ok ok' ok1 : Nat → Prop} {v : Value} {A : Option Addr}
theorem WR_mono (h : WR pre post o cF w base ok v xs) (hok : ∀ k, ok k → ok' k) : WR pre post o cF w base ok' v xs := ⟨fun k hk => hok k (h.1 k hk), h.2⟩
theorem WR_below (h : WR pre post o cF w base ok v xs) (hb : Below w.heap.size w w1) : WR pre post o cF w1 base ok v xs := by
 obtain ⟨h0, ho, g, cap, hv, hl, hr⟩ := h
 exact ⟨h0, ho, g, cap, hv, hl, Kd.R_below hr hb⟩
theorem WR_alloc (h : WR pre post o cF w base ok v xs) (b : Obj) : WR pre post o cF (w.alloc b) base ok v xs := WR_below h (below_alloc (Below.refl _ _) b)
theorem WR_drew (h : WR pre post o cF w base ok v xs) : WR pre post o cF w.drew base ok v xs := WR_below h (below_drew (Below.refl _ _))
theorem WR_drewN (h : WR pre post o cF w base ok v xs) (m : Nat) : WR pre post o cF (w.drewN m) base ok v xs := WR_below h (pw_below_drewN (Below.refl _ _) m)
theorem WR_at {m : Nat} (hq : w.drewN m = w') (h : WR pre post o cF w base ok v xs) : WR pre post o cF w' base ok v xs := by subst hq; exact WR_drewN h m
theorem WR_slice (h : WR pre post o cF w base ok v xs) : ∃ A c, v = .slice A xs.length c := by
 obtain ⟨_, _, g, cap, hv, _⟩ := h
 exact ⟨_, _, hv⟩
theorem WR_tight (_ : (Kd.int .i64).E = []) (h : WR pre post o cF w base ok v xs) : WR pre post o cF w base (fun k => some k = v.ownBlock) v xs := ⟨fun _ hk => hk.symm, h.2⟩
theorem WR_reok (hE : (Kd.int .i64).E = []) (h : WR pre post o cF w base ok1 v xs) (hok : ∀ k, v.ownBlock = some k → ok k) : WR pre post o cF w base ok v xs := WR_mono (WR_tight hE h) (fun k hk => hok k hk.symm)
theorem WR_full (h : WR pre post o cF w base ok (.slice (some ⟨g, o, none⟩) n cap) xs) : n = xs.length ∧ n ≤ cap ∧ pre.length = o ∧ ok g ∧ Kd.R (Kd.int .i64) 3 w base (fun k => k = g) (.slice (some ⟨g, 0, none⟩) (pre ++ xs ++ post).length cF) (pre ++ xs ++ post) := by
 obtain ⟨h0, ho, g', cap', hv, hl, hr⟩ := h
 simp only [Value.slice.injEq, Option.some.injEq, Addr.mk.injEq, and_true] at hv
 obtain ⟨rfl, rfl, rfl⟩ := hv
 exact ⟨rfl, hl, ho, h0 _ (by simp [Value.ownBlock]), hr⟩
theorem WR_form (h : WR pre post o cF w base ok v xs) (hp : 0 < xs.length) : ∃ g cap, v = .slice (some ⟨g, o, none⟩) xs.length cap ∧ base ≤ g ∧ g < w.heap.size ∧ ∃ cells, w.heap[g]? = some (.cells cells 3 (0, 0)) := by
 obtain ⟨h0, ho, g, cap, hv, hl, hr⟩ := h
 obtain ⟨g', cap', he, hb, hlt, hc⟩ := Kd.R_form hr (by simp; omega)
 simp only [Value.slice.injEq, Option.some.injEq, Addr.mk.injEq, and_true, true_and] at he
 obtain ⟨rfl, rfl⟩ := he
 exact ⟨g, cap, hv, hb, hlt, hc⟩
theorem WR_slice2 (h : WR pre post o cF w base ok v xs) : ∃ g c, v = .slice (some ⟨g, o, none⟩) xs.length c := by
 obtain ⟨_, _, g, cap, hv, _⟩ := h
 exact ⟨_, _, hv⟩
theorem WR_form2 (h : WR pre post o cF w base ok (.slice (some ⟨g, o, none⟩) n c) xs) (hp : 0 < xs.length) : base ≤ g ∧ g < w.heap.size ∧ ∃ cells, w.heap[g]? = some (.cells cells 3 (0, 0)) := by
 obtain ⟨g', cap', he, h1, h2, h3⟩ := WR_form h hp
 simp only [Value.slice.injEq, Option.some.injEq, Addr.mk.injEq, and_true] at he
 obtain ⟨rfl, _, _⟩ := he
 exact ⟨h1, h2, h3⟩
theorem WR_celln (d : Int) (h : WR pre post o cF W base ok (.slice (some ⟨g, o, none⟩) n cap) xs) (i : Int) (h0 : 0 ≤ i) (hi : i < n) : W.cell? ⟨g, o + i.toNat, none⟩ = some (.int .i64 (rdOf d xs i)) ∧ W.frozen? ⟨g, o + i.toNat, none⟩ = false := by
 obtain ⟨rfl, _, ho, _, hr⟩ := WR_full h
 have hk := Kd.R_celln d hr ((o + i.toNat : Nat) : Int) (by omega) (by simp; omega)
 rw [Int.toNat_natCast] at hk
 refine ⟨?_, hk.2⟩
 rw [hk.1]
 congr 2
 unfold rdOf
 rw [Int.toNat_natCast, List.append_assoc, List.getD_eq_getElem?_getD, List.getD_eq_getElem?_getD, List.getElem?_append_right (by omega), ho, Nat.add_sub_cancel_left, List.getElem?_append_left (by omega)]
theorem WR_reads' (h : WR pre post o cF w base ok (.slice A n c) xs) : n = xs.length ∧ n ≤ c ∧ Kd.C (Kd.int .i64) w A xs.length xs := by
 obtain ⟨A', c', hA⟩ := WR_slice h
 obtain ⟨h0, ho, g, cap, hv, hl, hr⟩ := h
 simp only [Value.slice.injEq] at hv
 obtain ⟨rfl, rfl, rfl⟩ := hv
 have hmax := Kd.C_max (Kd.R_reads' hr).2.2
 refine ⟨rfl, hl, Kd.C_of_reads (d := (0 : Int)) ⟨rfl, by simp at hmax; omega, fun _ => ⟨_, rfl, fun j hj => ?_⟩⟩⟩
 have hk := (WR_celln (ok := fun _ => True) 0 ⟨fun _ _ => trivial, ho, g, _, rfl, hl, hr⟩ (j : Int) (by omega) (by omega)).1
 simp only [Int.toNat_natCast, rdOf] at hk
 rw [add_off]
 exact hk
theorem WR_putg (h : WR pre post o cF W base ok (.slice (some ⟨g, o, none⟩) n cap) xs) (i : Int) (hi : i.toNat < xs.length) (x : Int) : WR pre post o cF (W.setCell ⟨g, o + i.toNat, none⟩ (.int .i64 x)) base ok (.slice (some ⟨g, o, none⟩) n cap) (xs.set i.toNat x) ∧ W.grownBy (W.setCell ⟨g, o + i.toNat, none⟩ (.int .i64 x)) (some g) := by
 obtain ⟨hn, hl, ho, hok, hr⟩ := WR_full h
 have hk := Kd.R_putg hr ((o + i.toNat : Nat) : Int) x
 rw [Int.toNat_natCast] at hk
 have e : (pre ++ xs ++ post).set (o + i.toNat) x = pre ++ xs.set i.toNat x ++ post := by
  rw [List.append_assoc, List.set_append_right _ _ (by omega), ho, Nat.add_sub_cancel_left, List.set_append_left _ _ (by omega), List.append_assoc]
 rw [e] at hk
 refine ⟨⟨h.1, ho, g, cap, by rw [List.length_set, hn], by rw [List.length_set]; omega, ?_⟩, hk.2⟩
 have e2 : (pre ++ xs.set i.toNat x ++ post).length = (pre ++ xs ++ post).length := by simp
 rw [e2]
 exact hk.1
end
open Go.RowKit Go.Proofs.YthnfajboebaajaaGreatDoorW.PrintWords Go.Proofs.YthnfajboebaajaaGreatDoorW.PrintLast Go.Proofs.YthnfajboebaajaaGreatDoorW.PrintMore PA
attribute [local go_sem] max2_int min2_int max_two min_two max_three min_three max_four min_four
set_option linter.unusedVariables false
set_option linter.unusedSimpArgs false
theorem bIsubtract.calls {pre post : List Int} {oW cF : Nat} (k : Nat) (P0_ : Nat → Prop) (u9000_ : Value) (l0 : List Int) (A1 : Option Addr) (c1 : Nat) (l1 : List Int) (a2 : Int) (r1 : Bool) (r2 : List Int) (w0 w : World) (hB : Below w0.heap.size w0 w) (ho0 : WR pre post oW cF w w0.heap.size P0_ u9000_ l0) (hr1 : ∀ W_, Kept w W_ (fun k_ => P0_ k_) → Kd.C (Kd.int .i64) W_ A1 l1.length l1) (hc1 : l1.length ≤ c1) (h : bIsubtract.f k l0 l1 a2 = some (r1, r2)) :
  Calls Tryz.prog 178 #[u9000_, .slice A1 l1.length c1, .int .i64 a2] w fun e w' => e = .returned (.bool r1) ∧ WR pre post oW cF w' w0.heap.size (fun k_ => (P0_ k_ ∨ w.heap.size ≤ k_)) u9000_ r2 ∧ Below w0.heap.size w0 w' ∧ Kept w w' (fun k_ => P0_ k_) := by
 have HO0 := Aside0.mk (show WR pre post oW cF w w0.heap.size (fun k_ => (P0_ k_ ∨ w.heap.size ≤ k_)) u9000_ l0 from WR_mono ho0 (fun k_ hk => (.inl hk)))
 have HR1 := Aside0.mk hr1
 have HC1 := Aside0.mk hc1
 clear hr1 hc1
 have HK := Aside0.mk (Kept.refl w (fun k_ => P0_ k_))
 have HW0 := Aside0.mk hB.size
 have HB := Aside0.mk hB
 clear hB
 have H := h
 clear h
 unfold bIsubtract.f at H
 have H' := Aside0.mk H
 clear H
 obtain ⟨Ao4, co4, eo4⟩ := WR_slice HO0.out
 subst eo4
 go_enter Tryz.func178, Tryz.ntmps178
 go_wp2
 go_loopg [7, 12] k (fun kq v7 v12 w' => ∃ (x0_1 : List Int) (x7_1 : Int) (x12_1 : Int), v7 = .int .i64 x7_1 ∧ v12 = .int .i64 x12_1 ∧ Aside0 (bIsubtract.l0 kq x0_1 l1 a2 x7_1 (l0.length : Int) x12_1 = some (r1, r2)) ∧ Aside0 (kq ≤ k) ∧ Aside0 (WR pre post oW cF w' w0.heap.size (fun k_ => (P0_ k_ ∨ w.heap.size ≤ k_)) (.slice Ao4 l0.length co4) x0_1) ∧ Aside0 (Kept w w' (fun k_ => P0_ k_)) ∧ Aside0 (Below w0.heap.size w0 w'))
 case atStart => exact ⟨(l0), (0), (0), fs, fs, H', ⟨Nat.le_refl _⟩, ⟨by (with_reducible repeat (first | apply WR_alloc | apply WR_drewN | apply WR_drew)); exact HO0.out⟩, ⟨kqs⟩, ⟨bqs⟩⟩
 case round =>
  clear H'
  try clear c1
  try clear p2
  obtain ⟨x0_1, x7_1, x12_1, rfl, rfl, HA, HK1, HO_0, HK, HB⟩ := hrel
  have hl0_1 := (WR_reads' HO_0.out).1
  rw [hl0_1] at HO_0
  (try simp only [hl0_1])
  cases gk with
  | zero => exact absurd HA.out (by simp [bIsubtract.l0])
  | succ k1 =>
   have H := HA.out
   clear HA
   simp only [bIsubtract.l0] at H
   rcases jd H with ⟨c5, c5b0, H⟩ | ⟨c5, c5b0, H⟩
   ·(try (have c5b0_ := c5b0; rw [hl0_1] at c5b0_))
    clear c5
    rcases jd H with ⟨c6, c6b0, H⟩ | ⟨c6, c6b0, H⟩
    ·(try (have c6b0_ := c6b0; rw [hl0_1] at c6b0_))
     clear c6
     obtain ⟨-, c7b0, H⟩ := gd H
     obtain ⟨c8, c8b0, H⟩ := gd H
     (try (have c8b0_ := c8b0; rw [hl0_1] at c8b0_))
     clear c8
     rcases jd H with ⟨-, c9b0, H⟩ | ⟨-, c9b0, H⟩
     ·obtain ⟨y125, hy125⟩ : ∃ y_ : List Int, y_ = (x0_1.set (x12_1 : Int).toNat (wrap64 ((wrap64 ((rd x0_1 x12_1) - (Int.tmod (wrap64 (x7_1 + (wrap64 (a2 * (rd l1 x12_1))))) 1000000000))) + 1000000000))) := ⟨_, rfl⟩
      replace H : (bIsubtract.l0 k1 y125 l1 a2 (wrap64 ((wrap64 (Int.tdiv (wrap64 (x7_1 + (wrap64 (a2 * (rd l1 x12_1))))) 1000000000)) + 1)) (l0.length : Int) (wrap64 (x12_1 + 1))) = some (r1, r2) := by first | (rw [hy125]; with_reducible exact H) | (have H2_ := (Option.bind_some _ _).symm.trans H; rw [hy125]; with_reducible exact H2_) | (have H2_ := (Option.bind_some _ _).symm.trans H; with_reducible exact H2_) | with_reducible exact H | (rw [hy125]; exact H) | exact H
      have Ny125 := Aside0.mk hy125
      clear hy125
      have H' := Aside0.mk H
      clear H
      obtain ⟨ad123, e123, hx123_0, p123, q123⟩ := atI (Kd.C_kept_now HR1.out HK.out) x12_1
      cases e123
      obtain ⟨ad124, e124, hx124_0, p124, q124⟩ := atI (WR_reads' HO_0.out).2.2 x12_1
      cases e124
      have p10 : 0 ≤ (x12_1 : Int) := od
      have q10 : (x12_1 : Int) < ((x0_1.length : Int) : Int) := od
      obtain ⟨go10, co10, eo10, gb10, gl10, cl10, HG10⟩ := WR_form HO_0.out (by omega)
      (first | cases eo10 | (injection eo10 with ea_ en_ ec_; (first | subst ea_ | (injection ea_ with ea_; subst ea_)); subst ec_; clear en_))
      have GB10 := Aside0.mk gb10
      have GG10 := Aside0.mk HG10
      clear gb10 gl10 HG10
      have HMgo10 := Aside0.mk (show (P0_ go10 ∨ w.heap.size ≤ go10) from (HO_0.out.1 _ rfl))
      (first | simp only [add_off] at hx124_0 | skip)
      obtain ⟨hx10_0, hf10_0⟩ := WR_celln 0 HO_0.out (x12_1 : Int) p10 q10
      replace p10 := eq_true p10
      replace q10 := eq_true q10
      have HP11 := WR_putg HO_0.out (x12_1 : Int) (by have h1_ := of_eq_true p10; have h2_ := of_eq_true q10; omega) (wrap64 ((wrap64 ((rd x0_1 x12_1) - (Int.tmod (wrap64 (x7_1 + (wrap64 (a2 * (rd l1 x12_1))))) 1000000000))) + 1000000000))
      go_wp2_with (first | ((with_reducible refine gate_store (t := 3) (p := 45) rfl ?_); refine store_event (t := 3) (p := 45) (v := ?vo_w12) (w1 := (wr.setCell ⟨go10, oW + (x12_1 : Int).toNat, none⟩ (.int .i64 (wrap64 ((wrap64 ((rd x0_1 x12_1) - (Int.tmod (wrap64 (x7_1 + (wrap64 (a2 * (rd l1 x12_1))))) 1000000000))) + 1000000000))))) ?hg ?ho ?hn ?hr ?_; (case ho => rfl); (case hg => rfl); (case hn => rfl); (case hr => first | (go_simp; done) | (go_simp; rfl)); intro w12 hw; have hg : wr.grownBy w12 (some go10) := (by rw [hw]; exact HP11.2); have hp_ : WR pre post oW cF w12 w0.heap.size (fun k_ => (P0_ k_ ∨ w.heap.size ≤ k_)) (.slice (some ⟨go10, oW, none⟩) x0_1.length co4) y125 := (by rw [hw, Ny125.out]; exact HP11.1); clear HP11; have n0_ := Aside0.mk (hp_); have n1_ := Aside0.mk ((by rw [hw]; exact below_set (HB.out) GB10.out : Below w0.heap.size w0 w12)); have n2_ := Aside0.mk (Kept.of_grown (S := (fun k_ => P0_ k_)) hg kqs (fun k_ e_ => (HO_0.out.1 k_ e_))); clear HO_0; clear HB; clear HK; have HO_0 := n0_; have HB := n1_; have HK := n2_; clear n0_ n1_ n2_; clear hg hw hp_))
      (try simp only [← hl0_1])
      go_roundg k1
      case measure => have := HK1.out; omega
      case rel => exact ⟨(y125), (wrap64 ((wrap64 (Int.tdiv (wrap64 (x7_1 + (wrap64 (a2 * (rd l1 x12_1))))) 1000000000)) + 1)), (wrap64 (x12_1 + 1)), fs, fs, H', ⟨by have := HK1.out; omega⟩, ⟨by (try simp only [hl0_1]); (with_reducible repeat (first | apply WR_alloc | apply WR_drewN | apply WR_drew)); exact HO_0.out⟩, ⟨kqs⟩, ⟨bqs⟩⟩
     obtain ⟨y126, hy126⟩ : ∃ y_ : List Int, y_ = (x0_1.set (x12_1 : Int).toNat (wrap64 ((rd x0_1 x12_1) - (Int.tmod (wrap64 (x7_1 + (wrap64 (a2 * (rd l1 x12_1))))) 1000000000)))) := ⟨_, rfl⟩
     replace H : (bIsubtract.l0 k1 y126 l1 a2 (wrap64 (Int.tdiv (wrap64 (x7_1 + (wrap64 (a2 * (rd l1 x12_1))))) 1000000000)) (l0.length : Int) (wrap64 (x12_1 + 1))) = some (r1, r2) := by first | (rw [hy126]; with_reducible exact H) | (have H2_ := (Option.bind_some _ _).symm.trans H; rw [hy126]; with_reducible exact H2_) | (have H2_ := (Option.bind_some _ _).symm.trans H; with_reducible exact H2_) | with_reducible exact H | (rw [hy126]; exact H) | exact H
     have Ny126 := Aside0.mk hy126
     clear hy126
     have H' := Aside0.mk H
     clear H
     obtain ⟨ad123, e123, hx123_0, p123, q123⟩ := atI (Kd.C_kept_now HR1.out HK.out) x12_1
     cases e123
     obtain ⟨ad124, e124, hx124_0, p124, q124⟩ := atI (WR_reads' HO_0.out).2.2 x12_1
     cases e124
     have p13 : 0 ≤ (x12_1 : Int) := od
     have q13 : (x12_1 : Int) < ((x0_1.length : Int) : Int) := od
     obtain ⟨go13, co13, eo13, gb13, gl13, cl13, HG13⟩ := WR_form HO_0.out (by omega)
     (first | cases eo13 | (injection eo13 with ea_ en_ ec_; (first | subst ea_ | (injection ea_ with ea_; subst ea_)); subst ec_; clear en_))
     have GB13 := Aside0.mk gb13
     have GG13 := Aside0.mk HG13
     clear gb13 gl13 HG13
     have HMgo13 := Aside0.mk (show (P0_ go13 ∨ w.heap.size ≤ go13) from (HO_0.out.1 _ rfl))
     (first | simp only [add_off] at hx124_0 | skip)
     obtain ⟨hx13_0, hf13_0⟩ := WR_celln 0 HO_0.out (x12_1 : Int) p13 q13
     replace p13 := eq_true p13
     replace q13 := eq_true q13
     have HP14 := WR_putg HO_0.out (x12_1 : Int) (by have h1_ := of_eq_true p13; have h2_ := of_eq_true q13; omega) (wrap64 ((rd x0_1 x12_1) - (Int.tmod (wrap64 (x7_1 + (wrap64 (a2 * (rd l1 x12_1))))) 1000000000)))
     go_wp2_with (first | ((with_reducible refine gate_store (t := 3) (p := 45) rfl ?_); refine store_event (t := 3) (p := 45) (v := ?vo_w15) (w1 := (wr.setCell ⟨go13, oW + (x12_1 : Int).toNat, none⟩ (.int .i64 (wrap64 ((rd x0_1 x12_1) - (Int.tmod (wrap64 (x7_1 + (wrap64 (a2 * (rd l1 x12_1))))) 1000000000)))))) ?hg ?ho ?hn ?hr ?_; (case ho => rfl); (case hg => rfl); (case hn => rfl); (case hr => first | (go_simp; done) | (go_simp; rfl)); intro w15 hw; have hg : wr.grownBy w15 (some go13) := (by rw [hw]; exact HP14.2); have hp_ : WR pre post oW cF w15 w0.heap.size (fun k_ => (P0_ k_ ∨ w.heap.size ≤ k_)) (.slice (some ⟨go13, oW, none⟩) x0_1.length co4) y126 := (by rw [hw, Ny126.out]; exact HP14.1); clear HP14; have n0_ := Aside0.mk (hp_); have n1_ := Aside0.mk ((by rw [hw]; exact below_set (HB.out) GB13.out : Below w0.heap.size w0 w15)); have n2_ := Aside0.mk (Kept.of_grown (S := (fun k_ => P0_ k_)) hg kqs (fun k_ e_ => (HO_0.out.1 k_ e_))); clear HO_0; clear HB; clear HK; have HO_0 := n0_; have HB := n1_; have HK := n2_; clear n0_ n1_ n2_; clear hg hw hp_))
     (try simp only [← hl0_1])
     go_roundg k1
     case measure => have := HK1.out; omega
     case rel => exact ⟨(y126), (wrap64 (Int.tdiv (wrap64 (x7_1 + (wrap64 (a2 * (rd l1 x12_1))))) 1000000000)), (wrap64 (x12_1 + 1)), fs, fs, H', ⟨by have := HK1.out; omega⟩, ⟨by (try simp only [hl0_1]); (with_reducible repeat (first | apply WR_alloc | apply WR_drewN | apply WR_drew)); exact HO_0.out⟩, ⟨kqs⟩, ⟨bqs⟩⟩
    (try (have c6b0_ := c6b0; rw [hl0_1] at c6b0_))
    clear c6
    obtain ⟨-, c16b0, H⟩ := gd H
    obtain ⟨c17, c17b0, H⟩ := gd H
    (try (have c17b0_ := c17b0; rw [hl0_1] at c17b0_))
    clear c17
    rcases jd H with ⟨-, c18b0, H⟩ | ⟨-, c18b0, H⟩
    ·obtain ⟨y128, hy128⟩ : ∃ y_ : List Int, y_ = (x0_1.set (x12_1 : Int).toNat (wrap64 ((wrap64 ((rd x0_1 x12_1) - (Int.tmod x7_1 1000000000))) + 1000000000))) := ⟨_, rfl⟩
     replace H : (bIsubtract.l0 k1 y128 l1 a2 (wrap64 ((wrap64 (Int.tdiv x7_1 1000000000)) + 1)) (l0.length : Int) (wrap64 (x12_1 + 1))) = some (r1, r2) := by first | (rw [hy128]; with_reducible exact H) | (have H2_ := (Option.bind_some _ _).symm.trans H; rw [hy128]; with_reducible exact H2_) | (have H2_ := (Option.bind_some _ _).symm.trans H; with_reducible exact H2_) | with_reducible exact H | (rw [hy128]; exact H) | exact H
     have Ny128 := Aside0.mk hy128
     clear hy128
     have H' := Aside0.mk H
     clear H
     obtain ⟨ad127, e127, hx127_0, p127, q127⟩ := atI (WR_reads' HO_0.out).2.2 x12_1
     cases e127
     have p19 : 0 ≤ (x12_1 : Int) := od
     have q19 : (x12_1 : Int) < ((x0_1.length : Int) : Int) := od
     obtain ⟨go19, co19, eo19, gb19, gl19, cl19, HG19⟩ := WR_form HO_0.out (by omega)
     (first | cases eo19 | (injection eo19 with ea_ en_ ec_; (first | subst ea_ | (injection ea_ with ea_; subst ea_)); subst ec_; clear en_))
     have GB19 := Aside0.mk gb19
     have GG19 := Aside0.mk HG19
     clear gb19 gl19 HG19
     have HMgo19 := Aside0.mk (show (P0_ go19 ∨ w.heap.size ≤ go19) from (HO_0.out.1 _ rfl))
     (first | simp only [add_off] at hx127_0 | skip)
     obtain ⟨hx19_0, hf19_0⟩ := WR_celln 0 HO_0.out (x12_1 : Int) p19 q19
     replace p19 := eq_true p19
     replace q19 := eq_true q19
     have HP20 := WR_putg HO_0.out (x12_1 : Int) (by have h1_ := of_eq_true p19; have h2_ := of_eq_true q19; omega) (wrap64 ((wrap64 ((rd x0_1 x12_1) - (Int.tmod x7_1 1000000000))) + 1000000000))
     go_wp2_with (first | ((with_reducible refine gate_store (t := 3) (p := 45) rfl ?_); refine store_event (t := 3) (p := 45) (v := ?vo_w21) (w1 := (wr.setCell ⟨go19, oW + (x12_1 : Int).toNat, none⟩ (.int .i64 (wrap64 ((wrap64 ((rd x0_1 x12_1) - (Int.tmod x7_1 1000000000))) + 1000000000))))) ?hg ?ho ?hn ?hr ?_; (case ho => rfl); (case hg => rfl); (case hn => rfl); (case hr => first | (go_simp; done) | (go_simp; rfl)); intro w21 hw; have hg : wr.grownBy w21 (some go19) := (by rw [hw]; exact HP20.2); have hp_ : WR pre post oW cF w21 w0.heap.size (fun k_ => (P0_ k_ ∨ w.heap.size ≤ k_)) (.slice (some ⟨go19, oW, none⟩) x0_1.length co4) y128 := (by rw [hw, Ny128.out]; exact HP20.1); clear HP20; have n0_ := Aside0.mk (hp_); have n1_ := Aside0.mk ((by rw [hw]; exact below_set (HB.out) GB19.out : Below w0.heap.size w0 w21)); have n2_ := Aside0.mk (Kept.of_grown (S := (fun k_ => P0_ k_)) hg kqs (fun k_ e_ => (HO_0.out.1 k_ e_))); clear HO_0; clear HB; clear HK; have HO_0 := n0_; have HB := n1_; have HK := n2_; clear n0_ n1_ n2_; clear hg hw hp_))
     (try simp only [← hl0_1])
     go_roundg k1
     case measure => have := HK1.out; omega
     case rel => exact ⟨(y128), (wrap64 ((wrap64 (Int.tdiv x7_1 1000000000)) + 1)), (wrap64 (x12_1 + 1)), fs, fs, H', ⟨by have := HK1.out; omega⟩, ⟨by (try simp only [hl0_1]); (with_reducible repeat (first | apply WR_alloc | apply WR_drewN | apply WR_drew)); exact HO_0.out⟩, ⟨kqs⟩, ⟨bqs⟩⟩
    obtain ⟨y129, hy129⟩ : ∃ y_ : List Int, y_ = (x0_1.set (x12_1 : Int).toNat (wrap64 ((rd x0_1 x12_1) - (Int.tmod x7_1 1000000000)))) := ⟨_, rfl⟩
    replace H : (bIsubtract.l0 k1 y129 l1 a2 (wrap64 (Int.tdiv x7_1 1000000000)) (l0.length : Int) (wrap64 (x12_1 + 1))) = some (r1, r2) := by first | (rw [hy129]; with_reducible exact H) | (have H2_ := (Option.bind_some _ _).symm.trans H; rw [hy129]; with_reducible exact H2_) | (have H2_ := (Option.bind_some _ _).symm.trans H; with_reducible exact H2_) | with_reducible exact H | (rw [hy129]; exact H) | exact H
    have Ny129 := Aside0.mk hy129
    clear hy129
    have H' := Aside0.mk H
    clear H
    obtain ⟨ad127, e127, hx127_0, p127, q127⟩ := atI (WR_reads' HO_0.out).2.2 x12_1
    cases e127
    have p22 : 0 ≤ (x12_1 : Int) := od
    have q22 : (x12_1 : Int) < ((x0_1.length : Int) : Int) := od
    obtain ⟨go22, co22, eo22, gb22, gl22, cl22, HG22⟩ := WR_form HO_0.out (by omega)
    (first | cases eo22 | (injection eo22 with ea_ en_ ec_; (first | subst ea_ | (injection ea_ with ea_; subst ea_)); subst ec_; clear en_))
    have GB22 := Aside0.mk gb22
    have GG22 := Aside0.mk HG22
    clear gb22 gl22 HG22
    have HMgo22 := Aside0.mk (show (P0_ go22 ∨ w.heap.size ≤ go22) from (HO_0.out.1 _ rfl))
    (first | simp only [add_off] at hx127_0 | skip)
    obtain ⟨hx22_0, hf22_0⟩ := WR_celln 0 HO_0.out (x12_1 : Int) p22 q22
    replace p22 := eq_true p22
    replace q22 := eq_true q22
    have HP23 := WR_putg HO_0.out (x12_1 : Int) (by have h1_ := of_eq_true p22; have h2_ := of_eq_true q22; omega) (wrap64 ((rd x0_1 x12_1) - (Int.tmod x7_1 1000000000)))
    go_wp2_with (first | ((with_reducible refine gate_store (t := 3) (p := 45) rfl ?_); refine store_event (t := 3) (p := 45) (v := ?vo_w24) (w1 := (wr.setCell ⟨go22, oW + (x12_1 : Int).toNat, none⟩ (.int .i64 (wrap64 ((rd x0_1 x12_1) - (Int.tmod x7_1 1000000000)))))) ?hg ?ho ?hn ?hr ?_; (case ho => rfl); (case hg => rfl); (case hn => rfl); (case hr => first | (go_simp; done) | (go_simp; rfl)); intro w24 hw; have hg : wr.grownBy w24 (some go22) := (by rw [hw]; exact HP23.2); have hp_ : WR pre post oW cF w24 w0.heap.size (fun k_ => (P0_ k_ ∨ w.heap.size ≤ k_)) (.slice (some ⟨go22, oW, none⟩) x0_1.length co4) y129 := (by rw [hw, Ny129.out]; exact HP23.1); clear HP23; have n0_ := Aside0.mk (hp_); have n1_ := Aside0.mk ((by rw [hw]; exact below_set (HB.out) GB22.out : Below w0.heap.size w0 w24)); have n2_ := Aside0.mk (Kept.of_grown (S := (fun k_ => P0_ k_)) hg kqs (fun k_ e_ => (HO_0.out.1 k_ e_))); clear HO_0; clear HB; clear HK; have HO_0 := n0_; have HB := n1_; have HK := n2_; clear n0_ n1_ n2_; clear hg hw hp_))
    (try simp only [← hl0_1])
    go_roundg k1
    case measure => have := HK1.out; omega
    case rel => exact ⟨(y129), (wrap64 (Int.tdiv x7_1 1000000000)), (wrap64 (x12_1 + 1)), fs, fs, H', ⟨by have := HK1.out; omega⟩, ⟨by (try simp only [hl0_1]); (with_reducible repeat (first | apply WR_alloc | apply WR_drewN | apply WR_drew)); exact HO_0.out⟩, ⟨kqs⟩, ⟨bqs⟩⟩
   (try (have c5b0_ := c5b0; rw [hl0_1] at c5b0_))
   clear c5
   simp only [Option.some.injEq, Prod.mk.injEq] at H
   obtain ⟨rfl, rfl⟩ := H
   go_wp2
   go_ret
   exact ⟨fe, (by first | exact (by (with_reducible repeat (first | apply WR_alloc | apply WR_drewN | apply WR_drew)); exact HO_0.out) | (simp only [hl0_1]; exact (by (with_reducible repeat (first | apply WR_alloc | apply WR_drewN | apply WR_drew)); exact HO_0.out))), bqs, kqs⟩
end Go.Proofs.YthnfajboebaajaaGreatDoor
