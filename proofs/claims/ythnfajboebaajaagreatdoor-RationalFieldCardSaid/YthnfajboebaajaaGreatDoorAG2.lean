import Derived.Test.YthnfajboebaajaaGreatDoorAD
import Derived.Test.YthnfajboebaajaaGreatDoorAG1
import Derived.Lib.OthersKept
import Derived.LoopN
set_option maxHeartbeats 8000000
set_option maxRecDepth 100000
set_option linter.unusedVariables false
namespace Go.Proofs.YthnfajboebaajaaGreatDoor
set_option linter.unusedVariables false
set_option linter.unusedSimpArgs false
open Go.RowKit Go.Shelf Go.Proofs.WWords
attribute [local go_sem] Oper.semAt_some
theorem tacc_snoc (neg : Bool) {zs : List Int} (pre : List (BkT zs)) (x : BkT zs) : tacc neg (pre ++ [x]) = tacc neg pre ++ tstep zs.length x.1.1 x.1.2 := by simp [tacc]
theorem repeatL_length (k : Nat) : (Lib.repeatL [48] k).length = k := by
 induction k with
 | zero => rfl
 | succ k ih => simp [Lib.repeatL, ih]
theorem txt_small {v : Int} (h0 : 0 ≤ v) (h1 : v < 1000000000) : (Sv.txt v).size ≤ 9 := by
 rw [Sv.txt_size, if_neg (by omega)]
 have := Sv.nd_le (n := v) (k := 9) (by decide) (by omega)
 omega
theorem txtL_size (v : Int) : (Sv.txtL v).length = (Sv.txt v).size := by simp [Sv.txt, ByteArray.size]
theorem tstep_length {n : Nat} {i v : Int} (h0 : 0 ≤ v) (h1 : v < 1000000000) : (tstep n i v).length ≤ 9 := by
 have := txt_small h0 h1
 have h2 := txtL_size v
 unfold tstep
 split
 ·rw [List.length_append, repeatL_length]; omega
 omega
theorem tacc_length (neg : Bool) {zs : List Int} (hz : Sv.Digs Sv.LB zs) (pre : List (BkT zs)) : (tacc neg pre).length ≤ 1 + 9 * pre.length := by
 have h : (pre.flatMap fun x => tstep zs.length x.1.1 x.1.2).length ≤ 9 * pre.length := by
  induction pre with
  | nil => simp
  | cons x t ih =>
   have hv := rd_range (by decide) hz x.1.1
   rw [← x.2.2.2] at hv
   have := tstep_length (n := zs.length) (i := x.1.1) hv.1 hv.2
   simp only [List.flatMap_cons, List.length_append, List.length_cons]
   omega
 unfold tacc
 rw [List.length_append]
 have h2 : (if neg then [45] else ([] : List UInt8)).length ≤ 1 := by cases neg <;> decide
 omega
theorem isBuilderF_own {β : Type} (B b : Nat) (bs : β → List Value) : Own (fun (s : β) W => Lib.IsBuilderF 127 5 B b (bs s) W) := fun s A W row h hg hr => by
  have k : ∀ p, Lib.BuilderAtF 127 5 B b p (bs s) A → Lib.BuilderAtF 127 5 B b p (bs s) W := by
    rintro p ⟨h1, v, h2, h3, h4⟩
    refine ⟨h1, v, (hg.block b (Array.getElem?_eq_some_iff.1 h2).1 (fun e => ?_)).trans h2, h3.kept hg ?_, h4⟩
    · obtain ⟨o, ho, hc⟩ := hr b e.symm
      rw [h2] at ho
      cases ho
      cases hc
    · cases hv : v.ownBlock with
      | none => exact .inl rfl
      | some g =>
        refine .inr (fun e => ?_)
        obtain ⟨c, fz, hcc⟩ := Lib.ownsRowF_kind h3 g hv
        obtain ⟨o, ho, hc⟩ := hr g e.symm
        rw [hcc] at ho
        cases ho
        cases hc
  exact h.elim (fun x => .inl (k _ x)) (fun x => .inr (k _ x))
theorem isBuilderF_below {B b : Nat} {bs : List Value} {W W' : World} (h : Lib.IsBuilderF 127 5 B b bs W) (hb : Below W.heap.size W W') : Lib.IsBuilderF 127 5 B b bs W' :=
  isBuilderF_own (β := Unit) B b (fun _ => bs) () W W' none h ⟨hb.os, hb.tape, hb.output, hb.size, fun j hj _ => hb.block j hj⟩ (fun r e => by cases e)
theorem blk_own {β : Type} (b : Nat) (cs : β → Array Value) (t : TypeId) : Own (fun (s : β) W => W.heap[b]? = some (.cells (cs s) t (0, 0))) := fun s A W row h hg hr => by
  refine (hg.block b (Array.getElem?_eq_some_iff.1 h).1 (fun e => ?_)).trans h
  obtain ⟨o, ho, hc⟩ := hr b e.symm
  rw [h] at ho
  cases ho
  cases hc
theorem own_and {β : Type} {I J : β → World → Prop} (h : Own I) (g : Own J) : Own (fun s W => I s W ∧ J s W) := fun s A W row x hg hr => ⟨h s A W row x.1 hg hr, g s A W row x.2 hg hr⟩
def TxI (s : Nat) (neg : Bool) (A0 : Option Addr) (c0 : Nat) {zs : List Int} (pre : List (BkT zs)) (W : World) : Prop :=
  Lib.IsBuilderF 127 5 s (s + 1) (Lib.byteCells (tacc neg pre)) W ∧ W.heap[s]? = some (.cells #[.bool neg, .slice A0 zs.length c0] 88 (0, 0))
theorem TxI.own (s : Nat) (neg : Bool) (A0 : Option Addr) (c0 : Nat) {zs : List Int} : Own (TxI s neg A0 c0 (zs := zs)) := fun pre A W row h hg hr =>
  ⟨isBuilderF_own s (s + 1) (fun (pre : List (BkT zs)) => Lib.byteCells (tacc neg pre)) pre A W row h.1 hg hr, blk_own s (fun (_ : List (BkT zs)) => #[.bool neg, .slice A0 zs.length c0]) 88 pre A W row h.2 hg hr⟩
theorem new_builder (w : World) (cs : Array Value) : Lib.IsBuilderF 127 5 w.heap.size (w.heap.size + 1) [] ((w.alloc (.cells cs 88)).alloc (.cells #[.pointer none, .slice none 0 0] 127)) := by
 refine .inl ⟨by omega, .slice none 0 0, ?_, World.ownsRowF_nil _ _ _ _, by simp [Value.ownBlock]⟩
 have := World.alloc_heap_new (w.alloc (.cells cs 88)) (.cells #[.pointer none, .slice none 0 0] 127)
 simpa using this
theorem others_of {b : Option Nat} {w w' : World} (h : Lib.OthersKept 5 b w w') (hs : w.heap.size ≤ w'.heap.size) (hb : ∀ k, b = some k → ∃ o, w.heap[k]? = some o ∧ o.isCells = true) : KeepsOthers w w' :=
  ⟨hs, fun k o ho hc => h k o ho (fun e => by obtain ⟨o', ho', hc'⟩ := hb k e.symm; rw [ho] at ho'; cases ho'; rw [hc] at hc'; cases hc') (fun c fz e => by rw [e] at hc; cases hc)⟩
theorem text_in (n : Nat) (hn : 3 ≤ n) (neg : Bool) (A0 : Option Addr) (c0 : Nat) (l0 : List Int) (w : World) (hL : LaidW w) (hr0 : Kd.C (Kd.int .i64) w A0 l0.length l0) (hz : Sv.Digs Sv.LB l0) (hlen : l0.length ≤ 1099511627776) (hne : 0 < l0.length) :
    CallsIn Fence.wide n Tryz.prog 95 #[.agg #[.bool neg, .slice A0 l0.length c0]] w fun e w' => e = .returned (.string ⟨(tacc neg (bk l0 l0.length)).toArray⟩) ∧ Below w.heap.size w w' := by
 have hf127 : Fence.wide.fn 127 := trivial
 have hf128 : Fence.wide.fn 128 := trivial
 have hf132 : Fence.wide.fn 132 := trivial
 have h1' : 1 ≤ n := by omega
 have hu88 := Tryz.underlying88
 have hz0 : ((l0.length : Int) == 0) = false := by rw [beq_eq_false_iff_ne]; omega
 have hz1 : ¬ (l0.length : Int) = 0 := by omega
 have hz2 : ¬ l0.length = 0 := by omega
 have hnb := new_builder w #[.bool neg, .slice A0 l0.length c0]
 have hx0 : ((w.alloc (.cells #[.bool neg, .slice A0 l0.length c0] 88)).alloc (.cells #[.pointer none, .slice none 0 0] 127)).heap[w.heap.size]? = some (.cells #[.bool neg, .slice A0 l0.length c0] 88 (0, 0)) := (Below.heap_alloc _ _ _ (by simp)).trans (World.alloc_heap_new w _)
 have hB0 : Below w.heap.size w ((w.alloc (.cells #[.bool neg, .slice A0 l0.length c0] 88)).alloc (.cells #[.pointer none, .slice none 0 0] 127)) := ((Below.refl _ w).alloc (Nat.le_refl _) _).alloc (by simp) _
 cases neg
 all_goals refine callsIn_of_wp_marks Tryz.func95 rfl trivial ?_ rfl
 all_goals simp only [Tryz.ntmps95, List.size_toArray, List.length_cons, List.length_nil, Nat.reduceAdd, Nat.reduceSub, Array.replicate_succ, Array.replicate_zero, List.push_toArray, List.append_toArray, List.nil_append, List.cons_append]
 all_goals gi_wp2_with (first
   | (gi_at_call 127; refine (callsIn_wide.2 (Tryz.Builder_WriteByte_k w.heap.size (w.heap.size + 1) [] 45 _ hnb (by simp) (by simp; omega))).mono ?_; rintro e w1 ⟨rfl, hb1, hB1, hok1⟩; have hx1 := hok1 _ _ hx0 (by simp) (by intro c fz e; cases e); have hxc1 := (blk_cell hx1 1).trans (show _ = some (Value.slice A0 l0.length c0) from rfl))
   | (gi_at_call 128; refine (back_in Fence.wide (n - 1) hf128 rfl _ _ _ _).mono ?_; rintro e w' ⟨rfl, rfl⟩)
   | gi_in)
 obtain ⟨W1, hW1⟩ : ∃ W1, (w.alloc (.cells #[.bool false, .slice A0 l0.length c0] 88)).alloc (.cells #[.pointer none, .slice none 0 0] 127) = W1 := ⟨_, rfl⟩
 rw [hW1] at hnb hx0 hB0
 have hsz1 : w.heap.size + 1 + 1 = W1.heap.size := by rw [← hW1]; simp
 have hbu : Lib.IsBuilderF 127 5 w.heap.size (w.heap.size + 1) (Lib.byteCells (tacc false ([] : List (BkT l0)))) W1 := hnb
 rw [hW1, hsz1]
 clear hW1
 rotate_left 1
 obtain ⟨W1, hW1⟩ : ∃ W1, w1 = W1 := ⟨_, rfl⟩
 have hbu : Lib.IsBuilderF 127 5 w.heap.size (w.heap.size + 1) (Lib.byteCells (tacc true ([] : List (BkT l0)))) W1 := by rw [← hW1]; exact .inr hb1
 have hB2 : Below w.heap.size w W1 := by rw [← hW1]; exact hB0.trans hB1
 rw [hW1] at hx1
 rw [hW1]
 clear hB0 hx0
 have hB0 := hB2
 have hx0 := hx1
 clear hB2 hx1 hW1
 rotate_left 1
 -- MAIN
 ·obtain ⟨s, hs⟩ : ∃ s, w.heap.size = s := ⟨_, rfl⟩
  rw [hs] at hbu hB0 hx0
  simp only [hs]
  obtain ⟨W0, hW0⟩ : ∃ W0, W1.alloc (.cells #[.slice A0 l0.length c0] 86) = W0 := ⟨_, rfl⟩
  have hbx : Boxed W0 W1.heap.size 86 (.slice A0 l0.length c0) := by rw [← hW0]; exact Boxed.new _ _ _
  have hBW : Below s w W0 := by rw [← hW0]; exact hB0.alloc (by have := hB0.size; omega) _
  have hI0 := isBuilderF_below hbu (show Below W1.heap.size W1 W0 by rw [← hW0]; exact (Below.refl _ _).alloc (Nat.le_refl _) _)
  have hxx := (show Below W1.heap.size W1 W0 by rw [← hW0]; exact (Below.refl _ _).alloc (Nat.le_refl _) _).block s (Array.getElem?_eq_some_iff.1 hx0).1 |>.trans hx0
  have hs1 : s + 2 ≤ W1.heap.size := by
   have hc : (Lib.IsBuilderF 127 5 s (s + 1) _ W1) := hbu
   rcases hc with h | h
   ·have := h.lt; omega
   have := h.lt; omega
  have hs0 : W1.heap.size < W0.heap.size := by rw [← hW0]; simp
  rw [hW0]
  clear hW0
  have hm0 := Kd.C_max hr0
  refine wpIn_rangeFunc_ownF rfl h1' (gf := 167) (lb := #[.pointer (some ⟨W1.heap.size, 0, none⟩)]) rfl trivial (enters_of Tryz.func167 (by kernel_rfl) rfl)
   (back_stops Fence.wide (n - 1) trivial rfl (by omega) W1.heap.size s A0 c0 l0 hm0 W0 hbx (by have := hBW.size; omega) (fun W' hb => Kd.C_below hr0 (by rw [hs]; exact hBW.trans hb))) kb_t (kb_b (by have := hBW.size; omega) hs0) (Below.refl _ _) (fun _ => rfl)
   (fun pre W => (TxI s false A0 c0 pre W ∧ W.heap[W1.heap.size]? = some (.cells #[.slice A0 l0.length c0] 86 (0, 0))) ∧ Below s w W) (fun c pre W => False)
   (OwnFrom.and (Own.from (own_and (TxI.own s false A0 c0) (blk_own W1.heap.size (fun _ => #[.slice A0 l0.length c0]) 86)) _) (ownFrom_below (by omega) (by have := hBW.size; omega)))
   (fun c s A B row hs hg hr => hs) ⟨⟨⟨hI0, hxx⟩, hbx⟩, hBW⟩
   ?act1 ?assign ?body ?done ?stop
  case assign =>
   intro l x W K hK
   simp only [enc2]
   gi_wp2
   exact hK
  case body =>
   rintro l pre x W ⟨⟨⟨hbu, hx⟩, hbW⟩, hB⟩ hpl
   have hv := rd_range (by decide) hz x.1.1
   rw [← x.2.2.2] at hv
   have hsn := tacc_snoc false pre x
   have htl := tacc_length false hz pre
   try simp only [enc2]
   obtain ⟨i, hxi⟩ : ∃ i, x.1.1 = i := ⟨_, rfl⟩
   obtain ⟨v, hxv⟩ : ∃ v, x.1.2 = v := ⟨_, rfl⟩
   simp only [hxi, hxv] at hv hsn ⊢
   clear hxi hxv
   have hv1 : v < 1000000000 := hv.2
   have hv0 := hv.1
   have hts := txt_small hv0 hv1
   have hxc := (blk_cell hx 1).trans (show _ = some (Value.slice A0 l0.length c0) from rfl)
   have hd2 : 1 ≤ n - 1 - 1 := by omega
   have hf129 : Fence.wide.fn 129 := trivial
   have hf130 : Fence.wide.fn 130 := trivial
   have hf131 : Fence.wide.fn 131 := trivial
   have hLW : LaidW W := hL.below (by rw [hs]; exact hB)
   have hbl : (Lib.byteCells (tacc false pre)).length ≤ 1 + 9 * pre.length := by simp only [Lib.byteCells, List.length_map]; exact htl
   have hcz : (9 : Int) - ((Sv.txt v).size : Int) = ((9 - (Sv.txt v).size : Nat) : Int) := by omega
   have hrs : (⟨(Lib.repeatL [48] (9 - (Sv.txt v).size)).toArray⟩ : ByteArray).size = 9 - (Sv.txt v).size := by
    show (Lib.repeatL [48] (9 - (Sv.txt v).size)).toArray.size = _
    rw [List.size_toArray, repeatL_length]
   have hit : Lib.strCells (Sv.txt v) = Lib.byteCells (Sv.txtL v) := rfl
   have hir : Lib.strCells (⟨(Lib.repeatL [48] (9 - (Sv.txt v).size)).toArray⟩ : ByteArray) = Lib.byteCells (Lib.repeatL [48] (9 - (Sv.txt v).size)) := rfl
   have hBs := hB.size
   have hws : w.heap.size ≤ W.heap.size := hBs
   have hBW2 : s ≤ W.heap.size := by omega
   by_cases hi : i < (l0.length : Int) - 1
   ·have hsn2 : tacc false (pre ++ [x]) = tacc false pre ++ (Lib.repeatL [48] (9 - (Sv.txt v).size) ++ Sv.txtL v) := by rw [hsn, tstep, if_pos hi]
    have HS := Lib.hid hsn2
    clear hsn hsn2 hv
    have hi2 : decide (i < (l0.length : Int) - 1) = true := decide_eq_true hi
    gi_wp2_with (first
      | (gi_at_call 129; refine (CallsIn.inRound l (callsIn_wide.2 (strconv_Itoa.calls v (Sv.txt v) W hLW (if_pos ⟨by omega, by omega⟩)))).mono ?_; rintro e wa ⟨rfl, hba⟩
         have hbua := isBuilderF_below hbu hba
         have hxa := (hba.block s (Array.getElem?_eq_some_iff.1 hx).1).trans hx
         have hxca := (blk_cell hxa 1).trans (show _ = some (Value.slice A0 l0.length c0) from rfl))
      | (gi_at_call 131; refine (CallsIn.inRound l (callsIn_wide.2 (Tryz.strings_Repeat (⟨#[48]⟩ : ByteArray) (9 - (Sv.txt v).size) wa (by omega) (by show 1 * _ ≤ _; omega)))).mono ?_; rintro e wb ⟨rfl, hbb⟩
         have hbub := isBuilderF_below hbua hbb
         have hxb := (hbb.block s (Array.getElem?_eq_some_iff.1 hxa).1).trans hxa
         have hszb : s ≤ wb.heap.size := by have h1 := hba.size; have h2 := hbb.size; omega)
      | (gi_at_call 130; refine (CallsIn.inRound l (callsIn_wide.2 (Tryz.Builder_WriteString_k s (s + 1) _ (Sv.txt v) wc (.inr hbuc) (by simp only [List.length_append, hir]; simp only [Lib.byteCells, List.length_map, repeatL_length] at hbl ⊢; omega) hszc))).mono ?_; rintro e wd ⟨rfl, hbud, hBd, hokd⟩
         have hxd := hokd _ _ hxc2 (by simp) (by intro c fz e; cases e))
      | (gi_at_call 130; refine (CallsIn.inRound l (callsIn_wide.2 (Tryz.Builder_WriteString_k s (s + 1) _ (⟨(Lib.repeatL [48] (9 - (Sv.txt v).size)).toArray⟩ : ByteArray) wb hbub (by rw [hrs]; omega) hszb))).mono ?_; rintro e wc ⟨rfl, hbuc, hBc, hokc⟩
         have hxc2 := hokc _ _ hxb (by simp) (by intro c fz e; cases e)
         have hszc : s ≤ wc.heap.size := by have h1 := hBc.size; omega)
      | gi_in)
    have hbS : ∀ (a b : World), Below a.heap.size a b → KeepsOthers a b := fun a b h => ⟨h.size, fun k o ho hc => (h.block k (Array.getElem?_eq_some_iff.1 ho).1).trans ho⟩
    have hbc1 : ∀ (W : World) (bs : List Value), Lib.IsBuilderF 127 5 s (s + 1) bs W → ∀ k, some (s + 1) = some k → ∃ o, W.heap[k]? = some o ∧ o.isCells = true := fun W bs h k e => by
     cases e
     rcases h with ⟨_, v, h2, _⟩ | ⟨_, v, h2, _⟩ <;> exact ⟨_, h2, rfl⟩
    have hbWl := (Array.getElem?_eq_some_iff.1 hbW).1
    have hkw : wd.heap[W1.heap.size]? = W.heap[W1.heap.size]? :=
     (hokd _ _ (hokc _ _ ((hbb.block _ (Nat.lt_of_lt_of_le hbWl hba.size)).trans ((hba.block _ hbWl).trans hbW)) (by simp; omega) (by intro c fz e; cases e)) (by simp; omega) (by intro c fz e; cases e)).trans hbW.symm
    have hBe : Below s W wd := ((hba.mono hBW2).trans (hbb.mono (by have := hba.size; omega))).trans (hBc.trans hBd)
    refine ⟨((hbS _ _ hba).trans (hbS _ _ hbb)).trans ((others_of hokc hBc.size (hbc1 _ _ hbub)).trans (others_of hokd hBd.size (hbc1 _ _ (.inr hbuc)))), ⟨hBe, fun _ => hkw⟩, ⟨⟨?_, hxd⟩, hkw.trans hbW⟩, hB.trans hBe⟩
    rw [HS.out]
    have := hbud
    rw [hit, hir, List.append_assoc] at this
    exact .inr (by simpa [Lib.byteCells] using this)
   have hsn2 : tacc false (pre ++ [x]) = tacc false pre ++ Sv.txtL v := by rw [hsn, tstep, if_neg hi]
   have HS := Lib.hid hsn2
   clear hsn hsn2 hv
   have hi2 : decide (i < (l0.length : Int) - 1) = false := decide_eq_false hi
   gi_wp2_with (first
     | (gi_at_call 129; refine (CallsIn.inRound l (callsIn_wide.2 (strconv_Itoa.calls v (Sv.txt v) W hLW (if_pos ⟨by omega, by omega⟩)))).mono ?_; rintro e wa ⟨rfl, hba⟩
        have hbua := isBuilderF_below hbu hba
        have hxa := (hba.block s (Array.getElem?_eq_some_iff.1 hx).1).trans hx
        have hxca := (blk_cell hxa 1).trans (show _ = some (Value.slice A0 l0.length c0) from rfl)
        have hsza : s ≤ wa.heap.size := by have h1 := hba.size; omega)
     | (gi_at_call 130; refine (CallsIn.inRound l (callsIn_wide.2 (Tryz.Builder_WriteString_k s (s + 1) _ (Sv.txt v) wa hbua (by omega) hsza))).mono ?_; rintro e wd ⟨rfl, hbud, hBd, hokd⟩
        have hxd := hokd _ _ hxa (by simp) (by intro c fz e; cases e))
     | gi_in)
   have hbS : ∀ (a b : World), Below a.heap.size a b → KeepsOthers a b := fun a b h => ⟨h.size, fun k o ho hc => (h.block k (Array.getElem?_eq_some_iff.1 ho).1).trans ho⟩
   have hbc1 : ∀ (W : World) (bs : List Value), Lib.IsBuilderF 127 5 s (s + 1) bs W → ∀ k, some (s + 1) = some k → ∃ o, W.heap[k]? = some o ∧ o.isCells = true := fun W bs h k e => by
    cases e
    rcases h with ⟨_, v, h2, _⟩ | ⟨_, v, h2, _⟩ <;> exact ⟨_, h2, rfl⟩
   have hbWl := (Array.getElem?_eq_some_iff.1 hbW).1
   have hkw : wd.heap[W1.heap.size]? = W.heap[W1.heap.size]? :=
    (hokd _ _ ((hba.block _ hbWl).trans hbW) (by simp; omega) (by intro c fz e; cases e)).trans hbW.symm
   have hBe : Below s W wd := (hba.mono hBW2).trans hBd
   refine ⟨(hbS _ _ hba).trans (others_of hokd hBd.size (hbc1 _ _ hbua)), ⟨hBe, fun _ => hkw⟩, ⟨⟨?_, hxd⟩, hkw.trans hbW⟩, hB.trans hBe⟩
   rw [HS.out]
   have := hbud
   rw [hit] at this
   exact .inr (by simpa [Lib.byteCells] using this)
  case done =>
   rintro D ys W hD rfl ⟨⟨⟨hbu, hx⟩, hbW⟩, hB⟩ hK
   have hf132 : Fence.wide.fn 132 := trivial
   have hBW2 : s ≤ W.heap.size := by have := hB.size; omega
   gi_wp2_with (first
     | (gi_at_call 132; refine (callsIn_wide.2 (Tryz.Builder_String_any_k s (s + 1) (tacc false (bk l0 l0.length)) W hbu hBW2)).mono ?_; rintro e wz ⟨rfl, hbz, hBz, hokz⟩)
     | gi_in)
   have hDs : D ≠ s + 1 := by
    intro e
    subst e
    rcases hbu with ⟨_, v, h2, _⟩ | ⟨_, v, h2, _⟩ <;> (rw [h2] at hK; cases hK)
   have hKz := hokz _ _ hK (by simp; omega) (by intro c fz e; cases e)
   have hDw : w.heap.size ≤ D := by omega
   refine ⟨by simp, .inl ⟨_, _, rfl, run_takeDeferred hKz, ?_⟩⟩
   exact ⟨.string ⟨(tacc false (bk l0 l0.length)).toArray⟩, by simp [results, Tryz.f95, go_sem], rfl, (show Below w.heap.size w wz by rw [hs]; exact hB.trans hBz).trans (belowK_b (w := w) (Nat.le_refl _) wz D _ _ (by omega) hKz rfl rfl)⟩
  case stop =>
   rintro D c pre W hD hp hf hK
   exact hf.elim
 obtain ⟨s, hs⟩ : ∃ s, w.heap.size = s := ⟨_, rfl⟩
 rw [hs] at hbu hB0 hx0
 simp only [hs]
 obtain ⟨W0, hW0⟩ : ∃ W0, W1.alloc (.cells #[.slice A0 l0.length c0] 86) = W0 := ⟨_, rfl⟩
 have hbx : Boxed W0 W1.heap.size 86 (.slice A0 l0.length c0) := by rw [← hW0]; exact Boxed.new _ _ _
 have hBW : Below s w W0 := by rw [← hW0]; exact hB0.alloc (by have := hB0.size; omega) _
 have hI0 := isBuilderF_below hbu (show Below W1.heap.size W1 W0 by rw [← hW0]; exact (Below.refl _ _).alloc (Nat.le_refl _) _)
 have hxx := (show Below W1.heap.size W1 W0 by rw [← hW0]; exact (Below.refl _ _).alloc (Nat.le_refl _) _).block s (Array.getElem?_eq_some_iff.1 hx0).1 |>.trans hx0
 have hs1 : s + 2 ≤ W1.heap.size := by
  have hc : (Lib.IsBuilderF 127 5 s (s + 1) _ W1) := hbu
  rcases hc with h | h
  ·have := h.lt; omega
  have := h.lt; omega
 have hs0 : W1.heap.size < W0.heap.size := by rw [← hW0]; simp
 rw [hW0]
 clear hW0
 have hm0 := Kd.C_max hr0
 refine wpIn_rangeFunc_ownF rfl h1' (gf := 167) (lb := #[.pointer (some ⟨W1.heap.size, 0, none⟩)]) rfl trivial (enters_of Tryz.func167 (by kernel_rfl) rfl)
  (back_stops Fence.wide (n - 1) trivial rfl (by omega) W1.heap.size s A0 c0 l0 hm0 W0 hbx (by have := hBW.size; omega) (fun W' hb => Kd.C_below hr0 (by rw [hs]; exact hBW.trans hb))) kb_t (kb_b (by have := hBW.size; omega) hs0) (Below.refl _ _) (fun _ => rfl)
  (fun pre W => (TxI s true A0 c0 pre W ∧ W.heap[W1.heap.size]? = some (.cells #[.slice A0 l0.length c0] 86 (0, 0))) ∧ Below s w W) (fun c pre W => False)
  (OwnFrom.and (Own.from (own_and (TxI.own s true A0 c0) (blk_own W1.heap.size (fun _ => #[.slice A0 l0.length c0]) 86)) _) (ownFrom_below (by omega) (by have := hBW.size; omega)))
  (fun c s A B row hs hg hr => hs) ⟨⟨⟨hI0, hxx⟩, hbx⟩, hBW⟩
  ?act1T ?assignT ?bodyT ?doneT ?stopT
 case assignT =>
  intro l x W K hK
  simp only [enc2]
  gi_wp2
  exact hK
 case bodyT =>
  rintro l pre x W ⟨⟨⟨hbu, hx⟩, hbW⟩, hB⟩ hpl
  have hv := rd_range (by decide) hz x.1.1
  rw [← x.2.2.2] at hv
  have hsn := tacc_snoc true pre x
  have htl := tacc_length true hz pre
  try simp only [enc2]
  obtain ⟨i, hxi⟩ : ∃ i, x.1.1 = i := ⟨_, rfl⟩
  obtain ⟨v, hxv⟩ : ∃ v, x.1.2 = v := ⟨_, rfl⟩
  simp only [hxi, hxv] at hv hsn ⊢
  clear hxi hxv
  have hv1 : v < 1000000000 := hv.2
  have hv0 := hv.1
  have hts := txt_small hv0 hv1
  have hxc := (blk_cell hx 1).trans (show _ = some (Value.slice A0 l0.length c0) from rfl)
  have hd2 : 1 ≤ n - 1 - 1 := by omega
  have hf129 : Fence.wide.fn 129 := trivial
  have hf130 : Fence.wide.fn 130 := trivial
  have hf131 : Fence.wide.fn 131 := trivial
  have hLW : LaidW W := hL.below (by rw [hs]; exact hB)
  have hbl : (Lib.byteCells (tacc true pre)).length ≤ 1 + 9 * pre.length := by simp only [Lib.byteCells, List.length_map]; exact htl
  have hcz : (9 : Int) - ((Sv.txt v).size : Int) = ((9 - (Sv.txt v).size : Nat) : Int) := by omega
  have hrs : (⟨(Lib.repeatL [48] (9 - (Sv.txt v).size)).toArray⟩ : ByteArray).size = 9 - (Sv.txt v).size := by
   show (Lib.repeatL [48] (9 - (Sv.txt v).size)).toArray.size = _
   rw [List.size_toArray, repeatL_length]
  have hit : Lib.strCells (Sv.txt v) = Lib.byteCells (Sv.txtL v) := rfl
  have hir : Lib.strCells (⟨(Lib.repeatL [48] (9 - (Sv.txt v).size)).toArray⟩ : ByteArray) = Lib.byteCells (Lib.repeatL [48] (9 - (Sv.txt v).size)) := rfl
  have hBs := hB.size
  have hws : w.heap.size ≤ W.heap.size := hBs
  have hBW2 : s ≤ W.heap.size := by omega
  by_cases hi : i < (l0.length : Int) - 1
  ·have hsn2 : tacc true (pre ++ [x]) = tacc true pre ++ (Lib.repeatL [48] (9 - (Sv.txt v).size) ++ Sv.txtL v) := by rw [hsn, tstep, if_pos hi]
   have HS := Lib.hid hsn2
   clear hsn hsn2 hv
   have hi2 : decide (i < (l0.length : Int) - 1) = true := decide_eq_true hi
   gi_wp2_with (first
     | (gi_at_call 129; refine (CallsIn.inRound l (callsIn_wide.2 (strconv_Itoa.calls v (Sv.txt v) W hLW (if_pos ⟨by omega, by omega⟩)))).mono ?_; rintro e wa ⟨rfl, hba⟩
        have hbua := isBuilderF_below hbu hba
        have hxa := (hba.block s (Array.getElem?_eq_some_iff.1 hx).1).trans hx
        have hxca := (blk_cell hxa 1).trans (show _ = some (Value.slice A0 l0.length c0) from rfl))
     | (gi_at_call 131; refine (CallsIn.inRound l (callsIn_wide.2 (Tryz.strings_Repeat (⟨#[48]⟩ : ByteArray) (9 - (Sv.txt v).size) wa (by omega) (by show 1 * _ ≤ _; omega)))).mono ?_; rintro e wb ⟨rfl, hbb⟩
        have hbub := isBuilderF_below hbua hbb
        have hxb := (hbb.block s (Array.getElem?_eq_some_iff.1 hxa).1).trans hxa
        have hszb : s ≤ wb.heap.size := by have h1 := hba.size; have h2 := hbb.size; omega)
     | (gi_at_call 130; refine (CallsIn.inRound l (callsIn_wide.2 (Tryz.Builder_WriteString_k s (s + 1) _ (Sv.txt v) wc (.inr hbuc) (by simp only [List.length_append, hir]; simp only [Lib.byteCells, List.length_map, repeatL_length] at hbl ⊢; omega) hszc))).mono ?_; rintro e wd ⟨rfl, hbud, hBd, hokd⟩
        have hxd := hokd _ _ hxc2 (by simp) (by intro c fz e; cases e))
     | (gi_at_call 130; refine (CallsIn.inRound l (callsIn_wide.2 (Tryz.Builder_WriteString_k s (s + 1) _ (⟨(Lib.repeatL [48] (9 - (Sv.txt v).size)).toArray⟩ : ByteArray) wb hbub (by rw [hrs]; omega) hszb))).mono ?_; rintro e wc ⟨rfl, hbuc, hBc, hokc⟩
        have hxc2 := hokc _ _ hxb (by simp) (by intro c fz e; cases e)
        have hszc : s ≤ wc.heap.size := by have h1 := hBc.size; omega)
     | gi_in)
   have hbS : ∀ (a b : World), Below a.heap.size a b → KeepsOthers a b := fun a b h => ⟨h.size, fun k o ho hc => (h.block k (Array.getElem?_eq_some_iff.1 ho).1).trans ho⟩
   have hbc1 : ∀ (W : World) (bs : List Value), Lib.IsBuilderF 127 5 s (s + 1) bs W → ∀ k, some (s + 1) = some k → ∃ o, W.heap[k]? = some o ∧ o.isCells = true := fun W bs h k e => by
    cases e
    rcases h with ⟨_, v, h2, _⟩ | ⟨_, v, h2, _⟩ <;> exact ⟨_, h2, rfl⟩
   have hbWl := (Array.getElem?_eq_some_iff.1 hbW).1
   have hkw : wd.heap[W1.heap.size]? = W.heap[W1.heap.size]? :=
    (hokd _ _ (hokc _ _ ((hbb.block _ (Nat.lt_of_lt_of_le hbWl hba.size)).trans ((hba.block _ hbWl).trans hbW)) (by simp; omega) (by intro c fz e; cases e)) (by simp; omega) (by intro c fz e; cases e)).trans hbW.symm
   have hBe : Below s W wd := ((hba.mono hBW2).trans (hbb.mono (by have := hba.size; omega))).trans (hBc.trans hBd)
   refine ⟨((hbS _ _ hba).trans (hbS _ _ hbb)).trans ((others_of hokc hBc.size (hbc1 _ _ hbub)).trans (others_of hokd hBd.size (hbc1 _ _ (.inr hbuc)))), ⟨hBe, fun _ => hkw⟩, ⟨⟨?_, hxd⟩, hkw.trans hbW⟩, hB.trans hBe⟩
   rw [HS.out]
   have := hbud
   rw [hit, hir, List.append_assoc] at this
   exact .inr (by simpa [Lib.byteCells] using this)
  have hsn2 : tacc true (pre ++ [x]) = tacc true pre ++ Sv.txtL v := by rw [hsn, tstep, if_neg hi]
  have HS := Lib.hid hsn2
  clear hsn hsn2 hv
  have hi2 : decide (i < (l0.length : Int) - 1) = false := decide_eq_false hi
  gi_wp2_with (first
    | (gi_at_call 129; refine (CallsIn.inRound l (callsIn_wide.2 (strconv_Itoa.calls v (Sv.txt v) W hLW (if_pos ⟨by omega, by omega⟩)))).mono ?_; rintro e wa ⟨rfl, hba⟩
       have hbua := isBuilderF_below hbu hba
       have hxa := (hba.block s (Array.getElem?_eq_some_iff.1 hx).1).trans hx
       have hxca := (blk_cell hxa 1).trans (show _ = some (Value.slice A0 l0.length c0) from rfl)
       have hsza : s ≤ wa.heap.size := by have h1 := hba.size; omega)
    | (gi_at_call 130; refine (CallsIn.inRound l (callsIn_wide.2 (Tryz.Builder_WriteString_k s (s + 1) _ (Sv.txt v) wa hbua (by omega) hsza))).mono ?_; rintro e wd ⟨rfl, hbud, hBd, hokd⟩
       have hxd := hokd _ _ hxa (by simp) (by intro c fz e; cases e))
    | gi_in)
  have hbS : ∀ (a b : World), Below a.heap.size a b → KeepsOthers a b := fun a b h => ⟨h.size, fun k o ho hc => (h.block k (Array.getElem?_eq_some_iff.1 ho).1).trans ho⟩
  have hbc1 : ∀ (W : World) (bs : List Value), Lib.IsBuilderF 127 5 s (s + 1) bs W → ∀ k, some (s + 1) = some k → ∃ o, W.heap[k]? = some o ∧ o.isCells = true := fun W bs h k e => by
   cases e
   rcases h with ⟨_, v, h2, _⟩ | ⟨_, v, h2, _⟩ <;> exact ⟨_, h2, rfl⟩
  have hbWl := (Array.getElem?_eq_some_iff.1 hbW).1
  have hkw : wd.heap[W1.heap.size]? = W.heap[W1.heap.size]? :=
   (hokd _ _ ((hba.block _ hbWl).trans hbW) (by simp; omega) (by intro c fz e; cases e)).trans hbW.symm
  have hBe : Below s W wd := (hba.mono hBW2).trans hBd
  refine ⟨(hbS _ _ hba).trans (others_of hokd hBd.size (hbc1 _ _ hbua)), ⟨hBe, fun _ => hkw⟩, ⟨⟨?_, hxd⟩, hkw.trans hbW⟩, hB.trans hBe⟩
  rw [HS.out]
  have := hbud
  rw [hit] at this
  exact .inr (by simpa [Lib.byteCells] using this)
 case doneT =>
  rintro D ys W hD rfl ⟨⟨⟨hbu, hx⟩, hbW⟩, hB⟩ hK
  have hf132 : Fence.wide.fn 132 := trivial
  have hBW2 : s ≤ W.heap.size := by have := hB.size; omega
  gi_wp2_with (first
    | (gi_at_call 132; refine (callsIn_wide.2 (Tryz.Builder_String_any_k s (s + 1) (tacc true (bk l0 l0.length)) W hbu hBW2)).mono ?_; rintro e wz ⟨rfl, hbz, hBz, hokz⟩)
    | gi_in)
  have hDs : D ≠ s + 1 := by
   intro e
   subst e
   rcases hbu with ⟨_, v, h2, _⟩ | ⟨_, v, h2, _⟩ <;> (rw [h2] at hK; cases hK)
  have hKz := hokz _ _ hK (by simp; omega) (by intro c fz e; cases e)
  have hDw : w.heap.size ≤ D := by omega
  refine ⟨by simp, .inl ⟨_, _, rfl, run_takeDeferred hKz, ?_⟩⟩
  exact ⟨.string ⟨(tacc true (bk l0 l0.length)).toArray⟩, by simp [results, Tryz.f95, go_sem], rfl, (show Below w.heap.size w wz by rw [hs]; exact hB.trans hBz).trans (belowK_b (w := w) (Nat.le_refl _) wz D _ _ (by omega) hKz rfl rfl)⟩
 case stopT =>
  rintro D c pre W hD hp hf hK
  exact hf.elim
theorem bInumber_text.calls (a0_0 : Bool) (A0_1 : Option Addr) (c0_1 : Nat) (l0_1 : List Int) (r : ByteArray) (w : World) (hL : LaidW w) (hr0_1 : Kd.C (Kd.int .i64) w A0_1 l0_1.length l0_1) (hc0_1 : l0_1.length ≤ c0_1) (h : bInumber_text.f a0_0 l0_1 = some r) :
    Calls Tryz.prog 95 #[.agg #[.bool a0_0, .slice A0_1 l0_1.length c0_1]] w fun e w' => e = .returned (.string r) ∧ Below w.heap.size w w' := by
 unfold bInumber_text.f at h
 split at h
 ·rename_i hc
  simp only [Option.some.injEq] at h
  subst h
  by_cases hl : l0_1 = []
  ·subst hl
   rw [if_pos rfl]
   go_enter Tryz.func95, Tryz.ntmps95
   go_wp2
   refine ⟨by simp, ?_⟩
   exact ⟨.string ⟨#[48]⟩, by simp [results, Tryz.f95, go_sem], rfl, (Below.refl _ w).alloc (Nat.le_refl _) _⟩
  rw [if_neg hl]
  exact callsIn_wide.1 (text_in 3 (by omega) a0_0 A0_1 c0_1 l0_1 w hL hr0_1 hc.1 hc.2 (List.length_pos_iff.2 hl))
 cases h
end Go.Proofs.YthnfajboebaajaaGreatDoor
namespace Go.Proofs.YthnfajboebaajaaGreatDoor.PA
open Go.RowKit Go.Proofs.WWords Go.Proofs.WLast Go.Proofs.WMore
attribute [local go_sem] max2_int min2_int max_two min_two max_three min_three max_four min_four
set_option linter.unusedVariables false
set_option linter.unusedSimpArgs false
theorem bIwritten.calls (a0_0 : Bool) (A0_1 : Option Addr) (c0_1 : Nat) (l0_1 : List Int) (r1 : ByteArray) (r2 : Int) (w : World) (hL : LaidW w) (hr0_1 : Kd.C (Kd.int .i64) w A0_1 l0_1.length l0_1) (hc0_1 : l0_1.length ≤ c0_1) (h : bIwritten.f a0_0 l0_1 = some (r1, r2)) :
  Calls Tryz.prog 87 #[.agg #[.bool a0_0, .slice A0_1 l0_1.length c0_1]] w fun e w' => e = .returned (.tuple #[.string r1, .int .i64 r2]) ∧ Below w.heap.size w w' := by
 have hu88 := Tryz.underlying88
 have HR0_1 := Z0.mk hr0_1
 have HC0_1 := Z0.mk hc0_1
 clear hr0_1 hc0_1
 have HB := Z0.mk (Below.refl w.heap.size w)
 have H := h
 clear h
 unfold bIwritten.f at H
 obtain ⟨t296, A2, H⟩ := bnd H
 rcases jg H with ⟨-, c3b0, H⟩ | ⟨-, c3b0, H⟩
 ·simp only [Option.some.injEq, Prod.mk.injEq] at H
  obtain ⟨rfl, rfl⟩ := H
  go_enter Tryz.func87, Tryz.ntmps87
  go_wp2_with (first | ((with_reducible refine gd_ 1 rfl ?_); refine bxE 1 #[.bool a0_0, .slice A0_1 l0_1.length c0_1] 88 ?_; intro gb295 hg w4 hbox hb; have BK295 := Z0.mk hbox; have GW295 := fE HB hg; have GE295 := fE HB hg; replace HB := fB HB hb; clear hb hbox hg; obtain ⟨hcz5_0, hcz5_1, hfz5_0, hfz5_1⟩ := b2 BK295) | ((with_reducible refine gc_ 124 rfl ?_); refine gL 5 Tryz.func124 (bInumber_size.calls a0_0 _ _ l0_1 t296 _ ?side3 ?side1 ?side2 A2.out) ?_; (case side1 => exact cq (Kd.C_below HR0_1.out HB.out)); (case side2 => exact HC0_1.out); (case side3 => exact LaidW.below hL bqs); rintro _ w6 ⟨rfl, hb⟩; refine ⟨_, rfl, ?_⟩; replace BK295 := fk BK295 hb; replace HB := fB HB hb; clear hb))
  go_ret2
  exact finE
 obtain ⟨t297, A7, H⟩ := bnd H
 simp only [Option.some.injEq, Prod.mk.injEq] at H
 obtain ⟨rfl, rfl⟩ := H
 go_enter Tryz.func87, Tryz.ntmps87
 go_wp2_with (first | ((with_reducible refine gd_ 1 rfl ?_); refine bxE 1 #[.bool a0_0, .slice A0_1 l0_1.length c0_1] 88 ?_; intro gb295 hg w8 hbox hb; have BK295 := Z0.mk hbox; have GW295 := fE HB hg; have GE295 := fE HB hg; replace HB := fB HB hb; clear hb hbox hg; obtain ⟨hcz9_0, hcz9_1, hfz9_0, hfz9_1⟩ := b2 BK295) | ((with_reducible refine gc_ 124 rfl ?_); refine gL 5 Tryz.func124 (bInumber_size.calls a0_0 _ _ l0_1 t296 _ ?side3 ?side1 ?side2 A2.out) ?_; (case side1 => exact cq (Kd.C_below HR0_1.out HB.out)); (case side2 => exact HC0_1.out); (case side3 => exact LaidW.below hL bqs); rintro _ w10 ⟨rfl, hb⟩; refine ⟨_, rfl, ?_⟩; replace BK295 := fk BK295 hb; replace HB := fB HB hb; clear hb; obtain ⟨hcz11_0, hcz11_1, hfz11_0, hfz11_1⟩ := b2 BK295) | ((with_reducible refine gc_ 95 rfl ?_); refine gL 8 Tryz.func95 (bInumber_text.calls a0_0 _ _ l0_1 t297 _ ?side3 ?side1 ?side2 A7.out) ?_; (case side1 => exact cq (Kd.C_below HR0_1.out HB.out)); (case side2 => exact HC0_1.out); (case side3 => exact LaidW.below hL bqs); rintro _ w12 ⟨rfl, hb⟩; refine ⟨_, rfl, ?_⟩; replace BK295 := fk BK295 hb; replace HB := fB HB hb; clear hb))
 go_ret2
 exact finE
theorem bIcanonical.calls (a0 : ByteArray) (r : Bool) (w : World) (h : bIcanonical.f a0 = some r) :
  Calls Tryz.prog 120 #[.string a0] w fun e w' => e = .returned (.bool r) ∧ Below w.heap.size w w' := by
 have HB := Z0.mk (Below.refl w.heap.size w)
 have H := h
 clear h
 unfold bIcanonical.f at H
 obtain ⟨⟨t102, t103⟩, A2, H⟩ := bnd H
 try dsimp only at H
 rcases je H with ⟨-, c3b0, c3b1, H⟩ | ⟨c3, c3b0, c3b1, H⟩
 ·obtain rfl := Option.some.inj H
  go_enter Tryz.func120, Tryz.ntmps120
  go_wp2_with (first | ((with_reducible refine gc_ 159 rfl ?_); refine goB (some 7) Tryz.func159 #[.string a0, .string (⟨#[45]⟩ : ByteArray)] bq (strings_CutPrefix.calls a0 (⟨#[45]⟩ : ByteArray) t102 t103 _ A2.out) ?_; clear HB; intro w4 HB))
  go_ret
  exact finE
 rcases je H with ⟨-, c5b0, c5b1, H⟩ | ⟨c5, c5b0, c5b1, H⟩
 ·obtain rfl := Option.some.inj H
  go_enter Tryz.func120, Tryz.ntmps120
  go_wp2_with (first | ((with_reducible refine gc_ 159 rfl ?_); refine goB (some 7) Tryz.func159 #[.string a0, .string (⟨#[45]⟩ : ByteArray)] bq (strings_CutPrefix.calls a0 (⟨#[45]⟩ : ByteArray) t102 t103 _ A2.out) ?_; clear HB; intro w6 HB))
  go_ret
  exact finE
 obtain ⟨c7, c7b0, H⟩ := gd H
 have c7b1 : decide (0 < t102.size) = true := decide_eq_true (by omega)
 clear c7
 rcases je H with ⟨-, c9b0, c9b1, H⟩ | ⟨c9, c9b0, c9b1, H⟩
 ·obtain rfl := Option.some.inj H
  go_enter Tryz.func120, Tryz.ntmps120
  go_wp2_with (first | ((with_reducible refine gc_ 159 rfl ?_); refine gL 7 Tryz.func159 (strings_CutPrefix.calls _ _ _ _ _ A2.out) ?_; rintro _ w10 ⟨rfl, hb⟩; refine ⟨_, rfl, ?_⟩; replace HB := fB HB hb; clear hb; have p8 : 0 ≤ (0 : Int) := (by omega); have q8 : 0 < t102.size := (by have : (0 : Int) < (t102.size : Int) := od; omega); have hx8 : ∀ h : 0 < t102.size, ((t102[0]'h).toNat : Int) = bt t102 0 := bt_at t102 0; clear p8; have qi8 : (0 < (t102.size : Int)) = True := eq_true od; replace q8 := eq_true q8))
  go_ret
  exact finE
 obtain ⟨t104, A11, H⟩ := bnd H
 obtain rfl := Option.some.inj H
 go_enter Tryz.func120, Tryz.ntmps120
 go_wp2_with (first | ((with_reducible refine gc_ 159 rfl ?_); refine gL 7 Tryz.func159 (strings_CutPrefix.calls _ _ _ _ _ A2.out) ?_; rintro _ w12 ⟨rfl, hb⟩; refine ⟨_, rfl, ?_⟩; replace HB := fB HB hb; clear hb; have p8 : 0 ≤ (0 : Int) := (by omega); have q8 : 0 < t102.size := (by have : (0 : Int) < (t102.size : Int) := od; omega); have hx8 : ∀ h : 0 < t102.size, ((t102[0]'h).toNat : Int) = bt t102 0 := bt_at t102 0; clear p8; have qi8 : (0 < (t102.size : Int)) = True := eq_true od; replace q8 := eq_true q8) | (go_at_call 160; (with_reducible refine (strings_Trim.calls t102 (⟨#[48, 49, 50, 51, 52, 53, 54, 55, 56, 57]⟩ : ByteArray) t104 _ A11.out).mono ?_); rintro e w13 ⟨rfl, hb⟩; replace HB := fB HB hb; clear hb))
 go_ret
 exact finE
theorem stringslite_HasPrefix.calls (a0 : ByteArray) (a1 : ByteArray) (r : Bool) (w : World) (h : stringslite_HasPrefix.f a0 a1 = some r) :
  Calls Tryz.prog 179 #[.string a0, .string a1] w fun e w' => e = .returned (.bool r) ∧ Drawn0 w w' := by
 have H := h
 clear h
 unfold stringslite_HasPrefix.f at H
 rcases jh H with ⟨c3, c3b0, H⟩ | ⟨c3, c3b0, H⟩
 ·have c3b1 : decide (a1.size ≤ a0.size) = true := decide_eq_true (Int.ofNat_le.mp c3)
  clear c3
  obtain ⟨-, c4b0, c4b1, H⟩ := gt H
  obtain ⟨-, c5b0, c5b1, H⟩ := gt H
  obtain rfl := Option.some.inj H
  go_enter Tryz.func179, Tryz.ntmps179
  go_wp2
  go_ret
  exact finD
 have c3b1 : decide (a1.size ≤ a0.size) = false := decide_eq_false (fun h => c3 (Int.ofNat_le.mpr h))
 clear c3
 obtain rfl := Option.some.inj H
 go_enter Tryz.func179, Tryz.ntmps179
 go_wp2
 go_ret
 exact finD
theorem stringslite_TrimPrefix.calls (a0 : ByteArray) (a1 : ByteArray) (r : ByteArray) (w : World) (h : stringslite_TrimPrefix.f a0 a1 = some r) :
  Calls Tryz.prog 149 #[.string a0, .string a1] w fun e w' => e = .returned (.string r) ∧ Drawn0 w w' := by
 have H := h
 clear h
 unfold stringslite_TrimPrefix.f at H
 obtain ⟨t105, A3, H⟩ := bnd H
 by_cases c4 : t105 = true
 ·subst c4
  have H1 : (if 0 ≤ (a1.size : Int) then (if (a1.size : Int) ≤ (a0.size : Int) then (some (a0.extract ((a1.size : Int) : Int).toNat a0.size)) else (none)) else (none)) = some r := by rw [if_pos rfl] at H; exact H
  clear H
  have H := H1
  clear H1
  obtain ⟨-, c5b0, c5b1, H⟩ := gt H
  obtain ⟨-, c6b0, c6b1, H⟩ := gt H
  obtain rfl := Option.some.inj H
  go_enter Tryz.func149, Tryz.ntmps149
  go_wp2_with (first | ((with_reducible refine gc_ 179 rfl ?_); refine goD (some 7) Tryz.func179 #[.string a0, .string a1] (stringslite_HasPrefix.calls a0 a1 true _ A3.out) ?_; intro nd))
  go_ret
  exact finD
 replace c4 := Bool.eq_false_iff.mpr c4
 subst c4
 have H1 : (some a0) = some r := by rw [if_neg (show ¬ (false = true) by decide)] at H; exact H
 clear H
 have H := H1
 clear H1
 obtain rfl := Option.some.inj H
 go_enter Tryz.func149, Tryz.ntmps149
 go_wp2_with (first | ((with_reducible refine gc_ 179 rfl ?_); refine goD (some 7) Tryz.func179 #[.string a0, .string a1] (stringslite_HasPrefix.calls a0 a1 false _ A3.out) ?_; intro nd))
 go_ret
 exact finD
theorem strings_TrimPrefix.calls (a0 : ByteArray) (a1 : ByteArray) (r : ByteArray) (w : World) (h : strings_TrimPrefix.f a0 a1 = some r) :
  Calls Tryz.prog 110 #[.string a0, .string a1] w fun e w' => e = .returned (.string r) ∧ Drawn0 w w' := by
 have H := h
 clear h
 unfold strings_TrimPrefix.f at H
 obtain ⟨t106, A3, H⟩ := bnd H
 obtain rfl := Option.some.inj H
 go_enter Tryz.func110, Tryz.ntmps110
 go_wp2_with (first | ((with_reducible refine gc_ 149 rfl ?_); refine goD (some 7) Tryz.func149 #[.string a0, .string a1] (stringslite_TrimPrefix.calls a0 a1 t106 _ A3.out) ?_; intro nd))
 go_ret
 exact finD
theorem bIdigits.calls (a0 : ByteArray) (r : Int) (w : World) (h : bIdigits.f a0 = some r) :
  Calls Tryz.prog 121 #[.string a0] w fun e w' => e = .returned (.int .i64 r) ∧ Drawn0 w w' := by
 have H := h
 clear h
 unfold bIdigits.f at H
 obtain ⟨t107, A2, H⟩ := bnd H
 obtain rfl := Option.some.inj H
 go_enter Tryz.func121, Tryz.ntmps121
 go_wp2_with (first | ((with_reducible refine gc_ 110 rfl ?_); refine goD (some 4) Tryz.func110 #[.string a0, .string (⟨#[45]⟩ : ByteArray)] (strings_TrimPrefix.calls a0 (⟨#[45]⟩ : ByteArray) t107 _ A2.out) ?_; intro nd))
 go_ret
 exact finD
theorem bICheck.calls (a0 : ByteArray) (r : Int) (w : World) (h : bICheck.f a0 = some r) :
  Calls Tryz.prog 83 #[.string a0] w fun e w' => e = .returned (.int .i64 r) ∧ Below w.heap.size w w' := by
 have HB := Z0.mk (Below.refl w.heap.size w)
 have H := h
 clear h
 unfold bICheck.f at H
 obtain ⟨t108, A2, H⟩ := bnd H
 by_cases c3 : t108 = true
 ·subst c3
  have H1 : ((bIdigits.f a0).bind fun t109 => (if t109 > 4096 then (some 10) else (some 0))) = some r := by rw [if_pos rfl] at H; exact H
  clear H
  have H := H1
  clear H1
  obtain ⟨t109, A4, H⟩ := bnd H
  rcases jg H with ⟨-, c5b0, H⟩ | ⟨-, c5b0, H⟩
  ·obtain rfl := Option.some.inj H
   go_enter Tryz.func83, Tryz.ntmps83
   go_wp2_with (first | ((with_reducible refine gc_ 120 rfl ?_); refine goB (some 5) Tryz.func120 #[.string a0] bq (bIcanonical.calls a0 true _ A2.out) ?_; clear HB; intro w6 HB) | ((with_reducible refine gc_ 121 rfl ?_); refine goD (some 9) Tryz.func121 #[.string a0] (bIdigits.calls a0 t109 _ A4.out) ?_; intro nd))
   go_ret
   exact finE
  obtain rfl := Option.some.inj H
  go_enter Tryz.func83, Tryz.ntmps83
  go_wp2_with (first | ((with_reducible refine gc_ 120 rfl ?_); refine goB (some 5) Tryz.func120 #[.string a0] bq (bIcanonical.calls a0 true _ A2.out) ?_; clear HB; intro w7 HB) | ((with_reducible refine gc_ 121 rfl ?_); refine goD (some 9) Tryz.func121 #[.string a0] (bIdigits.calls a0 t109 _ A4.out) ?_; intro nd))
  go_ret
  exact finE
 replace c3 := Bool.eq_false_iff.mpr c3
 subst c3
 have H1 : (some 3) = some r := by rw [if_neg (show ¬ (false = true) by decide)] at H; exact H
 clear H
 have H := H1
 clear H1
 obtain rfl := Option.some.inj H
 go_enter Tryz.func83, Tryz.ntmps83
 go_wp2_with (first | ((with_reducible refine gc_ 120 rfl ?_); refine goB (some 5) Tryz.func120 #[.string a0] bq (bIcanonical.calls a0 false _ A2.out) ?_; clear HB; intro w8 HB))
 go_ret
 exact finE
theorem bItrim.calls (k : Nat) (P0_ : Nat → Prop) (u9000_ : Value) (l0 : List Int) (r : List Int) (w0 w : World) (hB : Below w0.heap.size w0 w) (ho0 : Kd.R (Kd.int .i64) 3 w w0.heap.size P0_ u9000_ l0) (h : bItrim.f k l0 = some r) :
  Calls Tryz.prog 147 #[u9000_] w fun e w' => ∃ v0_ : Value, e = .returned (v0_) ∧ Kd.R (Kd.int .i64) 3 w' w0.heap.size (fun k_ => (P0_ k_ ∨ w.heap.size ≤ k_)) v0_ r ∧ Below w0.heap.size w0 w' ∧ Kept w w' (fun k_ => P0_ k_) := by
 have HO0 := Z0.mk (show Kd.R (Kd.int .i64) 3 w w0.heap.size (fun k_ => (P0_ k_ ∨ w.heap.size ≤ k_)) u9000_ l0 from Kd.R_mono ho0 (fun k_ hk => (.inl hk)))
 have HK := Z0.mk (Kept.refl w (fun k_ => P0_ k_))
 have HW0 := Z0.mk hB.size
 have HB := Z0.mk hB
 clear hB
 have H := h
 clear h
 unfold bItrim.f at H
 have H' := Z0.mk H
 clear H
 go_enter Tryz.func147, Tryz.ntmps147
 go_wp2
 go_loopg [0] k (fun kq v0 w' => ∃ (x0_1 : List Int), Z0 (bItrim.l0 kq x0_1 = some r) ∧ Z0 (kq ≤ k) ∧ Z0 (Kd.R (Kd.int .i64) 3 w' w0.heap.size (fun k_ => (P0_ k_ ∨ w.heap.size ≤ k_)) v0 x0_1) ∧ Z0 (Kept w w' (fun k_ => P0_ k_)) ∧ Z0 (Below w0.heap.size w0 w'))
 case atStart => exact ⟨(l0), H', ⟨Nat.le_refl _⟩, ⟨rq HO0⟩, ⟨kqs⟩, ⟨bqs⟩⟩
 case round =>
  clear H'
  try clear c1
  obtain ⟨x0_1, HA, HK1, HO_0, HK, HB⟩ := hrel
  cases gk with
  | zero => exact absurd HA.out (by simp [bItrim.l0])
  | succ k1 =>
   have H := HA.out
   clear HA
   simp only [bItrim.l0] at H
   rcases jg H with ⟨c2, c2b0, H⟩ | ⟨c2, c2b0, H⟩
   ·have c2b1 : decide (0 < x0_1.length) = true := decide_eq_true (by omega)
    clear c2
    obtain ⟨ji3, hji3⟩ : ∃ j_ : Int, (wrap64 ((x0_1.length : Int) - 1)) = j_ := ⟨_, rfl⟩
    replace H : (if 0 ≤ (ji3) then (if (ji3) < (x0_1.length : Int) then (if (rd x0_1 (ji3)) = 0 then (if (ji3) ≤ (x0_1.length : Int) then (bItrim.l0 k1 (x0_1.take ((ji3) : Int).toNat)) else (none)) else (some x0_1)) else (none)) else (none)) = some r := by first | (rw [hji3] at H; exact H) | (simp only [hji3] at H ⊢; exact H)
    have hji3w : (IntKind.i64.wrap ((x0_1.length : Int) - 1)) = ji3 := (i64_w _).trans hji3
    obtain ⟨-, c4b0, H⟩ := gd H
    obtain ⟨-, c5b0, H⟩ := gd H
    rcases je H with ⟨-, c6b0, c6b1, H⟩ | ⟨c6, c6b0, c6b1, H⟩
    ·obtain ⟨-, c7b0, c7b1, H⟩ := gt H
     generalize hy112 : (x0_1.take ((ji3) : Int).toNat : List Int) = y112 at H
     have Ny112 := Z0.mk hy112.symm
     clear hy112
     have H' := Z0.mk H
     clear H
     obtain ⟨Ao8, co8, eo8⟩ := Kd.R_slice HO_0.out
     subst eo8
     obtain ⟨ad111, e111, hx111_0, p111, q111⟩ := atI (Kd.R_reads' HO_0.out).2.2 (ji3)
     cases e111
     have q9 : ((ji3) : Int) ≤ ((x0_1.length : Int) : Int) := od
     obtain ⟨i09, hi09, _, hsz9, _⟩ := info_parts info3
     have hcut9 := cut_to (P := Tryz.prog) 86 3 .i64 Tryz.underlying86 hi09 (some ad111) x0_1.length co8 (ji3) od q9 (Kd.R_reads' HO_0.out).2.1
     have hr9 := Kd.R_take (m := ((ji3) : Int).toNat) HO_0.out (by omega)
     have hy9 : y112.length = ((ji3) : Int).toNat := (by rw [Ny112.out, List.length_take]; omega)
     rw [← Ny112.out] at hr9
     rw [← hy9] at hr9 hcut9
     clear hy9 hi09 hsz9 HO_0
     have HO114 := Z0.mk hr9
     clear hr9
     replace q9 := eq_true q9
     go_wp2
     go_roundg k1
     case measure => have := HK1.out; omega
     case rel => exact ⟨(y112), H', ⟨by have := HK1.out; omega⟩, ⟨rq HO114⟩, ⟨kqs⟩, ⟨bqs⟩⟩
    obtain rfl := Option.some.inj H
    obtain ⟨Ao10, co10, eo10⟩ := Kd.R_slice HO_0.out
    subst eo10
    obtain ⟨ad111, e111, hx111_0, p111, q111⟩ := atI (Kd.R_reads' HO_0.out).2.2 (ji3)
    cases e111
    go_wp2
    go_ret
    exact ⟨_, by first | rfl | (simp [errW_none, errW_some] <;> rfl) | (simp only [← hji3]; first | rfl | (simp [errW_none, errW_some] <;> rfl)) | (simp [*, errW_none, errW_some] <;> rfl), rq HO_0, bqs, kqs⟩
   have c2b1 : decide (0 < x0_1.length) = false := decide_eq_false (by omega)
   clear c2
   obtain rfl := Option.some.inj H
   obtain ⟨Ao11, co11, eo11⟩ := Kd.R_slice HO_0.out
   subst eo11
   go_wp2
   go_ret
   exact ⟨_, fe, rq HO_0, bqs, kqs⟩
end Go.Proofs.YthnfajboebaajaaGreatDoor.PA
namespace Go.Proofs.YthnfajboebaajaaGreatDoor
open Go.RowKit Go.Shelf Go.Proofs.WWords Go.Proofs.WLast Go.Proofs.WMore PA
set_option linter.unusedVariables false
set_option linter.unusedSimpArgs false
theorem chunks_calls (a0 : ByteArray) (w : World) :
    Calls Tryz.prog 162 #[.string a0] w fun e w' => ∃ g, e = .returned (.func (.func 193) #[] #[.pointer (some ⟨g, 0, none⟩)]) ∧ Boxed w' g 9 (.string a0) ∧ Below w.heap.size w w' := by
 go_enter Tryz.func162, Tryz.ntmps162
 go_wp2
 go_ret
 exact ⟨w.heap.size, rfl, Boxed.new _ _ _, (Below.refl _ w).alloc (Nat.le_refl _) _⟩
theorem slices_Collect_int.calls (a0 : ByteArray) (r : List Int) (g : Nat) (w : World) (hb : Boxed w g 9 (.string a0)) (h : slices_Collect_int.f a0 = some r) :
    Calls Tryz.prog 161 #[.func (.func 193) #[] #[.pointer (some ⟨g, 0, none⟩)]] w fun e w' => ∃ v0_ : Value, e = .returned (v0_) ∧ Kd.R (Kd.int .i64) 3 w' w.heap.size (fun _ => True) v0_ r ∧ Below w.heap.size w w' := by
 unfold slices_Collect_int.f at h
 split at h
 ·rename_i hc
  obtain rfl := Option.some.inj h
  clear h
  go_enter Tryz.func161, Tryz.ntmps161
  go_wp2_with ((with_reducible refine gc_ 192 rfl ?_); refine goesL_ (some 4) rfl rfl Tryz.func192 (by kernel_rfl) rfl #[.slice none 0 0, .func (.func 193) #[] #[.pointer (some ⟨g, 0, none⟩)]] rfl (by (try simp only [List.map_toArray, List.map_cons, List.map_nil]); first | done | rfl) ?_
               refine (callsIn_wide.1 (append_in 3 (by omega) g a0 ((a0.size + 8) / 9) (by omega) (by omega) hc.1 hc.2 w hb)).mono ?_
               rintro e w' ⟨v, rfl, hr, hB⟩; refine ⟨_, rfl, ?_⟩)
  go_ret
  refine ⟨_, rfl, Kd.R_of_own (enc := .int .i64) ?_ (fun _ _ => trivial), hB⟩
  rw [gk_length]
  exact hr
 cases h
theorem bIread.calls (k : Nat) (a0 : ByteArray) (r1 : Bool) (r2 : List Int) (w : World) (h : bIread.f k a0 = some (r1, r2)) :
    Calls Tryz.prog 123 #[.string a0] w fun e w' => ∃ v1_ : Value, e = .returned (.agg #[.bool r1, v1_]) ∧ Kd.R (Kd.int .i64) 3 w' w.heap.size (fun _ => True) v1_ r2 ∧ Below w.heap.size w w' := by
 have hu88 := Tryz.underlying88
 have HB := Z0.mk (Below.refl w.heap.size w)
 have H := h
 clear h
 unfold bIread.f at H
 obtain ⟨⟨t116, t117⟩, A2, H⟩ := bnd H
 try dsimp only at H
 obtain ⟨t118, A3, H⟩ := bnd H
 obtain ⟨t121, A4, H⟩ := bnd H
 simp only [Option.some.injEq, Prod.mk.injEq] at H
 obtain ⟨rfl, rfl⟩ := H
 go_enter Tryz.func123, Tryz.ntmps123
 go_wp2_with (first | ((with_reducible refine gd_ 2 rfl ?_); refine bxE 2 #[.bool false, .slice none 0 0] 88 ?_; intro gb115 hg w5 hbox hb; have BK115 := Z0.mk hbox; have GW115 := fE HB hg; have GE115 := fE HB hg; replace HB := fB HB hb; clear hb hbox hg) | ((with_reducible refine gc_ 159 rfl ?_); refine gL 7 Tryz.func159 (strings_CutPrefix.calls _ _ _ _ _ A2.out) ?_; rintro _ w6 ⟨rfl, hb⟩; refine ⟨_, rfl, ?_⟩; replace BK115 := fk BK115 hb; replace HB := fB HB hb; clear hb) | ((with_reducible refine gc_ 162 rfl ?_); refine goesL_ (some 12) rfl rfl Tryz.func162 (by kernel_rfl) rfl #[.string t116] rfl (by (try simp only [List.map_toArray, List.map_cons, List.map_nil]); first | done | rfl) ?_; (with_reducible refine (chunks_calls t116 _).mono ?_); rintro e w6b ⟨gq, rfl, hbq, hb⟩; refine ⟨_, rfl, ?_⟩; replace BK115 := fk BK115 hb; replace HB := fB HB hb; have HBQ := Z0.mk hbq; clear hb hbq) | ((with_reducible refine gc_ 161 rfl ?_); refine gL 13 Tryz.func161 (slices_Collect_int.calls _ _ _ _ HBQ.out A3.out) ?_; rintro _ w7 ⟨v119, rfl, ho0, hb⟩; refine ⟨_, rfl, ?_⟩; have HO120 := fN ho0; replace BK115 := fk BK115 hb; replace HB := fB HB hb; clear hb ho0; obtain ⟨Ao8, co8, eo8⟩ := Kd.R_slice HO120.out; subst eo8) | ((with_reducible refine gc_ 147 rfl ?_); refine gL 14 Tryz.func147 (bItrim.calls k (fun k_ => some k_ = (.slice Ao8 t118.length co8 : Value).ownBlock) (.slice Ao8 t118.length co8) t118 t121 w _ ?side1 ?side2 A4.out) ?_; (case side1 => repeat (first | (with_reducible first | exact HB.out | apply below_alloc | apply pw_below_drewN | apply below_drew1 | refine below_set ?_ GE115.out) | exact HB.out)); (case side2 => exact Kd.R_tight rfl HO120.out); rintro _ w9 ⟨v122, rfl, ho0, hb, hkp⟩; refine ⟨_, rfl, ?_⟩; have HO123 := Z0.mk (Kd.R_mono (ok' := fun k_ => True) ho0 (fun k_ hk_ => trivial)); replace BK115 := Z0.mk (blk_kept (hq BK115) hkp (fun hs_ => (fun e_ => (Kd.R_ne HO120.out BK115.out (by decide)) e_) hs_)); replace HB := Z0.mk (hb); clear HO120; clear hb hkp ho0; obtain ⟨Ao10, co10, eo10⟩ := Kd.R_slice HO123.out; subst eo10; obtain ⟨hcz11_0, hcz11_1, hfz11_0, hfz11_1⟩ := b2 BK115))
 refine bodyPost_ret (results_cell_row rfl _ _ gb115 88 #[.bool t117, .slice Ao10 t121.length co10] (0, 0) _ rfl (by (with_reducible repeat (first | refine blk_drewN ?_ _ | refine blk_drew ?_ | refine blk_alloc ?_ _)); refine blk_put (cs := #[.bool t117, .slice none 0 0]) ?_ 1 _ rfl; (with_reducible repeat (first | refine blk_drewN ?_ _ | refine blk_drew ?_ | refine blk_alloc ?_ _)); refine blk_put (cs := #[.bool false, .slice none 0 0]) ?_ 0 _ rfl; (with_reducible repeat (first | refine blk_drewN ?_ _ | refine blk_drew ?_ | refine blk_alloc ?_ _)); exact BK115.out) Tryz.underlying88 rfl (by kernel_rfl)) rfl ?_
 exact ⟨_, fe, by (with_reducible repeat (first | apply Kd.R_alloc | apply Kd.R_drewN | apply Kd.R_drew)); exact Kd.R_mono (Kd.R_far (p := ⟨gb115, 1, none⟩) (Kd.R_far (p := ⟨gb115, 0, none⟩) (Kd.R_types HO123.out BK115.out (by decide)) (fun _ hk => hk.2) (.bool t117)) (fun _ hk => hk.2) (.slice Ao10 t121.length co10)) (fun _ hk => trivial), bqs⟩
theorem at45_0 (x y : ByteArray) (w : World) : (Instr.index 45 (.agg #[.string x, .string y]) (.int .i64 0)).run Tryz.prog w = .ok (.string x) w := by kernel_rfl
theorem at45_1 (x y : ByteArray) (w : World) : (Instr.index 45 (.agg #[.string x, .string y]) (.int .i64 1)).run Tryz.prog w = .ok (.string y) w := by kernel_rfl
attribute [local go_sem] at45_0 at45_1
theorem bIpair.calls (k : Nat) (a0 : ByteArray) (a1 : ByteArray) (r1 : Bool) (r2 : List Int) (r3 : Bool) (r4 : List Int) (r5 : Int) (w : World) (h : bIpair.f k a0 a1 = some (r1, r2, r3, r4, r5)) :
  Calls Tryz.prog 86 #[.string a0, .string a1] w fun e w' => ∃ v1_ v3_ : Value, e = .returned (.tuple #[.agg #[.bool r1, v1_], .agg #[.bool r3, v3_], .int .i64 r5]) ∧ Kd.R (Kd.int .i64) 3 w' w.heap.size (fun k_ => some k_ ≠ (v3_ : Value).ownBlock) v1_ r2 ∧ Kd.R (Kd.int .i64) 3 w' w.heap.size (fun k_ => some k_ ≠ (v1_ : Value).ownBlock) v3_ r4 ∧ Below w.heap.size w w' := by
 have hu88 := Tryz.underlying88
 have hu45 := Tryz.underlying45
 have hz45 := run_underlying (P := Tryz.prog) Tryz.underlying45
 have HB := Z0.mk (Below.refl w.heap.size w)
 have H := h
 clear h
 unfold bIpair.f at H
 obtain ⟨t113, A3, H⟩ := bnd H
 rcases je H with ⟨-, c4b0, c4b1, H⟩ | ⟨c4, c4b0, c4b1, H⟩
 ·obtain ⟨t114, A5, H⟩ := bnd H
  rcases je H with ⟨-, c6b0, c6b1, H⟩ | ⟨c6, c6b0, c6b1, H⟩
  ·obtain ⟨⟨t115, t116⟩, A7, H⟩ := bnd H
   try dsimp only at H
   obtain ⟨⟨t119, t120⟩, A8, H⟩ := bnd H
   try dsimp only at H
   simp only [Option.some.injEq, Prod.mk.injEq] at H
   obtain ⟨rfl, rfl, rfl, rfl, rfl⟩ := H
   go_enter Tryz.func86, Tryz.ntmps86
   go_wp2_with (first | ((with_reducible refine gd_ 4 rfl ?_); refine bxE 4 #[.bool false, .slice none 0 0] 88 ?_; intro gb111 hg w9 hbox hb; have BK111 := Z0.mk hbox; have GW111 := fE HB hg; have GE111 := fE HB hg; replace HB := fB HB hb; clear hb hbox hg) | ((with_reducible refine gd_ 5 rfl ?_); refine bxE 5 #[.bool false, .slice none 0 0] 88 ?_; intro gb112 hg w10 hbox hb; have BK112 := Z0.mk hbox; have GW112 := fE HB hg; have GE112 := fE HB hg; have NB111_112 := fl BK111 hg; have NB112_111 := fg BK111 hg; replace BK111 := fk BK111 hb; replace HB := fB HB hb; clear hb hbox hg) | ((with_reducible refine gc_ 83 rfl ?_); refine gL 17 Tryz.func83 (bICheck.calls _ _ _ A3.out) ?_; rintro _ w11 ⟨rfl, hb⟩; refine ⟨_, rfl, ?_⟩; replace BK111 := fk BK111 hb; replace BK112 := fk BK112 hb; replace HB := fB HB hb; clear hb) | ((with_reducible refine gc_ 83 rfl ?_); refine gL 17 Tryz.func83 (bICheck.calls _ _ _ A5.out) ?_; rintro _ w12 ⟨rfl, hb⟩; refine ⟨_, rfl, ?_⟩; replace BK111 := fk BK111 hb; replace BK112 := fk BK112 hb; replace HB := fB HB hb; clear hb) | ((with_reducible refine gc_ 123 rfl ?_); refine gL 25 Tryz.func123 (bIread.calls _ _ _ _ _ A7.out) ?_; rintro _ w13 ⟨v117, rfl, ho0, hb⟩; refine ⟨_, rfl, ?_⟩; have HO118 := fN ho0; replace BK111 := fk BK111 hb; replace BK112 := fk BK112 hb; replace HB := fB HB hb; clear hb ho0) | ((with_reducible refine gc_ 123 rfl ?_); refine gL 27 Tryz.func123 (bIread.calls _ _ _ _ _ A8.out) ?_; rintro _ w14 ⟨v121, rfl, ho0, hb⟩; refine ⟨_, rfl, ?_⟩; have HO122 := Z0.mk (Kd.R_lower (Kd.R_new' ho0 (Kd.R_lt (rq HO118))) (below_size bqs)); replace HO118 := Z0.mk (Kd.R_elder' (rq HO118) (Kd.R_base ho0) hb); replace BK111 := fk BK111 hb; replace BK112 := fk BK112 hb; replace HB := fB HB hb; clear hb ho0; have hnb15 := NB111_112.out; have hnc15 := NB112_111.out; obtain ⟨hcz16_0, hcz16_1, hfz16_0, hfz16_1⟩ := b2 BK111; obtain ⟨Ao17, co17, eo17⟩ := Kd.R_slice HO118.out; subst eo17; obtain ⟨hcz18_0, hcz18_1, hfz18_0, hfz18_1⟩ := b2 BK112; obtain ⟨Ao19, co19, eo19⟩ := Kd.R_slice HO122.out; subst eo19))
   refine wp_loop_rounds 3 ?_
   rw [rounds_succ]
   go_wp2_with (first | ((with_reducible refine gd_ 4 rfl ?_); refine bxE 4 #[.bool false, .slice none 0 0] 88 ?_; intro gb111 hg w9 hbox hb; have BK111 := Z0.mk hbox; have GW111 := fE HB hg; have GE111 := fE HB hg; replace HB := fB HB hb; clear hb hbox hg) | ((with_reducible refine gd_ 5 rfl ?_); refine bxE 5 #[.bool false, .slice none 0 0] 88 ?_; intro gb112 hg w10 hbox hb; have BK112 := Z0.mk hbox; have GW112 := fE HB hg; have GE112 := fE HB hg; have NB111_112 := fl BK111 hg; have NB112_111 := fg BK111 hg; replace BK111 := fk BK111 hb; replace HB := fB HB hb; clear hb hbox hg) | ((with_reducible refine gc_ 83 rfl ?_); refine gL 17 Tryz.func83 (bICheck.calls _ _ _ A3.out) ?_; rintro _ w11 ⟨rfl, hb⟩; refine ⟨_, rfl, ?_⟩; replace BK111 := fk BK111 hb; replace BK112 := fk BK112 hb; replace HB := fB HB hb; clear hb) | ((with_reducible refine gc_ 83 rfl ?_); refine gL 17 Tryz.func83 (bICheck.calls _ _ _ A5.out) ?_; rintro _ w12 ⟨rfl, hb⟩; refine ⟨_, rfl, ?_⟩; replace BK111 := fk BK111 hb; replace BK112 := fk BK112 hb; replace HB := fB HB hb; clear hb) | ((with_reducible refine gc_ 123 rfl ?_); refine gL 25 Tryz.func123 (bIread.calls _ _ _ _ _ A7.out) ?_; rintro _ w13 ⟨v117, rfl, ho0, hb⟩; refine ⟨_, rfl, ?_⟩; have HO118 := fN ho0; replace BK111 := fk BK111 hb; replace BK112 := fk BK112 hb; replace HB := fB HB hb; clear hb ho0) | ((with_reducible refine gc_ 123 rfl ?_); refine gL 27 Tryz.func123 (bIread.calls _ _ _ _ _ A8.out) ?_; rintro _ w14 ⟨v121, rfl, ho0, hb⟩; refine ⟨_, rfl, ?_⟩; have HO122 := Z0.mk (Kd.R_lower (Kd.R_new' ho0 (Kd.R_lt (rq HO118))) (below_size bqs)); replace HO118 := Z0.mk (Kd.R_elder' (rq HO118) (Kd.R_base ho0) hb); replace BK111 := fk BK111 hb; replace BK112 := fk BK112 hb; replace HB := fB HB hb; clear hb ho0; have hnb15 := NB111_112.out; have hnc15 := NB112_111.out; obtain ⟨hcz16_0, hcz16_1, hfz16_0, hfz16_1⟩ := b2 BK111; obtain ⟨Ao17, co17, eo17⟩ := Kd.R_slice HO118.out; subst eo17; obtain ⟨hcz18_0, hcz18_1, hfz18_0, hfz18_1⟩ := b2 BK112; obtain ⟨Ao19, co19, eo19⟩ := Kd.R_slice HO122.out; subst eo19))
   rw [rounds_succ]
   go_wp2_with (first | ((with_reducible refine gd_ 4 rfl ?_); refine bxE 4 #[.bool false, .slice none 0 0] 88 ?_; intro gb111 hg w9 hbox hb; have BK111 := Z0.mk hbox; have GW111 := fE HB hg; have GE111 := fE HB hg; replace HB := fB HB hb; clear hb hbox hg) | ((with_reducible refine gd_ 5 rfl ?_); refine bxE 5 #[.bool false, .slice none 0 0] 88 ?_; intro gb112 hg w10 hbox hb; have BK112 := Z0.mk hbox; have GW112 := fE HB hg; have GE112 := fE HB hg; have NB111_112 := fl BK111 hg; have NB112_111 := fg BK111 hg; replace BK111 := fk BK111 hb; replace HB := fB HB hb; clear hb hbox hg) | ((with_reducible refine gc_ 83 rfl ?_); refine gL 17 Tryz.func83 (bICheck.calls _ _ _ A3.out) ?_; rintro _ w11 ⟨rfl, hb⟩; refine ⟨_, rfl, ?_⟩; replace BK111 := fk BK111 hb; replace BK112 := fk BK112 hb; replace HB := fB HB hb; clear hb) | ((with_reducible refine gc_ 83 rfl ?_); refine gL 17 Tryz.func83 (bICheck.calls _ _ _ A5.out) ?_; rintro _ w12 ⟨rfl, hb⟩; refine ⟨_, rfl, ?_⟩; replace BK111 := fk BK111 hb; replace BK112 := fk BK112 hb; replace HB := fB HB hb; clear hb) | ((with_reducible refine gc_ 123 rfl ?_); refine gL 25 Tryz.func123 (bIread.calls _ _ _ _ _ A7.out) ?_; rintro _ w13 ⟨v117, rfl, ho0, hb⟩; refine ⟨_, rfl, ?_⟩; have HO118 := fN ho0; replace BK111 := fk BK111 hb; replace BK112 := fk BK112 hb; replace HB := fB HB hb; clear hb ho0) | ((with_reducible refine gc_ 123 rfl ?_); refine gL 27 Tryz.func123 (bIread.calls _ _ _ _ _ A8.out) ?_; rintro _ w14 ⟨v121, rfl, ho0, hb⟩; refine ⟨_, rfl, ?_⟩; have HO122 := Z0.mk (Kd.R_lower (Kd.R_new' ho0 (Kd.R_lt (rq HO118))) (below_size bqs)); replace HO118 := Z0.mk (Kd.R_elder' (rq HO118) (Kd.R_base ho0) hb); replace BK111 := fk BK111 hb; replace BK112 := fk BK112 hb; replace HB := fB HB hb; clear hb ho0; have hnb15 := NB111_112.out; have hnc15 := NB112_111.out; obtain ⟨hcz16_0, hcz16_1, hfz16_0, hfz16_1⟩ := b2 BK111; obtain ⟨Ao17, co17, eo17⟩ := Kd.R_slice HO118.out; subst eo17; obtain ⟨hcz18_0, hcz18_1, hfz18_0, hfz18_1⟩ := b2 BK112; obtain ⟨Ao19, co19, eo19⟩ := Kd.R_slice HO122.out; subst eo19))
   rw [rounds_succ]
   go_wp2_with (first | ((with_reducible refine gd_ 4 rfl ?_); refine bxE 4 #[.bool false, .slice none 0 0] 88 ?_; intro gb111 hg w9 hbox hb; have BK111 := Z0.mk hbox; have GW111 := fE HB hg; have GE111 := fE HB hg; replace HB := fB HB hb; clear hb hbox hg) | ((with_reducible refine gd_ 5 rfl ?_); refine bxE 5 #[.bool false, .slice none 0 0] 88 ?_; intro gb112 hg w10 hbox hb; have BK112 := Z0.mk hbox; have GW112 := fE HB hg; have GE112 := fE HB hg; have NB111_112 := fl BK111 hg; have NB112_111 := fg BK111 hg; replace BK111 := fk BK111 hb; replace HB := fB HB hb; clear hb hbox hg) | ((with_reducible refine gc_ 83 rfl ?_); refine gL 17 Tryz.func83 (bICheck.calls _ _ _ A3.out) ?_; rintro _ w11 ⟨rfl, hb⟩; refine ⟨_, rfl, ?_⟩; replace BK111 := fk BK111 hb; replace BK112 := fk BK112 hb; replace HB := fB HB hb; clear hb) | ((with_reducible refine gc_ 83 rfl ?_); refine gL 17 Tryz.func83 (bICheck.calls _ _ _ A5.out) ?_; rintro _ w12 ⟨rfl, hb⟩; refine ⟨_, rfl, ?_⟩; replace BK111 := fk BK111 hb; replace BK112 := fk BK112 hb; replace HB := fB HB hb; clear hb) | ((with_reducible refine gc_ 123 rfl ?_); refine gL 25 Tryz.func123 (bIread.calls _ _ _ _ _ A7.out) ?_; rintro _ w13 ⟨v117, rfl, ho0, hb⟩; refine ⟨_, rfl, ?_⟩; have HO118 := fN ho0; replace BK111 := fk BK111 hb; replace BK112 := fk BK112 hb; replace HB := fB HB hb; clear hb ho0) | ((with_reducible refine gc_ 123 rfl ?_); refine gL 27 Tryz.func123 (bIread.calls _ _ _ _ _ A8.out) ?_; rintro _ w14 ⟨v121, rfl, ho0, hb⟩; refine ⟨_, rfl, ?_⟩; have HO122 := Z0.mk (Kd.R_lower (Kd.R_new' ho0 (Kd.R_lt (rq HO118))) (below_size bqs)); replace HO118 := Z0.mk (Kd.R_elder' (rq HO118) (Kd.R_base ho0) hb); replace BK111 := fk BK111 hb; replace BK112 := fk BK112 hb; replace HB := fB HB hb; clear hb ho0; have hnb15 := NB111_112.out; have hnc15 := NB112_111.out; obtain ⟨hcz16_0, hcz16_1, hfz16_0, hfz16_1⟩ := b2 BK111; obtain ⟨Ao17, co17, eo17⟩ := Kd.R_slice HO118.out; subst eo17; obtain ⟨hcz18_0, hcz18_1, hfz18_0, hfz18_1⟩ := b2 BK112; obtain ⟨Ao19, co19, eo19⟩ := Kd.R_slice HO122.out; subst eo19))
   refine bodyPost_ret (results_list (rs := [.cell 4 88, .cell 5 88, .tmp 6]) rfl (by simp) (.cell gb111 88 #[.bool t115, .slice Ao17 t116.length co17] (0, 0) _ rfl (by (with_reducible repeat (first | refine blk_drewN ?_ _ | refine blk_drew ?_ | refine blk_alloc ?_ _)); refine blk_far ?_ NB111_112.out _; (with_reducible repeat (first | refine blk_drewN ?_ _ | refine blk_drew ?_ | refine blk_alloc ?_ _)); refine blk_far ?_ NB111_112.out _; (with_reducible repeat (first | refine blk_drewN ?_ _ | refine blk_drew ?_ | refine blk_alloc ?_ _)); refine blk_put (cs := #[.bool t115, .slice none 0 0]) ?_ 1 _ rfl; (with_reducible repeat (first | refine blk_drewN ?_ _ | refine blk_drew ?_ | refine blk_alloc ?_ _)); refine blk_put (cs := #[.bool false, .slice none 0 0]) ?_ 0 _ rfl; (with_reducible repeat (first | refine blk_drewN ?_ _ | refine blk_drew ?_ | refine blk_alloc ?_ _)); exact BK111.out) Tryz.underlying88 rfl (by kernel_rfl) (.cell gb112 88 #[.bool t119, .slice Ao19 t120.length co19] (0, 0) _ rfl (by (with_reducible repeat (first | refine blk_drewN ?_ _ | refine blk_drew ?_ | refine blk_alloc ?_ _)); refine blk_put (cs := #[.bool t119, .slice none 0 0]) ?_ 1 _ rfl; (with_reducible repeat (first | refine blk_drewN ?_ _ | refine blk_drew ?_ | refine blk_alloc ?_ _)); refine blk_put (cs := #[.bool false, .slice none 0 0]) ?_ 0 _ rfl; (with_reducible repeat (first | refine blk_drewN ?_ _ | refine blk_drew ?_ | refine blk_alloc ?_ _)); refine blk_far ?_ NB112_111.out _; (with_reducible repeat (first | refine blk_drewN ?_ _ | refine blk_drew ?_ | refine blk_alloc ?_ _)); refine blk_far ?_ NB112_111.out _; (with_reducible repeat (first | refine blk_drewN ?_ _ | refine blk_drew ?_ | refine blk_alloc ?_ _)); exact BK112.out) Tryz.underlying88 rfl (by kernel_rfl) (.tmp .nil)))) rfl ?_
   exact ⟨_, _, fe, by (with_reducible repeat (first | apply Kd.R_alloc | apply Kd.R_drewN | apply Kd.R_drew)); exact Kd.R_mono (Kd.R_far (p := ⟨gb112, 1, none⟩) (Kd.R_far (p := ⟨gb112, 0, none⟩) (Kd.R_far (p := ⟨gb111, 1, none⟩) (Kd.R_far (p := ⟨gb111, 0, none⟩) (Kd.R_types (Kd.R_types HO118.out BK111.out (by decide)) BK112.out (by decide)) (fun _ hk => hk.1.2) (.bool t115)) (fun _ hk => hk.1.2) (.slice Ao17 t116.length co17)) (fun _ hk => hk.2) (.bool t119)) (fun _ hk => hk.2) (.slice Ao19 t120.length co19)) (fun _ hk => hk.1.1.2), by (with_reducible repeat (first | apply Kd.R_alloc | apply Kd.R_drewN | apply Kd.R_drew)); exact Kd.R_mono (Kd.R_far (p := ⟨gb112, 1, none⟩) (Kd.R_far (p := ⟨gb112, 0, none⟩) (Kd.R_far (p := ⟨gb111, 1, none⟩) (Kd.R_far (p := ⟨gb111, 0, none⟩) (Kd.R_types (Kd.R_types HO122.out BK111.out (by decide)) BK112.out (by decide)) (fun _ hk => hk.1.2) (.bool t115)) (fun _ hk => hk.1.2) (.slice Ao17 t116.length co17)) (fun _ hk => hk.2) (.bool t119)) (fun _ hk => hk.2) (.slice Ao19 t120.length co19)) (fun _ hk => hk.1.1.2), bqs⟩
  simp only [Option.some.injEq, Prod.mk.injEq] at H
  obtain ⟨rfl, rfl, rfl, rfl, rfl⟩ := H
  go_enter Tryz.func86, Tryz.ntmps86
  go_wp2_with (first | ((with_reducible refine gd_ 4 rfl ?_); refine bxE 4 #[.bool false, .slice none 0 0] 88 ?_; intro gb111 hg w20 hbox hb; have BK111 := Z0.mk hbox; have GW111 := fE HB hg; have GE111 := fE HB hg; replace HB := fB HB hb; clear hb hbox hg) | ((with_reducible refine gd_ 5 rfl ?_); refine bxE 5 #[.bool false, .slice none 0 0] 88 ?_; intro gb112 hg w21 hbox hb; have BK112 := Z0.mk hbox; have GW112 := fE HB hg; have GE112 := fE HB hg; have NB111_112 := fl BK111 hg; have NB112_111 := fg BK111 hg; replace BK111 := fk BK111 hb; replace HB := fB HB hb; clear hb hbox hg) | ((with_reducible refine gc_ 83 rfl ?_); refine gL 17 Tryz.func83 (bICheck.calls _ _ _ A3.out) ?_; rintro _ w22 ⟨rfl, hb⟩; refine ⟨_, rfl, ?_⟩; replace BK111 := fk BK111 hb; replace BK112 := fk BK112 hb; replace HB := fB HB hb; clear hb) | ((with_reducible refine gc_ 83 rfl ?_); refine gL 17 Tryz.func83 (bICheck.calls _ _ _ A5.out) ?_; rintro _ w23 ⟨rfl, hb⟩; refine ⟨_, rfl, ?_⟩; replace BK111 := fk BK111 hb; replace BK112 := fk BK112 hb; replace HB := fB HB hb; clear hb; have hnb24 := NB111_112.out; have hnc24 := NB112_111.out; obtain ⟨hcz25_0, hcz25_1, hfz25_0, hfz25_1⟩ := b2 BK111; obtain ⟨hcz26_0, hcz26_1, hfz26_0, hfz26_1⟩ := b2 BK112))
  refine wp_loop_rounds 3 ?_
  rw [rounds_succ]
  go_wp2_with (first | ((with_reducible refine gd_ 4 rfl ?_); refine bxE 4 #[.bool false, .slice none 0 0] 88 ?_; intro gb111 hg w20 hbox hb; have BK111 := Z0.mk hbox; have GW111 := fE HB hg; have GE111 := fE HB hg; replace HB := fB HB hb; clear hb hbox hg) | ((with_reducible refine gd_ 5 rfl ?_); refine bxE 5 #[.bool false, .slice none 0 0] 88 ?_; intro gb112 hg w21 hbox hb; have BK112 := Z0.mk hbox; have GW112 := fE HB hg; have GE112 := fE HB hg; have NB111_112 := fl BK111 hg; have NB112_111 := fg BK111 hg; replace BK111 := fk BK111 hb; replace HB := fB HB hb; clear hb hbox hg) | ((with_reducible refine gc_ 83 rfl ?_); refine gL 17 Tryz.func83 (bICheck.calls _ _ _ A3.out) ?_; rintro _ w22 ⟨rfl, hb⟩; refine ⟨_, rfl, ?_⟩; replace BK111 := fk BK111 hb; replace BK112 := fk BK112 hb; replace HB := fB HB hb; clear hb) | ((with_reducible refine gc_ 83 rfl ?_); refine gL 17 Tryz.func83 (bICheck.calls _ _ _ A5.out) ?_; rintro _ w23 ⟨rfl, hb⟩; refine ⟨_, rfl, ?_⟩; replace BK111 := fk BK111 hb; replace BK112 := fk BK112 hb; replace HB := fB HB hb; clear hb; have hnb24 := NB111_112.out; have hnc24 := NB112_111.out; obtain ⟨hcz25_0, hcz25_1, hfz25_0, hfz25_1⟩ := b2 BK111; obtain ⟨hcz26_0, hcz26_1, hfz26_0, hfz26_1⟩ := b2 BK112))
  rw [rounds_succ]
  go_wp2_with (first | ((with_reducible refine gd_ 4 rfl ?_); refine bxE 4 #[.bool false, .slice none 0 0] 88 ?_; intro gb111 hg w20 hbox hb; have BK111 := Z0.mk hbox; have GW111 := fE HB hg; have GE111 := fE HB hg; replace HB := fB HB hb; clear hb hbox hg) | ((with_reducible refine gd_ 5 rfl ?_); refine bxE 5 #[.bool false, .slice none 0 0] 88 ?_; intro gb112 hg w21 hbox hb; have BK112 := Z0.mk hbox; have GW112 := fE HB hg; have GE112 := fE HB hg; have NB111_112 := fl BK111 hg; have NB112_111 := fg BK111 hg; replace BK111 := fk BK111 hb; replace HB := fB HB hb; clear hb hbox hg) | ((with_reducible refine gc_ 83 rfl ?_); refine gL 17 Tryz.func83 (bICheck.calls _ _ _ A3.out) ?_; rintro _ w22 ⟨rfl, hb⟩; refine ⟨_, rfl, ?_⟩; replace BK111 := fk BK111 hb; replace BK112 := fk BK112 hb; replace HB := fB HB hb; clear hb) | ((with_reducible refine gc_ 83 rfl ?_); refine gL 17 Tryz.func83 (bICheck.calls _ _ _ A5.out) ?_; rintro _ w23 ⟨rfl, hb⟩; refine ⟨_, rfl, ?_⟩; replace BK111 := fk BK111 hb; replace BK112 := fk BK112 hb; replace HB := fB HB hb; clear hb; have hnb24 := NB111_112.out; have hnc24 := NB112_111.out; obtain ⟨hcz25_0, hcz25_1, hfz25_0, hfz25_1⟩ := b2 BK111; obtain ⟨hcz26_0, hcz26_1, hfz26_0, hfz26_1⟩ := b2 BK112))
  refine bodyPost_ret (results_list (rs := [.cell 4 88, .cell 5 88, .tmp 6]) rfl (by simp) (.cell gb111 88 #[.bool false, .slice none 0 0] (0, 0) _ rfl (by (with_reducible repeat (first | refine blk_drewN ?_ _ | refine blk_drew ?_ | refine blk_alloc ?_ _)); refine blk_far ?_ NB111_112.out _; (with_reducible repeat (first | refine blk_drewN ?_ _ | refine blk_drew ?_ | refine blk_alloc ?_ _)); refine blk_far ?_ NB111_112.out _; (with_reducible repeat (first | refine blk_drewN ?_ _ | refine blk_drew ?_ | refine blk_alloc ?_ _)); refine blk_put (cs := #[.bool false, .slice none 0 0]) ?_ 1 _ rfl; (with_reducible repeat (first | refine blk_drewN ?_ _ | refine blk_drew ?_ | refine blk_alloc ?_ _)); refine blk_put (cs := #[.bool false, .slice none 0 0]) ?_ 0 _ rfl; (with_reducible repeat (first | refine blk_drewN ?_ _ | refine blk_drew ?_ | refine blk_alloc ?_ _)); exact BK111.out) Tryz.underlying88 rfl (by kernel_rfl) (.cell gb112 88 #[.bool false, .slice none 0 0] (0, 0) _ rfl (by (with_reducible repeat (first | refine blk_drewN ?_ _ | refine blk_drew ?_ | refine blk_alloc ?_ _)); refine blk_put (cs := #[.bool false, .slice none 0 0]) ?_ 1 _ rfl; (with_reducible repeat (first | refine blk_drewN ?_ _ | refine blk_drew ?_ | refine blk_alloc ?_ _)); refine blk_put (cs := #[.bool false, .slice none 0 0]) ?_ 0 _ rfl; (with_reducible repeat (first | refine blk_drewN ?_ _ | refine blk_drew ?_ | refine blk_alloc ?_ _)); refine blk_far ?_ NB112_111.out _; (with_reducible repeat (first | refine blk_drewN ?_ _ | refine blk_drew ?_ | refine blk_alloc ?_ _)); refine blk_far ?_ NB112_111.out _; (with_reducible repeat (first | refine blk_drewN ?_ _ | refine blk_drew ?_ | refine blk_alloc ?_ _)); exact BK112.out) Tryz.underlying88 rfl (by kernel_rfl) (.tmp .nil)))) rfl ?_
  exact ⟨_, _, fe, by first | exact Kd.R_nil _ _ _ _ _ | exact Kd.N_nil _ _ _ _ _ | exact Kd.V_nil _ _ _ _ _ | exact Kd.Q_nil _ _ _ _ _ | exact Kd.S_nil _ _ _ _ _, by first | exact Kd.R_nil _ _ _ _ _ | exact Kd.N_nil _ _ _ _ _ | exact Kd.V_nil _ _ _ _ _ | exact Kd.Q_nil _ _ _ _ _ | exact Kd.S_nil _ _ _ _ _, bqs⟩
 simp only [Option.some.injEq, Prod.mk.injEq] at H
 obtain ⟨rfl, rfl, rfl, rfl, rfl⟩ := H
 go_enter Tryz.func86, Tryz.ntmps86
 go_wp2_with (first | ((with_reducible refine gd_ 4 rfl ?_); refine bxE 4 #[.bool false, .slice none 0 0] 88 ?_; intro gb111 hg w27 hbox hb; have BK111 := Z0.mk hbox; have GW111 := fE HB hg; have GE111 := fE HB hg; replace HB := fB HB hb; clear hb hbox hg) | ((with_reducible refine gd_ 5 rfl ?_); refine bxE 5 #[.bool false, .slice none 0 0] 88 ?_; intro gb112 hg w28 hbox hb; have BK112 := Z0.mk hbox; have GW112 := fE HB hg; have GE112 := fE HB hg; have NB111_112 := fl BK111 hg; have NB112_111 := fg BK111 hg; replace BK111 := fk BK111 hb; replace HB := fB HB hb; clear hb hbox hg) | ((with_reducible refine gc_ 83 rfl ?_); refine gL 17 Tryz.func83 (bICheck.calls _ _ _ A3.out) ?_; rintro _ w29 ⟨rfl, hb⟩; refine ⟨_, rfl, ?_⟩; replace BK111 := fk BK111 hb; replace BK112 := fk BK112 hb; replace HB := fB HB hb; clear hb; have hnb30 := NB111_112.out; have hnc30 := NB112_111.out; obtain ⟨hcz31_0, hcz31_1, hfz31_0, hfz31_1⟩ := b2 BK111; obtain ⟨hcz32_0, hcz32_1, hfz32_0, hfz32_1⟩ := b2 BK112))
 refine wp_loop_rounds 3 ?_
 rw [rounds_succ]
 go_wp2_with (first | ((with_reducible refine gd_ 4 rfl ?_); refine bxE 4 #[.bool false, .slice none 0 0] 88 ?_; intro gb111 hg w27 hbox hb; have BK111 := Z0.mk hbox; have GW111 := fE HB hg; have GE111 := fE HB hg; replace HB := fB HB hb; clear hb hbox hg) | ((with_reducible refine gd_ 5 rfl ?_); refine bxE 5 #[.bool false, .slice none 0 0] 88 ?_; intro gb112 hg w28 hbox hb; have BK112 := Z0.mk hbox; have GW112 := fE HB hg; have GE112 := fE HB hg; have NB111_112 := fl BK111 hg; have NB112_111 := fg BK111 hg; replace BK111 := fk BK111 hb; replace HB := fB HB hb; clear hb hbox hg) | ((with_reducible refine gc_ 83 rfl ?_); refine gL 17 Tryz.func83 (bICheck.calls _ _ _ A3.out) ?_; rintro _ w29 ⟨rfl, hb⟩; refine ⟨_, rfl, ?_⟩; replace BK111 := fk BK111 hb; replace BK112 := fk BK112 hb; replace HB := fB HB hb; clear hb; have hnb30 := NB111_112.out; have hnc30 := NB112_111.out; obtain ⟨hcz31_0, hcz31_1, hfz31_0, hfz31_1⟩ := b2 BK111; obtain ⟨hcz32_0, hcz32_1, hfz32_0, hfz32_1⟩ := b2 BK112))
 refine bodyPost_ret (results_list (rs := [.cell 4 88, .cell 5 88, .tmp 6]) rfl (by simp) (.cell gb111 88 #[.bool false, .slice none 0 0] (0, 0) _ rfl (by (with_reducible repeat (first | refine blk_drewN ?_ _ | refine blk_drew ?_ | refine blk_alloc ?_ _)); refine blk_far ?_ NB111_112.out _; (with_reducible repeat (first | refine blk_drewN ?_ _ | refine blk_drew ?_ | refine blk_alloc ?_ _)); refine blk_far ?_ NB111_112.out _; (with_reducible repeat (first | refine blk_drewN ?_ _ | refine blk_drew ?_ | refine blk_alloc ?_ _)); refine blk_put (cs := #[.bool false, .slice none 0 0]) ?_ 1 _ rfl; (with_reducible repeat (first | refine blk_drewN ?_ _ | refine blk_drew ?_ | refine blk_alloc ?_ _)); refine blk_put (cs := #[.bool false, .slice none 0 0]) ?_ 0 _ rfl; (with_reducible repeat (first | refine blk_drewN ?_ _ | refine blk_drew ?_ | refine blk_alloc ?_ _)); exact BK111.out) Tryz.underlying88 rfl (by kernel_rfl) (.cell gb112 88 #[.bool false, .slice none 0 0] (0, 0) _ rfl (by (with_reducible repeat (first | refine blk_drewN ?_ _ | refine blk_drew ?_ | refine blk_alloc ?_ _)); refine blk_put (cs := #[.bool false, .slice none 0 0]) ?_ 1 _ rfl; (with_reducible repeat (first | refine blk_drewN ?_ _ | refine blk_drew ?_ | refine blk_alloc ?_ _)); refine blk_put (cs := #[.bool false, .slice none 0 0]) ?_ 0 _ rfl; (with_reducible repeat (first | refine blk_drewN ?_ _ | refine blk_drew ?_ | refine blk_alloc ?_ _)); refine blk_far ?_ NB112_111.out _; (with_reducible repeat (first | refine blk_drewN ?_ _ | refine blk_drew ?_ | refine blk_alloc ?_ _)); refine blk_far ?_ NB112_111.out _; (with_reducible repeat (first | refine blk_drewN ?_ _ | refine blk_drew ?_ | refine blk_alloc ?_ _)); exact BK112.out) Tryz.underlying88 rfl (by kernel_rfl) (.tmp .nil)))) rfl ?_
 exact ⟨_, _, fe, by first | exact Kd.R_nil _ _ _ _ _ | exact Kd.N_nil _ _ _ _ _ | exact Kd.V_nil _ _ _ _ _ | exact Kd.Q_nil _ _ _ _ _ | exact Kd.S_nil _ _ _ _ _, by first | exact Kd.R_nil _ _ _ _ _ | exact Kd.N_nil _ _ _ _ _ | exact Kd.V_nil _ _ _ _ _ | exact Kd.Q_nil _ _ _ _ _ | exact Kd.S_nil _ _ _ _ _, bqs⟩
end Go.Proofs.YthnfajboebaajaaGreatDoor
namespace Go.Proofs.YthnfajboebaajaaGreatDoor.PA
open Go.RowKit Go.Proofs.WWords Go.Proofs.WLast Go.Proofs.WMore
attribute [local go_sem] max2_int min2_int max_two min_two max_three min_three max_four min_four
set_option linter.unusedVariables false
set_option linter.unusedSimpArgs false
theorem bIminus.calls (k : Nat) (A0 : Option Addr) (c0 : Nat) (l0 : List Int) (A1 : Option Addr) (c1 : Nat) (l1 : List Int) (r : List Int) (w : World) (hr0 : Kd.C (Kd.int .i64) w A0 l0.length l0) (hc0 : l0.length ≤ c0) (hr1 : Kd.C (Kd.int .i64) w A1 l1.length l1) (hc1 : l1.length ≤ c1) (h : bIminus.f k l0 l1 = some r) :
  Calls Tryz.prog 144 #[.slice A0 l0.length c0, .slice A1 l1.length c1] w fun e w' => ∃ v0_ : Value, e = .returned (v0_) ∧ Kd.R (Kd.int .i64) 3 w' w.heap.size (fun _ => True) v0_ r ∧ Below w.heap.size w w' := by
 have HR0 := Z0.mk hr0
 have HC0 := Z0.mk hc0
 clear hr0 hc0
 have HR1 := Z0.mk hr1
 have HC1 := Z0.mk hc1
 clear hr1 hc1
 have HB := Z0.mk (Below.refl w.heap.size w)
 have H := h
 clear h
 unfold bIminus.f at H
 obtain ⟨-, c3b0, c3b1, H⟩ := gt H
 obtain ⟨-, c4b0, c4b1, H⟩ := gt H
 obtain ⟨y229, Ny229, H⟩ := yb H
 have H' := Z0.mk H
 clear H
 go_enter Tryz.func144, Tryz.ntmps144
 go_wp2_with (first | ((with_reducible refine gd_ 11 rfl ?_); refine Kd.R_make (Kd.int .i64) _ 3 rfl (N := 11) rfl 86 _ _ rfl (l0.length : Int) rfl rfl Tryz.underlying86 (.int .i64 0) 8 info3 rfl (by decide) (by omega) 0 (ok := fun _ => True) (okp := fun _ => True) rfl (fun _ hk => hk) trivial od (Nat.le_trans (Nat.mul_le_mul_right _ (od : (l0.length : Int).toNat ≤ 35184372088832)) (by omega)) (Below.refl _ _) (Nat.le_refl _) ?_; intro v230 w5 ho6 hb hg_ hnew_; clear hg_ hnew_; (first | rw [← Ny229.out] at ho6 | (simp only [Int.reduceToNat] at ho6; rw [← Ny229.out] at ho6)); have HO231 := Z0.mk (Kd.R_lower ho6 (below_size bqs)); replace HB := fB HB hb; clear hb ho6; obtain ⟨Ao7, co7, eo7⟩ := Kd.R_slice HO231.out; subst eo7))
 go_loopg [6, 14] k (fun kq v6 v14 w' => ∃ (x5_1 : List Int) (x6_1 : Int) (x14_1 : Int), v6 = .int .i64 x6_1 ∧ v14 = .int .i64 x14_1 ∧ Z0 (bIminus.l0 kq l0 l1 x5_1 x6_1 (y229.length : Int) x14_1 = some r) ∧ Z0 (kq ≤ k) ∧ Z0 (Kd.R (Kd.int .i64) 3 w' w.heap.size (fun _ => True) (.slice Ao7 y229.length co7) x5_1) ∧ Z0 (Below w.heap.size w w'))
 case atStart => exact ⟨(y229), (0), (0), fs, fs, H', ⟨Nat.le_refl _⟩, ⟨rq HO231⟩, ⟨bqs⟩⟩
 case round =>
  clear H'
  try clear c1
  try clear p2
  try clear c3
  try clear c3b0
  try clear c3b1
  try clear c4
  try clear c4b0
  try clear c4b1
  obtain ⟨x5_1, x6_1, x14_1, rfl, rfl, HA, HK1, HO_5, HB⟩ := hrel
  have hl5_1 := (Kd.R_reads' HO_5.out).1
  rw [hl5_1] at HO_5
  (try simp only [hl5_1])
  cases gk with
  | zero => exact absurd HA.out (by simp [bIminus.l0])
  | succ k1 =>
   have H := HA.out
   clear HA
   simp only [bIminus.l0] at H
   rcases jd H with ⟨c8, c8b0, H⟩ | ⟨c8, c8b0, H⟩
   ·(try (have c8b0_ := c8b0; rw [hl5_1] at c8b0_))
    clear c8
    obtain ⟨-, c9b0, H⟩ := gd H
    obtain ⟨c10, c10b0, H⟩ := gd H
    (try (have c10b0_ := c10b0; rw [hl5_1] at c10b0_))
    clear c10
    rcases jd H with ⟨c11, c11b0, H⟩ | ⟨c11, c11b0, H⟩
    ·(try (have c11b0_ := c11b0; rw [hl5_1] at c11b0_))
     clear c11
     rcases jd H with ⟨-, c12b0, H⟩ | ⟨-, c12b0, H⟩
     ·obtain ⟨c13, c13b0, H⟩ := gd H
      (try (have c13b0_ := c13b0; rw [hl5_1] at c13b0_))
      clear c13
      generalize hy237 : (x5_1.set (x14_1 : Int).toNat (wrap64 ((wrap64 ((wrap64 ((rd l0 x14_1) - x6_1)) - (rd l1 x14_1))) + 1000000000)) : List Int) = y237 at H
      have Ny237 := Z0.mk hy237.symm
      clear hy237
      have H' := Z0.mk H
      clear H
      obtain ⟨ad235, e235, hx235_0, p235, q235⟩ := atB HB HR0.out x14_1
      cases e235
      obtain ⟨ad236, e236, hx236_0, p236, q236⟩ := atB HB HR1.out x14_1
      cases e236
      have p14 : 0 ≤ (x14_1 : Int) := od
      have q14 : (x14_1 : Int) < ((x5_1.length : Int) : Int) := od
      obtain ⟨go14, co14, eo14, gb14, gl14, cl14, HG14⟩ := Kd.R_form HO_5.out (by omega)
      (first | cases eo14 | (injection eo14 with ea_ en_ ec_; (first | subst ea_ | (injection ea_ with ea_; subst ea_)); subst ec_; clear en_))
      have GB14 := Z0.mk gb14
      have GG14 := Z0.mk HG14
      clear gb14 gl14 HG14
      obtain ⟨hx14_0, hf14_0⟩ := Kd.R_celln 0 HO_5.out (x14_1 : Int) p14 q14
      replace p14 := eq_true p14
      replace q14 := eq_true q14
      have HP15 := Kd.R_putg HO_5.out (x14_1 : Int) (wrap64 ((wrap64 ((wrap64 ((rd l0 x14_1) - x6_1)) - (rd l1 x14_1))) + 1000000000))
      go_wp2_with (first | ((with_reducible refine gate_store (t := 3) (p := 40) rfl ?_); refine store_event (t := 3) (p := 40) (v := ?vo_w16) (w1 := (wr.setCell ⟨go14, (x14_1 : Int).toNat, none⟩ (.int .i64 (wrap64 ((wrap64 ((wrap64 ((rd l0 x14_1) - x6_1)) - (rd l1 x14_1))) + 1000000000))))) ?hg ?ho ?hn ?hr ?_; (case ho => rfl); (case hg => rfl); (case hn => rfl); (case hr => first | (go_simp; done) | (go_simp; rfl)); intro w16 hw; have hg : wr.grownBy w16 (some go14) := (by rw [hw]; exact HP15.2); have hp_ : Kd.R (Kd.int .i64) 3 w16 w.heap.size (fun _ => True) (.slice (some ⟨go14, 0, none⟩) x5_1.length co7) y237 := (by rw [hw, Ny237.out]; exact HP15.1); clear HP15; replace HO_5 := Z0.mk (hp_); replace HB := Z0.mk ((by rw [hw]; exact below_set (HB.out) GB14.out : Below w.heap.size w w16)); clear hg hw hp_))
      (try simp only [← hl5_1])
      go_roundg k1
      case measure => have := HK1.out; omega
      case rel => exact ⟨(y237), (1), (wrap64 (x14_1 + 1)), fs, fs, H', ⟨by have := HK1.out; omega⟩, ⟨by (try simp only [hl5_1]); (with_reducible repeat (first | apply Kd.R_alloc | apply Kd.R_drewN | apply Kd.R_drew)); exact HO_5.out⟩, ⟨bqs⟩⟩
     obtain ⟨c17, c17b0, H⟩ := gd H
     (try (have c17b0_ := c17b0; rw [hl5_1] at c17b0_))
     clear c17
     generalize hy238 : (x5_1.set (x14_1 : Int).toNat (wrap64 ((wrap64 ((rd l0 x14_1) - x6_1)) - (rd l1 x14_1))) : List Int) = y238 at H
     have Ny238 := Z0.mk hy238.symm
     clear hy238
     have H' := Z0.mk H
     clear H
     obtain ⟨ad235, e235, hx235_0, p235, q235⟩ := atB HB HR0.out x14_1
     cases e235
     obtain ⟨ad236, e236, hx236_0, p236, q236⟩ := atB HB HR1.out x14_1
     cases e236
     have p18 : 0 ≤ (x14_1 : Int) := od
     have q18 : (x14_1 : Int) < ((x5_1.length : Int) : Int) := od
     obtain ⟨go18, co18, eo18, gb18, gl18, cl18, HG18⟩ := Kd.R_form HO_5.out (by omega)
     (first | cases eo18 | (injection eo18 with ea_ en_ ec_; (first | subst ea_ | (injection ea_ with ea_; subst ea_)); subst ec_; clear en_))
     have GB18 := Z0.mk gb18
     have GG18 := Z0.mk HG18
     clear gb18 gl18 HG18
     obtain ⟨hx18_0, hf18_0⟩ := Kd.R_celln 0 HO_5.out (x14_1 : Int) p18 q18
     replace p18 := eq_true p18
     replace q18 := eq_true q18
     have HP19 := Kd.R_putg HO_5.out (x14_1 : Int) (wrap64 ((wrap64 ((rd l0 x14_1) - x6_1)) - (rd l1 x14_1)))
     go_wp2_with (first | ((with_reducible refine gate_store (t := 3) (p := 40) rfl ?_); refine store_event (t := 3) (p := 40) (v := ?vo_w20) (w1 := (wr.setCell ⟨go18, (x14_1 : Int).toNat, none⟩ (.int .i64 (wrap64 ((wrap64 ((rd l0 x14_1) - x6_1)) - (rd l1 x14_1)))))) ?hg ?ho ?hn ?hr ?_; (case ho => rfl); (case hg => rfl); (case hn => rfl); (case hr => first | (go_simp; done) | (go_simp; rfl)); intro w20 hw; have hg : wr.grownBy w20 (some go18) := (by rw [hw]; exact HP19.2); have hp_ : Kd.R (Kd.int .i64) 3 w20 w.heap.size (fun _ => True) (.slice (some ⟨go18, 0, none⟩) x5_1.length co7) y238 := (by rw [hw, Ny238.out]; exact HP19.1); clear HP19; replace HO_5 := Z0.mk (hp_); replace HB := Z0.mk ((by rw [hw]; exact below_set (HB.out) GB18.out : Below w.heap.size w w20)); clear hg hw hp_))
     (try simp only [← hl5_1])
     go_roundg k1
     case measure => have := HK1.out; omega
     case rel => exact ⟨(y238), (0), (wrap64 (x14_1 + 1)), fs, fs, H', ⟨by have := HK1.out; omega⟩, ⟨by (try simp only [hl5_1]); (with_reducible repeat (first | apply Kd.R_alloc | apply Kd.R_drewN | apply Kd.R_drew)); exact HO_5.out⟩, ⟨bqs⟩⟩
    (try (have c11b0_ := c11b0; rw [hl5_1] at c11b0_))
    clear c11
    rcases jd H with ⟨-, c21b0, H⟩ | ⟨-, c21b0, H⟩
    ·obtain ⟨c22, c22b0, H⟩ := gd H
     (try (have c22b0_ := c22b0; rw [hl5_1] at c22b0_))
     clear c22
     generalize hy239 : (x5_1.set (x14_1 : Int).toNat (wrap64 ((wrap64 ((rd l0 x14_1) - x6_1)) + 1000000000)) : List Int) = y239 at H
     have Ny239 := Z0.mk hy239.symm
     clear hy239
     have H' := Z0.mk H
     clear H
     obtain ⟨ad235, e235, hx235_0, p235, q235⟩ := atB HB HR0.out x14_1
     cases e235
     have p23 : 0 ≤ (x14_1 : Int) := od
     have q23 : (x14_1 : Int) < ((x5_1.length : Int) : Int) := od
     obtain ⟨go23, co23, eo23, gb23, gl23, cl23, HG23⟩ := Kd.R_form HO_5.out (by omega)
     (first | cases eo23 | (injection eo23 with ea_ en_ ec_; (first | subst ea_ | (injection ea_ with ea_; subst ea_)); subst ec_; clear en_))
     have GB23 := Z0.mk gb23
     have GG23 := Z0.mk HG23
     clear gb23 gl23 HG23
     obtain ⟨hx23_0, hf23_0⟩ := Kd.R_celln 0 HO_5.out (x14_1 : Int) p23 q23
     replace p23 := eq_true p23
     replace q23 := eq_true q23
     have HP24 := Kd.R_putg HO_5.out (x14_1 : Int) (wrap64 ((wrap64 ((rd l0 x14_1) - x6_1)) + 1000000000))
     go_wp2_with (first | ((with_reducible refine gate_store (t := 3) (p := 40) rfl ?_); refine store_event (t := 3) (p := 40) (v := ?vo_w25) (w1 := (wr.setCell ⟨go23, (x14_1 : Int).toNat, none⟩ (.int .i64 (wrap64 ((wrap64 ((rd l0 x14_1) - x6_1)) + 1000000000))))) ?hg ?ho ?hn ?hr ?_; (case ho => rfl); (case hg => rfl); (case hn => rfl); (case hr => first | (go_simp; done) | (go_simp; rfl)); intro w25 hw; have hg : wr.grownBy w25 (some go23) := (by rw [hw]; exact HP24.2); have hp_ : Kd.R (Kd.int .i64) 3 w25 w.heap.size (fun _ => True) (.slice (some ⟨go23, 0, none⟩) x5_1.length co7) y239 := (by rw [hw, Ny239.out]; exact HP24.1); clear HP24; replace HO_5 := Z0.mk (hp_); replace HB := Z0.mk ((by rw [hw]; exact below_set (HB.out) GB23.out : Below w.heap.size w w25)); clear hg hw hp_))
     (try simp only [← hl5_1])
     go_roundg k1
     case measure => have := HK1.out; omega
     case rel => exact ⟨(y239), (1), (wrap64 (x14_1 + 1)), fs, fs, H', ⟨by have := HK1.out; omega⟩, ⟨by (try simp only [hl5_1]); (with_reducible repeat (first | apply Kd.R_alloc | apply Kd.R_drewN | apply Kd.R_drew)); exact HO_5.out⟩, ⟨bqs⟩⟩
    obtain ⟨c26, c26b0, H⟩ := gd H
    (try (have c26b0_ := c26b0; rw [hl5_1] at c26b0_))
    clear c26
    generalize hy240 : (x5_1.set (x14_1 : Int).toNat (wrap64 ((rd l0 x14_1) - x6_1)) : List Int) = y240 at H
    have Ny240 := Z0.mk hy240.symm
    clear hy240
    have H' := Z0.mk H
    clear H
    obtain ⟨ad235, e235, hx235_0, p235, q235⟩ := atB HB HR0.out x14_1
    cases e235
    have p27 : 0 ≤ (x14_1 : Int) := od
    have q27 : (x14_1 : Int) < ((x5_1.length : Int) : Int) := od
    obtain ⟨go27, co27, eo27, gb27, gl27, cl27, HG27⟩ := Kd.R_form HO_5.out (by omega)
    (first | cases eo27 | (injection eo27 with ea_ en_ ec_; (first | subst ea_ | (injection ea_ with ea_; subst ea_)); subst ec_; clear en_))
    have GB27 := Z0.mk gb27
    have GG27 := Z0.mk HG27
    clear gb27 gl27 HG27
    obtain ⟨hx27_0, hf27_0⟩ := Kd.R_celln 0 HO_5.out (x14_1 : Int) p27 q27
    replace p27 := eq_true p27
    replace q27 := eq_true q27
    have HP28 := Kd.R_putg HO_5.out (x14_1 : Int) (wrap64 ((rd l0 x14_1) - x6_1))
    go_wp2_with (first | ((with_reducible refine gate_store (t := 3) (p := 40) rfl ?_); refine store_event (t := 3) (p := 40) (v := ?vo_w29) (w1 := (wr.setCell ⟨go27, (x14_1 : Int).toNat, none⟩ (.int .i64 (wrap64 ((rd l0 x14_1) - x6_1))))) ?hg ?ho ?hn ?hr ?_; (case ho => rfl); (case hg => rfl); (case hn => rfl); (case hr => first | (go_simp; done) | (go_simp; rfl)); intro w29 hw; have hg : wr.grownBy w29 (some go27) := (by rw [hw]; exact HP28.2); have hp_ : Kd.R (Kd.int .i64) 3 w29 w.heap.size (fun _ => True) (.slice (some ⟨go27, 0, none⟩) x5_1.length co7) y240 := (by rw [hw, Ny240.out]; exact HP28.1); clear HP28; replace HO_5 := Z0.mk (hp_); replace HB := Z0.mk ((by rw [hw]; exact below_set (HB.out) GB27.out : Below w.heap.size w w29)); clear hg hw hp_))
    (try simp only [← hl5_1])
    go_roundg k1
    case measure => have := HK1.out; omega
    case rel => exact ⟨(y240), (0), (wrap64 (x14_1 + 1)), fs, fs, H', ⟨by have := HK1.out; omega⟩, ⟨by (try simp only [hl5_1]); (with_reducible repeat (first | apply Kd.R_alloc | apply Kd.R_drewN | apply Kd.R_drew)); exact HO_5.out⟩, ⟨bqs⟩⟩
   (try (have c8b0_ := c8b0; rw [hl5_1] at c8b0_))
   clear c8
   obtain ⟨t232, A30, H⟩ := bnd H
   obtain rfl := Option.some.inj H
   go_wp2_with (first | ((with_reducible refine gc_ 147 rfl ?_); refine gL 43 Tryz.func147 (bItrim.calls k1 (fun k_ => some k_ = (.slice Ao7 x5_1.length co7 : Value).ownBlock) (.slice Ao7 x5_1.length co7) x5_1 t232 w _ ?side1 ?side2 A30.out) ?_; (case side1 => repeat (first | (with_reducible first | exact HB.out | apply below_alloc | apply pw_below_drewN | apply below_drew1) | exact HB.out)); (case side2 => exact Kd.R_tight rfl HO_5.out); rintro _ w31 ⟨v233, rfl, ho0, hb, hkp⟩; refine ⟨_, rfl, ?_⟩; have HO234 := Z0.mk (Kd.R_mono (ok' := fun k_ => True) ho0 (fun k_ hk_ => trivial)); replace HB := Z0.mk (hb); clear HO_5; clear hb hkp ho0))
   go_ret
   exact ⟨_, fe, rq HO234, bqs⟩
end Go.Proofs.YthnfajboebaajaaGreatDoor.PA
