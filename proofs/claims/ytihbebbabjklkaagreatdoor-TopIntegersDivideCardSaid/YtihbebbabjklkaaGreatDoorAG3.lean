import Derived.Test.YtihbebbabjklkaaGreatDoorAD
import Derived.Test.YtihbebbabjklkaaGreatDoorAG2
import Derived.Test.YtihbebbabjklkaaGreatDoorAG1
import Derived.Lib.OthersKept
import Derived.Test.YtihbebbabjklkaaGreatDoorAW
set_option maxHeartbeats 8000000
set_option maxRecDepth 100000
set_option linter.unusedVariables false
namespace Go.Proofs.YtihbebbabjklkaaGreatDoor
set_option linter.unusedVariables false
set_option linter.unusedSimpArgs false
open Go.RowKit Go.Shelf Go.Proofs.WWords
attribute [local go_sem] Oper.semAt_some
theorem tacc_snoc (neg : Bool) {zs : List Int} (pre : List (BkT zs)) (x : BkT zs) : tacc neg (pre ++ [x]) = tacc neg pre ++ tstep zs.length x.1.1 x.1.2 := by simp [tacc]
theorem repeatL_length (k : Nat) : (Lib.repeatL [48] k).length = k := by
 induction k with
 | zero => rfl
 | succ k ih => simp [Lib.repeatL, ih]
theorem txt_small {v : Int} (h0 : 0 ≤ v) (h1 : v < 1000000000) : (Sv.txt v).size ≤ 9 := by
 rw [Sv.txt_size, if_neg (by omega)]
 have := Sv.nd_le (n := v) (k := 9) (by decide) (by omega)
 omega
theorem txtL_size (v : Int) : (Sv.txtL v).length = (Sv.txt v).size := by simp [Sv.txt, ByteArray.size]
theorem tstep_length {n : Nat} {i v : Int} (h0 : 0 ≤ v) (h1 : v < 1000000000) : (tstep n i v).length ≤ 9 := by
 have := txt_small h0 h1
 have h2 := txtL_size v
 unfold tstep
 split
 ·rw [List.length_append, repeatL_length]; omega
 omega
theorem tacc_length (neg : Bool) {zs : List Int} (hz : Sv.Digs Sv.LB zs) (pre : List (BkT zs)) : (tacc neg pre).length ≤ 1 + 9 * pre.length := by
 have h : (pre.flatMap fun x => tstep zs.length x.1.1 x.1.2).length ≤ 9 * pre.length := by
  induction pre with
  | nil => simp
  | cons x t ih =>
   have hv := rd_range (by decide) hz x.1.1
   rw [← x.2.2.2] at hv
   have := tstep_length (n := zs.length) (i := x.1.1) hv.1 hv.2
   simp only [List.flatMap_cons, List.length_append, List.length_cons]
   omega
 unfold tacc
 rw [List.length_append]
 have h2 : (if neg then [45] else ([] : List UInt8)).length ≤ 1 := by cases neg <;> decide
 omega
theorem isBuilderF_own {β : Type} (B b : Nat) (bs : β → List Value) : Own (fun (s : β) W => Lib.IsBuilderF 160 5 B b (bs s) W) := fun s A W row h hg hr => by
  have k : ∀ p, Lib.BuilderAtF 160 5 B b p (bs s) A → Lib.BuilderAtF 160 5 B b p (bs s) W := by
    rintro p ⟨h1, v, h2, h3, h4⟩
    refine ⟨h1, v, (hg.block b (Array.getElem?_eq_some_iff.1 h2).1 (fun e => ?_)).trans h2, h3.kept hg ?_, h4⟩
    · obtain ⟨o, ho, hc⟩ := hr b e.symm
      rw [h2] at ho
      cases ho
      cases hc
    · cases hv : v.ownBlock with
      | none => exact .inl rfl
      | some g =>
        refine .inr (fun e => ?_)
        obtain ⟨c, fz, hcc⟩ := Lib.ownsRowF_kind h3 g hv
        obtain ⟨o, ho, hc⟩ := hr g e.symm
        rw [hcc] at ho
        cases ho
        cases hc
  exact h.elim (fun x => .inl (k _ x)) (fun x => .inr (k _ x))
theorem isBuilderF_below {B b : Nat} {bs : List Value} {W W' : World} (h : Lib.IsBuilderF 160 5 B b bs W) (hb : Below W.heap.size W W') : Lib.IsBuilderF 160 5 B b bs W' :=
  isBuilderF_own (β := Unit) B b (fun _ => bs) () W W' none h ⟨hb.os, hb.tape, hb.output, hb.size, fun j hj _ => hb.block j hj⟩ (fun r e => by cases e)
theorem blk_own {β : Type} (b : Nat) (cs : β → Array Value) (t : TypeId) : Own (fun (s : β) W => W.heap[b]? = some (.cells (cs s) t (0, 0))) := fun s A W row h hg hr => by
  refine (hg.block b (Array.getElem?_eq_some_iff.1 h).1 (fun e => ?_)).trans h
  obtain ⟨o, ho, hc⟩ := hr b e.symm
  rw [h] at ho
  cases ho
  cases hc
theorem own_and {β : Type} {I J : β → World → Prop} (h : Own I) (g : Own J) : Own (fun s W => I s W ∧ J s W) := fun s A W row x hg hr => ⟨h s A W row x.1 hg hr, g s A W row x.2 hg hr⟩
def TxI (s : Nat) (neg : Bool) (A0 : Option Addr) (c0 : Nat) {zs : List Int} (pre : List (BkT zs)) (W : World) : Prop :=
  Lib.IsBuilderF 160 5 s (s + 1) (Lib.byteCells (tacc neg pre)) W ∧ W.heap[s]? = some (.cells #[.bool neg, .slice A0 zs.length c0] 122 (0, 0))
theorem TxI.own (s : Nat) (neg : Bool) (A0 : Option Addr) (c0 : Nat) {zs : List Int} : Own (TxI s neg A0 c0 (zs := zs)) := fun pre A W row h hg hr =>
  ⟨isBuilderF_own s (s + 1) (fun (pre : List (BkT zs)) => Lib.byteCells (tacc neg pre)) pre A W row h.1 hg hr, blk_own s (fun (_ : List (BkT zs)) => #[.bool neg, .slice A0 zs.length c0]) 122 pre A W row h.2 hg hr⟩
theorem new_builder (w : World) (cs : Array Value) : Lib.IsBuilderF 160 5 w.heap.size (w.heap.size + 1) [] ((w.alloc (.cells cs 122)).alloc (.cells #[.pointer none, .slice none 0 0] 160)) := by
 refine .inl ⟨by omega, .slice none 0 0, ?_, World.ownsRowF_nil _ _ _ _, by simp [Value.ownBlock]⟩
 have := World.alloc_heap_new (w.alloc (.cells cs 122)) (.cells #[.pointer none, .slice none 0 0] 160)
 simpa using this
theorem others_of {b : Option Nat} {w w' : World} (h : Lib.OthersKept 5 b w w') (hs : w.heap.size ≤ w'.heap.size) (hb : ∀ k, b = some k → ∃ o, w.heap[k]? = some o ∧ o.isCells = true) : KeepsOthers w w' :=
  ⟨hs, fun k o ho hc => h k o ho (fun e => by obtain ⟨o', ho', hc'⟩ := hb k e.symm; rw [ho] at ho'; cases ho'; rw [hc] at hc'; cases hc') (fun c fz e => by rw [e] at hc; cases hc)⟩
theorem text_in (n : Nat) (hn : 3 ≤ n) (neg : Bool) (A0 : Option Addr) (c0 : Nat) (l0 : List Int) (w : World) (hL : LaidW w) (hr0 : Kd.C (Kd.int .i64) w A0 l0.length l0) (hz : Sv.Digs Sv.LB l0) (hlen : l0.length ≤ 1099511627776) (hne : 0 < l0.length) :
    CallsIn Fence.wide n Tryz.prog 98 #[.agg #[.bool neg, .slice A0 l0.length c0]] w fun e w' => e = .returned (.string ⟨(tacc neg (bk l0 l0.length)).toArray⟩) ∧ Below w.heap.size w w' := by
 have hf127 : Fence.wide.fn 133 := trivial
 have hf128 : Fence.wide.fn 134 := trivial
 have hf132 : Fence.wide.fn 138 := trivial
 have h1' : 1 ≤ n := by omega
 have hu88 := Tryz.underlying122
 have hz0 : ((l0.length : Int) == 0) = false := by rw [beq_eq_false_iff_ne]; omega
 have hz1 : ¬ (l0.length : Int) = 0 := by omega
 have hz2 : ¬ l0.length = 0 := by omega
 have hnb := new_builder w #[.bool neg, .slice A0 l0.length c0]
 have hx0 : ((w.alloc (.cells #[.bool neg, .slice A0 l0.length c0] 122)).alloc (.cells #[.pointer none, .slice none 0 0] 160)).heap[w.heap.size]? = some (.cells #[.bool neg, .slice A0 l0.length c0] 122 (0, 0)) := (Below.heap_alloc _ _ _ (by simp)).trans (World.alloc_heap_new w _)
 have hB0 : Below w.heap.size w ((w.alloc (.cells #[.bool neg, .slice A0 l0.length c0] 122)).alloc (.cells #[.pointer none, .slice none 0 0] 160)) := ((Below.refl _ w).alloc (Nat.le_refl _) _).alloc (by simp) _
 cases neg
 all_goals refine callsIn_of_wp_marks Tryz.func98 rfl trivial ?_ rfl
 all_goals simp only [Tryz.ntmps98, List.size_toArray, List.length_cons, List.length_nil, Nat.reduceAdd, Nat.reduceSub, Array.replicate_succ, Array.replicate_zero, List.push_toArray, List.append_toArray, List.nil_append, List.cons_append]
 all_goals gi_wp2_with (first
   | (gi_at_call 133; refine (callsIn_wide.2 (Tryz.Builder_WriteByte_k w.heap.size (w.heap.size + 1) [] 45 _ hnb (by simp) (by simp; omega))).mono ?_; rintro e w1 ⟨rfl, hb1, hB1, hok1⟩; have hx1 := hok1 _ _ hx0 (by simp) (by intro c fz e; cases e); have hxc1 := (blk_cell hx1 1).trans (show _ = some (Value.slice A0 l0.length c0) from rfl))
   | (gi_at_call 134; refine (back_in Fence.wide (n - 1) hf128 rfl _ _ _ _).mono ?_; rintro e w' ⟨rfl, rfl⟩)
   | gi_in)
 obtain ⟨W1, hW1⟩ : ∃ W1, (w.alloc (.cells #[.bool false, .slice A0 l0.length c0] 122)).alloc (.cells #[.pointer none, .slice none 0 0] 160) = W1 := ⟨_, rfl⟩
 rw [hW1] at hnb hx0 hB0
 have hsz1 : w.heap.size + 1 + 1 = W1.heap.size := by rw [← hW1]; simp
 have hbu : Lib.IsBuilderF 160 5 w.heap.size (w.heap.size + 1) (Lib.byteCells (tacc false ([] : List (BkT l0)))) W1 := hnb
 rw [hW1, hsz1]
 clear hW1
 rotate_left 1
 obtain ⟨W1, hW1⟩ : ∃ W1, w1 = W1 := ⟨_, rfl⟩
 have hbu : Lib.IsBuilderF 160 5 w.heap.size (w.heap.size + 1) (Lib.byteCells (tacc true ([] : List (BkT l0)))) W1 := by rw [← hW1]; exact .inr hb1
 have hB2 : Below w.heap.size w W1 := by rw [← hW1]; exact hB0.trans hB1
 rw [hW1] at hx1
 rw [hW1]
 clear hB0 hx0
 have hB0 := hB2
 have hx0 := hx1
 clear hB2 hx1 hW1
 rotate_left 1
 -- MAIN
 ·obtain ⟨s, hs⟩ : ∃ s, w.heap.size = s := ⟨_, rfl⟩
  rw [hs] at hbu hB0 hx0
  simp only [hs]
  obtain ⟨W0, hW0⟩ : ∃ W0, W1.alloc (.cells #[.slice A0 l0.length c0] 35) = W0 := ⟨_, rfl⟩
  have hbx : Boxed W0 W1.heap.size 35 (.slice A0 l0.length c0) := by rw [← hW0]; exact Boxed.new _ _ _
  have hBW : Below s w W0 := by rw [← hW0]; exact hB0.alloc (by have := hB0.size; omega) _
  have hI0 := isBuilderF_below hbu (show Below W1.heap.size W1 W0 by rw [← hW0]; exact (Below.refl _ _).alloc (Nat.le_refl _) _)
  have hxx := (show Below W1.heap.size W1 W0 by rw [← hW0]; exact (Below.refl _ _).alloc (Nat.le_refl _) _).block s (Array.getElem?_eq_some_iff.1 hx0).1 |>.trans hx0
  have hs1 : s + 2 ≤ W1.heap.size := by
   have hc : (Lib.IsBuilderF 160 5 s (s + 1) _ W1) := hbu
   rcases hc with h | h
   ·have := h.lt; omega
   have := h.lt; omega
  have hs0 : W1.heap.size < W0.heap.size := by rw [← hW0]; simp
  rw [hW0]
  clear hW0
  have hm0 := Kd.C_max hr0
  refine wpIn_rangeFunc_ownF rfl h1' (gf := 182) (lb := #[.pointer (some ⟨W1.heap.size, 0, none⟩)]) rfl trivial (enters_of Tryz.func182 (by kernel_rfl) rfl)
   (back_stops Fence.wide (n - 1) trivial rfl (by omega) W1.heap.size s A0 c0 l0 hm0 W0 hbx (by have := hBW.size; omega) (fun W' hb => Kd.C_below hr0 (by rw [hs]; exact hBW.trans hb))) kb_t (kb_b (by have := hBW.size; omega) hs0) (Below.refl _ _) (fun _ => rfl)
   (fun pre W => (TxI s false A0 c0 pre W ∧ W.heap[W1.heap.size]? = some (.cells #[.slice A0 l0.length c0] 35 (0, 0))) ∧ Below s w W) (fun c pre W => False)
   (OwnFrom.and (Own.from (own_and (TxI.own s false A0 c0) (blk_own W1.heap.size (fun _ => #[.slice A0 l0.length c0]) 35)) _) (ownFrom_below (by omega) (by have := hBW.size; omega)))
   (fun c s A B row hs hg hr => hs) ⟨⟨⟨hI0, hxx⟩, hbx⟩, hBW⟩
   ?act1 ?assign ?body ?done ?stop
  case assign =>
   intro l x W K hK
   simp only [enc2]
   gi_wp2
   exact hK
  case body =>
   rintro l pre x W ⟨⟨⟨hbu, hx⟩, hbW⟩, hB⟩ hpl
   have hv := rd_range (by decide) hz x.1.1
   rw [← x.2.2.2] at hv
   have hsn := tacc_snoc false pre x
   have htl := tacc_length false hz pre
   try simp only [enc2]
   obtain ⟨i, hxi⟩ : ∃ i, x.1.1 = i := ⟨_, rfl⟩
   obtain ⟨v, hxv⟩ : ∃ v, x.1.2 = v := ⟨_, rfl⟩
   simp only [hxi, hxv] at hv hsn ⊢
   clear hxi hxv
   have hv1 : v < 1000000000 := hv.2
   have hv0 := hv.1
   have hts := txt_small hv0 hv1
   have hxc := (blk_cell hx 1).trans (show _ = some (Value.slice A0 l0.length c0) from rfl)
   have hd2 : 1 ≤ n - 1 - 1 := by omega
   have hf129 : Fence.wide.fn 135 := trivial
   have hf130 : Fence.wide.fn 136 := trivial
   have hf131 : Fence.wide.fn 137 := trivial
   have hLW : LaidW W := hL.below (by rw [hs]; exact hB)
   have hbl : (Lib.byteCells (tacc false pre)).length ≤ 1 + 9 * pre.length := by simp only [Lib.byteCells, List.length_map]; exact htl
   have hcz : (9 : Int) - ((Sv.txt v).size : Int) = ((9 - (Sv.txt v).size : Nat) : Int) := by omega
   have hrs : (⟨(Lib.repeatL [48] (9 - (Sv.txt v).size)).toArray⟩ : ByteArray).size = 9 - (Sv.txt v).size := by
    show (Lib.repeatL [48] (9 - (Sv.txt v).size)).toArray.size = _
    rw [List.size_toArray, repeatL_length]
   have hit : Lib.strCells (Sv.txt v) = Lib.byteCells (Sv.txtL v) := rfl
   have hir : Lib.strCells (⟨(Lib.repeatL [48] (9 - (Sv.txt v).size)).toArray⟩ : ByteArray) = Lib.byteCells (Lib.repeatL [48] (9 - (Sv.txt v).size)) := rfl
   have hBs := hB.size
   have hws : w.heap.size ≤ W.heap.size := hBs
   have hBW2 : s ≤ W.heap.size := by omega
   by_cases hi : i < (l0.length : Int) - 1
   ·have hsn2 : tacc false (pre ++ [x]) = tacc false pre ++ (Lib.repeatL [48] (9 - (Sv.txt v).size) ++ Sv.txtL v) := by rw [hsn, tstep, if_pos hi]
    have HS := Lib.hid hsn2
    clear hsn hsn2 hv
    have hi2 : decide (i < (l0.length : Int) - 1) = true := decide_eq_true hi
    gi_wp2_with (first
      | (gi_at_call 135; refine (CallsIn.inRound l (callsIn_wide.2 (strconv_Itoa.calls v (Sv.txt v) W hLW (if_pos ⟨by omega, by omega⟩)))).mono ?_; rintro e wa ⟨rfl, hba⟩
         have hbua := isBuilderF_below hbu hba
         have hxa := (hba.block s (Array.getElem?_eq_some_iff.1 hx).1).trans hx
         have hxca := (blk_cell hxa 1).trans (show _ = some (Value.slice A0 l0.length c0) from rfl))
      | (gi_at_call 137; refine (CallsIn.inRound l (callsIn_wide.2 (Tryz.strings_Repeat (⟨#[48]⟩ : ByteArray) (9 - (Sv.txt v).size) wa (by omega) (by show 1 * _ ≤ _; omega)))).mono ?_; rintro e wb ⟨rfl, hbb⟩
         have hbub := isBuilderF_below hbua hbb
         have hxb := (hbb.block s (Array.getElem?_eq_some_iff.1 hxa).1).trans hxa
         have hszb : s ≤ wb.heap.size := by have h1 := hba.size; have h2 := hbb.size; omega)
      | (gi_at_call 136; refine (CallsIn.inRound l (callsIn_wide.2 (Tryz.Builder_WriteString_k s (s + 1) _ (Sv.txt v) wc (.inr hbuc) (by simp only [List.length_append, hir]; simp only [Lib.byteCells, List.length_map, repeatL_length] at hbl ⊢; omega) hszc))).mono ?_; rintro e wd ⟨rfl, hbud, hBd, hokd⟩
         have hxd := hokd _ _ hxc2 (by simp) (by intro c fz e; cases e))
      | (gi_at_call 136; refine (CallsIn.inRound l (callsIn_wide.2 (Tryz.Builder_WriteString_k s (s + 1) _ (⟨(Lib.repeatL [48] (9 - (Sv.txt v).size)).toArray⟩ : ByteArray) wb hbub (by rw [hrs]; omega) hszb))).mono ?_; rintro e wc ⟨rfl, hbuc, hBc, hokc⟩
         have hxc2 := hokc _ _ hxb (by simp) (by intro c fz e; cases e)
         have hszc : s ≤ wc.heap.size := by have h1 := hBc.size; omega)
      | gi_in)
    have hbS : ∀ (a b : World), Below a.heap.size a b → KeepsOthers a b := fun a b h => ⟨h.size, fun k o ho hc => (h.block k (Array.getElem?_eq_some_iff.1 ho).1).trans ho⟩
    have hbc1 : ∀ (W : World) (bs : List Value), Lib.IsBuilderF 160 5 s (s + 1) bs W → ∀ k, some (s + 1) = some k → ∃ o, W.heap[k]? = some o ∧ o.isCells = true := fun W bs h k e => by
     cases e
     rcases h with ⟨_, v, h2, _⟩ | ⟨_, v, h2, _⟩ <;> exact ⟨_, h2, rfl⟩
    have hbWl := (Array.getElem?_eq_some_iff.1 hbW).1
    have hkw : wd.heap[W1.heap.size]? = W.heap[W1.heap.size]? :=
     (hokd _ _ (hokc _ _ ((hbb.block _ (Nat.lt_of_lt_of_le hbWl hba.size)).trans ((hba.block _ hbWl).trans hbW)) (by simp; omega) (by intro c fz e; cases e)) (by simp; omega) (by intro c fz e; cases e)).trans hbW.symm
    have hBe : Below s W wd := ((hba.mono hBW2).trans (hbb.mono (by have := hba.size; omega))).trans (hBc.trans hBd)
    refine ⟨((hbS _ _ hba).trans (hbS _ _ hbb)).trans ((others_of hokc hBc.size (hbc1 _ _ hbub)).trans (others_of hokd hBd.size (hbc1 _ _ (.inr hbuc)))), ⟨hBe, fun _ => hkw⟩, ⟨⟨?_, hxd⟩, hkw.trans hbW⟩, hB.trans hBe⟩
    rw [HS.out]
    have := hbud
    rw [hit, hir, List.append_assoc] at this
    exact .inr (by simpa [Lib.byteCells] using this)
   have hsn2 : tacc false (pre ++ [x]) = tacc false pre ++ Sv.txtL v := by rw [hsn, tstep, if_neg hi]
   have HS := Lib.hid hsn2
   clear hsn hsn2 hv
   have hi2 : decide (i < (l0.length : Int) - 1) = false := decide_eq_false hi
   gi_wp2_with (first
     | (gi_at_call 135; refine (CallsIn.inRound l (callsIn_wide.2 (strconv_Itoa.calls v (Sv.txt v) W hLW (if_pos ⟨by omega, by omega⟩)))).mono ?_; rintro e wa ⟨rfl, hba⟩
        have hbua := isBuilderF_below hbu hba
        have hxa := (hba.block s (Array.getElem?_eq_some_iff.1 hx).1).trans hx
        have hxca := (blk_cell hxa 1).trans (show _ = some (Value.slice A0 l0.length c0) from rfl)
        have hsza : s ≤ wa.heap.size := by have h1 := hba.size; omega)
     | (gi_at_call 136; refine (CallsIn.inRound l (callsIn_wide.2 (Tryz.Builder_WriteString_k s (s + 1) _ (Sv.txt v) wa hbua (by omega) hsza))).mono ?_; rintro e wd ⟨rfl, hbud, hBd, hokd⟩
        have hxd := hokd _ _ hxa (by simp) (by intro c fz e; cases e))
     | gi_in)
   have hbS : ∀ (a b : World), Below a.heap.size a b → KeepsOthers a b := fun a b h => ⟨h.size, fun k o ho hc => (h.block k (Array.getElem?_eq_some_iff.1 ho).1).trans ho⟩
   have hbc1 : ∀ (W : World) (bs : List Value), Lib.IsBuilderF 160 5 s (s + 1) bs W → ∀ k, some (s + 1) = some k → ∃ o, W.heap[k]? = some o ∧ o.isCells = true := fun W bs h k e => by
    cases e
    rcases h with ⟨_, v, h2, _⟩ | ⟨_, v, h2, _⟩ <;> exact ⟨_, h2, rfl⟩
   have hbWl := (Array.getElem?_eq_some_iff.1 hbW).1
   have hkw : wd.heap[W1.heap.size]? = W.heap[W1.heap.size]? :=
    (hokd _ _ ((hba.block _ hbWl).trans hbW) (by simp; omega) (by intro c fz e; cases e)).trans hbW.symm
   have hBe : Below s W wd := (hba.mono hBW2).trans hBd
   refine ⟨(hbS _ _ hba).trans (others_of hokd hBd.size (hbc1 _ _ hbua)), ⟨hBe, fun _ => hkw⟩, ⟨⟨?_, hxd⟩, hkw.trans hbW⟩, hB.trans hBe⟩
   rw [HS.out]
   have := hbud
   rw [hit] at this
   exact .inr (by simpa [Lib.byteCells] using this)
  case done =>
   rintro D ys W hD rfl ⟨⟨⟨hbu, hx⟩, hbW⟩, hB⟩ hK
   have hf132 : Fence.wide.fn 138 := trivial
   have hBW2 : s ≤ W.heap.size := by have := hB.size; omega
   gi_wp2_with (first
     | (gi_at_call 138; refine (callsIn_wide.2 (Tryz.Builder_String_any_k s (s + 1) (tacc false (bk l0 l0.length)) W hbu hBW2)).mono ?_; rintro e wz ⟨rfl, hbz, hBz, hokz⟩)
     | gi_in)
   have hDs : D ≠ s + 1 := by
    intro e
    subst e
    rcases hbu with ⟨_, v, h2, _⟩ | ⟨_, v, h2, _⟩ <;> (rw [h2] at hK; cases hK)
   have hKz := hokz _ _ hK (by simp; omega) (by intro c fz e; cases e)
   have hDw : w.heap.size ≤ D := by omega
   refine ⟨by simp, .inl ⟨_, _, rfl, run_takeDeferred hKz, ?_⟩⟩
   exact ⟨.string ⟨(tacc false (bk l0 l0.length)).toArray⟩, by simp [results, Tryz.f98, go_sem], rfl, (show Below w.heap.size w wz by rw [hs]; exact hB.trans hBz).trans (belowK_b (w := w) (Nat.le_refl _) wz D _ _ (by omega) hKz rfl rfl)⟩
  case stop =>
   rintro D c pre W hD hp hf hK
   exact hf.elim
 obtain ⟨s, hs⟩ : ∃ s, w.heap.size = s := ⟨_, rfl⟩
 rw [hs] at hbu hB0 hx0
 simp only [hs]
 obtain ⟨W0, hW0⟩ : ∃ W0, W1.alloc (.cells #[.slice A0 l0.length c0] 35) = W0 := ⟨_, rfl⟩
 have hbx : Boxed W0 W1.heap.size 35 (.slice A0 l0.length c0) := by rw [← hW0]; exact Boxed.new _ _ _
 have hBW : Below s w W0 := by rw [← hW0]; exact hB0.alloc (by have := hB0.size; omega) _
 have hI0 := isBuilderF_below hbu (show Below W1.heap.size W1 W0 by rw [← hW0]; exact (Below.refl _ _).alloc (Nat.le_refl _) _)
 have hxx := (show Below W1.heap.size W1 W0 by rw [← hW0]; exact (Below.refl _ _).alloc (Nat.le_refl _) _).block s (Array.getElem?_eq_some_iff.1 hx0).1 |>.trans hx0
 have hs1 : s + 2 ≤ W1.heap.size := by
  have hc : (Lib.IsBuilderF 160 5 s (s + 1) _ W1) := hbu
  rcases hc with h | h
  ·have := h.lt; omega
  have := h.lt; omega
 have hs0 : W1.heap.size < W0.heap.size := by rw [← hW0]; simp
 rw [hW0]
 clear hW0
 have hm0 := Kd.C_max hr0
 refine wpIn_rangeFunc_ownF rfl h1' (gf := 182) (lb := #[.pointer (some ⟨W1.heap.size, 0, none⟩)]) rfl trivial (enters_of Tryz.func182 (by kernel_rfl) rfl)
  (back_stops Fence.wide (n - 1) trivial rfl (by omega) W1.heap.size s A0 c0 l0 hm0 W0 hbx (by have := hBW.size; omega) (fun W' hb => Kd.C_below hr0 (by rw [hs]; exact hBW.trans hb))) kb_t (kb_b (by have := hBW.size; omega) hs0) (Below.refl _ _) (fun _ => rfl)
  (fun pre W => (TxI s true A0 c0 pre W ∧ W.heap[W1.heap.size]? = some (.cells #[.slice A0 l0.length c0] 35 (0, 0))) ∧ Below s w W) (fun c pre W => False)
  (OwnFrom.and (Own.from (own_and (TxI.own s true A0 c0) (blk_own W1.heap.size (fun _ => #[.slice A0 l0.length c0]) 35)) _) (ownFrom_below (by omega) (by have := hBW.size; omega)))
  (fun c s A B row hs hg hr => hs) ⟨⟨⟨hI0, hxx⟩, hbx⟩, hBW⟩
  ?act1T ?assignT ?bodyT ?doneT ?stopT
 case assignT =>
  intro l x W K hK
  simp only [enc2]
  gi_wp2
  exact hK
 case bodyT =>
  rintro l pre x W ⟨⟨⟨hbu, hx⟩, hbW⟩, hB⟩ hpl
  have hv := rd_range (by decide) hz x.1.1
  rw [← x.2.2.2] at hv
  have hsn := tacc_snoc true pre x
  have htl := tacc_length true hz pre
  try simp only [enc2]
  obtain ⟨i, hxi⟩ : ∃ i, x.1.1 = i := ⟨_, rfl⟩
  obtain ⟨v, hxv⟩ : ∃ v, x.1.2 = v := ⟨_, rfl⟩
  simp only [hxi, hxv] at hv hsn ⊢
  clear hxi hxv
  have hv1 : v < 1000000000 := hv.2
  have hv0 := hv.1
  have hts := txt_small hv0 hv1
  have hxc := (blk_cell hx 1).trans (show _ = some (Value.slice A0 l0.length c0) from rfl)
  have hd2 : 1 ≤ n - 1 - 1 := by omega
  have hf129 : Fence.wide.fn 135 := trivial
  have hf130 : Fence.wide.fn 136 := trivial
  have hf131 : Fence.wide.fn 137 := trivial
  have hLW : LaidW W := hL.below (by rw [hs]; exact hB)
  have hbl : (Lib.byteCells (tacc true pre)).length ≤ 1 + 9 * pre.length := by simp only [Lib.byteCells, List.length_map]; exact htl
  have hcz : (9 : Int) - ((Sv.txt v).size : Int) = ((9 - (Sv.txt v).size : Nat) : Int) := by omega
  have hrs : (⟨(Lib.repeatL [48] (9 - (Sv.txt v).size)).toArray⟩ : ByteArray).size = 9 - (Sv.txt v).size := by
   show (Lib.repeatL [48] (9 - (Sv.txt v).size)).toArray.size = _
   rw [List.size_toArray, repeatL_length]
  have hit : Lib.strCells (Sv.txt v) = Lib.byteCells (Sv.txtL v) := rfl
  have hir : Lib.strCells (⟨(Lib.repeatL [48] (9 - (Sv.txt v).size)).toArray⟩ : ByteArray) = Lib.byteCells (Lib.repeatL [48] (9 - (Sv.txt v).size)) := rfl
  have hBs := hB.size
  have hws : w.heap.size ≤ W.heap.size := hBs
  have hBW2 : s ≤ W.heap.size := by omega
  by_cases hi : i < (l0.length : Int) - 1
  ·have hsn2 : tacc true (pre ++ [x]) = tacc true pre ++ (Lib.repeatL [48] (9 - (Sv.txt v).size) ++ Sv.txtL v) := by rw [hsn, tstep, if_pos hi]
   have HS := Lib.hid hsn2
   clear hsn hsn2 hv
   have hi2 : decide (i < (l0.length : Int) - 1) = true := decide_eq_true hi
   gi_wp2_with (first
     | (gi_at_call 135; refine (CallsIn.inRound l (callsIn_wide.2 (strconv_Itoa.calls v (Sv.txt v) W hLW (if_pos ⟨by omega, by omega⟩)))).mono ?_; rintro e wa ⟨rfl, hba⟩
        have hbua := isBuilderF_below hbu hba
        have hxa := (hba.block s (Array.getElem?_eq_some_iff.1 hx).1).trans hx
        have hxca := (blk_cell hxa 1).trans (show _ = some (Value.slice A0 l0.length c0) from rfl))
     | (gi_at_call 137; refine (CallsIn.inRound l (callsIn_wide.2 (Tryz.strings_Repeat (⟨#[48]⟩ : ByteArray) (9 - (Sv.txt v).size) wa (by omega) (by show 1 * _ ≤ _; omega)))).mono ?_; rintro e wb ⟨rfl, hbb⟩
        have hbub := isBuilderF_below hbua hbb
        have hxb := (hbb.block s (Array.getElem?_eq_some_iff.1 hxa).1).trans hxa
        have hszb : s ≤ wb.heap.size := by have h1 := hba.size; have h2 := hbb.size; omega)
     | (gi_at_call 136; refine (CallsIn.inRound l (callsIn_wide.2 (Tryz.Builder_WriteString_k s (s + 1) _ (Sv.txt v) wc (.inr hbuc) (by simp only [List.length_append, hir]; simp only [Lib.byteCells, List.length_map, repeatL_length] at hbl ⊢; omega) hszc))).mono ?_; rintro e wd ⟨rfl, hbud, hBd, hokd⟩
        have hxd := hokd _ _ hxc2 (by simp) (by intro c fz e; cases e))
     | (gi_at_call 136; refine (CallsIn.inRound l (callsIn_wide.2 (Tryz.Builder_WriteString_k s (s + 1) _ (⟨(Lib.repeatL [48] (9 - (Sv.txt v).size)).toArray⟩ : ByteArray) wb hbub (by rw [hrs]; omega) hszb))).mono ?_; rintro e wc ⟨rfl, hbuc, hBc, hokc⟩
        have hxc2 := hokc _ _ hxb (by simp) (by intro c fz e; cases e)
        have hszc : s ≤ wc.heap.size := by have h1 := hBc.size; omega)
     | gi_in)
   have hbS : ∀ (a b : World), Below a.heap.size a b → KeepsOthers a b := fun a b h => ⟨h.size, fun k o ho hc => (h.block k (Array.getElem?_eq_some_iff.1 ho).1).trans ho⟩
   have hbc1 : ∀ (W : World) (bs : List Value), Lib.IsBuilderF 160 5 s (s + 1) bs W → ∀ k, some (s + 1) = some k → ∃ o, W.heap[k]? = some o ∧ o.isCells = true := fun W bs h k e => by
    cases e
    rcases h with ⟨_, v, h2, _⟩ | ⟨_, v, h2, _⟩ <;> exact ⟨_, h2, rfl⟩
   have hbWl := (Array.getElem?_eq_some_iff.1 hbW).1
   have hkw : wd.heap[W1.heap.size]? = W.heap[W1.heap.size]? :=
    (hokd _ _ (hokc _ _ ((hbb.block _ (Nat.lt_of_lt_of_le hbWl hba.size)).trans ((hba.block _ hbWl).trans hbW)) (by simp; omega) (by intro c fz e; cases e)) (by simp; omega) (by intro c fz e; cases e)).trans hbW.symm
   have hBe : Below s W wd := ((hba.mono hBW2).trans (hbb.mono (by have := hba.size; omega))).trans (hBc.trans hBd)
   refine ⟨((hbS _ _ hba).trans (hbS _ _ hbb)).trans ((others_of hokc hBc.size (hbc1 _ _ hbub)).trans (others_of hokd hBd.size (hbc1 _ _ (.inr hbuc)))), ⟨hBe, fun _ => hkw⟩, ⟨⟨?_, hxd⟩, hkw.trans hbW⟩, hB.trans hBe⟩
   rw [HS.out]
   have := hbud
   rw [hit, hir, List.append_assoc] at this
   exact .inr (by simpa [Lib.byteCells] using this)
  have hsn2 : tacc true (pre ++ [x]) = tacc true pre ++ Sv.txtL v := by rw [hsn, tstep, if_neg hi]
  have HS := Lib.hid hsn2
  clear hsn hsn2 hv
  have hi2 : decide (i < (l0.length : Int) - 1) = false := decide_eq_false hi
  gi_wp2_with (first
    | (gi_at_call 135; refine (CallsIn.inRound l (callsIn_wide.2 (strconv_Itoa.calls v (Sv.txt v) W hLW (if_pos ⟨by omega, by omega⟩)))).mono ?_; rintro e wa ⟨rfl, hba⟩
       have hbua := isBuilderF_below hbu hba
       have hxa := (hba.block s (Array.getElem?_eq_some_iff.1 hx).1).trans hx
       have hxca := (blk_cell hxa 1).trans (show _ = some (Value.slice A0 l0.length c0) from rfl)
       have hsza : s ≤ wa.heap.size := by have h1 := hba.size; omega)
    | (gi_at_call 136; refine (CallsIn.inRound l (callsIn_wide.2 (Tryz.Builder_WriteString_k s (s + 1) _ (Sv.txt v) wa hbua (by omega) hsza))).mono ?_; rintro e wd ⟨rfl, hbud, hBd, hokd⟩
       have hxd := hokd _ _ hxa (by simp) (by intro c fz e; cases e))
    | gi_in)
  have hbS : ∀ (a b : World), Below a.heap.size a b → KeepsOthers a b := fun a b h => ⟨h.size, fun k o ho hc => (h.block k (Array.getElem?_eq_some_iff.1 ho).1).trans ho⟩
  have hbc1 : ∀ (W : World) (bs : List Value), Lib.IsBuilderF 160 5 s (s + 1) bs W → ∀ k, some (s + 1) = some k → ∃ o, W.heap[k]? = some o ∧ o.isCells = true := fun W bs h k e => by
   cases e
   rcases h with ⟨_, v, h2, _⟩ | ⟨_, v, h2, _⟩ <;> exact ⟨_, h2, rfl⟩
  have hbWl := (Array.getElem?_eq_some_iff.1 hbW).1
  have hkw : wd.heap[W1.heap.size]? = W.heap[W1.heap.size]? :=
   (hokd _ _ ((hba.block _ hbWl).trans hbW) (by simp; omega) (by intro c fz e; cases e)).trans hbW.symm
  have hBe : Below s W wd := (hba.mono hBW2).trans hBd
  refine ⟨(hbS _ _ hba).trans (others_of hokd hBd.size (hbc1 _ _ hbua)), ⟨hBe, fun _ => hkw⟩, ⟨⟨?_, hxd⟩, hkw.trans hbW⟩, hB.trans hBe⟩
  rw [HS.out]
  have := hbud
  rw [hit] at this
  exact .inr (by simpa [Lib.byteCells] using this)
 case doneT =>
  rintro D ys W hD rfl ⟨⟨⟨hbu, hx⟩, hbW⟩, hB⟩ hK
  have hf132 : Fence.wide.fn 138 := trivial
  have hBW2 : s ≤ W.heap.size := by have := hB.size; omega
  gi_wp2_with (first
    | (gi_at_call 138; refine (callsIn_wide.2 (Tryz.Builder_String_any_k s (s + 1) (tacc true (bk l0 l0.length)) W hbu hBW2)).mono ?_; rintro e wz ⟨rfl, hbz, hBz, hokz⟩)
    | gi_in)
  have hDs : D ≠ s + 1 := by
   intro e
   subst e
   rcases hbu with ⟨_, v, h2, _⟩ | ⟨_, v, h2, _⟩ <;> (rw [h2] at hK; cases hK)
  have hKz := hokz _ _ hK (by simp; omega) (by intro c fz e; cases e)
  have hDw : w.heap.size ≤ D := by omega
  refine ⟨by simp, .inl ⟨_, _, rfl, run_takeDeferred hKz, ?_⟩⟩
  exact ⟨.string ⟨(tacc true (bk l0 l0.length)).toArray⟩, by simp [results, Tryz.f98, go_sem], rfl, (show Below w.heap.size w wz by rw [hs]; exact hB.trans hBz).trans (belowK_b (w := w) (Nat.le_refl _) wz D _ _ (by omega) hKz rfl rfl)⟩
 case stopT =>
  rintro D c pre W hD hp hf hK
  exact hf.elim
theorem bInumber_text.calls (a0_0 : Bool) (A0_1 : Option Addr) (c0_1 : Nat) (l0_1 : List Int) (r : ByteArray) (w : World) (hL : LaidW w) (hr0_1 : Kd.C (Kd.int .i64) w A0_1 l0_1.length l0_1) (hc0_1 : l0_1.length ≤ c0_1) (h : bInumber_text.f a0_0 l0_1 = some r) :
    Calls Tryz.prog 98 #[.agg #[.bool a0_0, .slice A0_1 l0_1.length c0_1]] w fun e w' => e = .returned (.string r) ∧ Below w.heap.size w w' := by
 unfold bInumber_text.f at h
 split at h
 ·rename_i hc
  simp only [Option.some.injEq] at h
  subst h
  by_cases hl : l0_1 = []
  ·subst hl
   rw [if_pos rfl]
   go_enter Tryz.func98, Tryz.ntmps98
   go_wp2
   refine ⟨by simp, ?_⟩
   exact ⟨.string ⟨#[48]⟩, by simp [results, Tryz.f98, go_sem], rfl, (Below.refl _ w).alloc (Nat.le_refl _) _⟩
  rw [if_neg hl]
  exact callsIn_wide.1 (text_in 3 (by omega) a0_0 A0_1 c0_1 l0_1 w hL hr0_1 hc.1 hc.2 (List.length_pos_iff.2 hl))
 cases h
end Go.Proofs.YtihbebbabjklkaaGreatDoor
namespace Go.Proofs.YtihbebbabjklkaaGreatDoor.PA
set_option linter.unusedVariables false
open Go.RowKit Go.Proofs.WWords Go.Proofs.WLast Go.Proofs.WMore
attribute [local go_sem] max2_int min2_int max_two min_two max_three min_three max_four min_four
set_option linter.unusedSimpArgs false
theorem bIwritten.calls (a0_0 : Bool) (A0_1 : Option Addr) (c0_1 : Nat) (l0_1 : List Int) (r1 : ByteArray) (r2 : Int) (w : World) (hL : LaidW w) (hr0_1 : Kd.C (Kd.int .i64) w A0_1 l0_1.length l0_1) (hc0_1 : l0_1.length ≤ c0_1) (h : bIwritten.f a0_0 l0_1 = some (r1, r2)) :
  Calls Tryz.prog 106 #[.agg #[.bool a0_0, .slice A0_1 l0_1.length c0_1]] w fun e w' => e = .returned (.tuple #[.string r1, .int .i64 r2]) ∧ Below w.heap.size w w' := by
 have hu88 := Tryz.underlying122
 have HR0_1 := Z0.mk hr0_1
 have HC0_1 := Z0.mk hc0_1
 clear hr0_1 hc0_1
 have HB := Z0.mk (Below.refl w.heap.size w)
 have H := h
 clear h
 unfold bIwritten.f at H
 obtain ⟨t296, A2, H⟩ := bnd H
 rcases jg H with ⟨-, c3b0, H⟩ | ⟨-, c3b0, H⟩
 ·simp only [Option.some.injEq, Prod.mk.injEq] at H
  obtain ⟨rfl, rfl⟩ := H
  go_enter Tryz.func106, Tryz.ntmps106
  go_wp2_with (first | ((with_reducible refine gd_ 1 rfl ?_); refine bxE 1 #[.bool a0_0, .slice A0_1 l0_1.length c0_1] 122 ?_; intro gb295 hg w4 hbox hb; have BK295 := Z0.mk hbox; have GW295 := fE HB hg; have GE295 := fE HB hg; replace HB := fB HB hb; clear hb hbox hg; obtain ⟨hcz5_0, hcz5_1, hfz5_0, hfz5_1⟩ := b2 BK295) | ((with_reducible refine gc_ 146 rfl ?_); refine gL 5 Tryz.func146 (bInumber_size.calls a0_0 _ _ l0_1 t296 _ ?side3 ?side1 ?side2 A2.out) ?_; (case side1 => exact cq (Kd.C_below HR0_1.out HB.out)); (case side2 => exact HC0_1.out); (case side3 => exact LaidW.below hL bqs); rintro _ w6 ⟨rfl, hb⟩; refine ⟨_, rfl, ?_⟩; replace BK295 := fk BK295 hb; replace HB := fB HB hb; clear hb))
  go_ret2
  exact finE
 obtain ⟨t297, A7, H⟩ := bnd H
 simp only [Option.some.injEq, Prod.mk.injEq] at H
 obtain ⟨rfl, rfl⟩ := H
 go_enter Tryz.func106, Tryz.ntmps106
 go_wp2_with (first | ((with_reducible refine gd_ 1 rfl ?_); refine bxE 1 #[.bool a0_0, .slice A0_1 l0_1.length c0_1] 122 ?_; intro gb295 hg w8 hbox hb; have BK295 := Z0.mk hbox; have GW295 := fE HB hg; have GE295 := fE HB hg; replace HB := fB HB hb; clear hb hbox hg; obtain ⟨hcz9_0, hcz9_1, hfz9_0, hfz9_1⟩ := b2 BK295) | ((with_reducible refine gc_ 146 rfl ?_); refine gL 5 Tryz.func146 (bInumber_size.calls a0_0 _ _ l0_1 t296 _ ?side3 ?side1 ?side2 A2.out) ?_; (case side1 => exact cq (Kd.C_below HR0_1.out HB.out)); (case side2 => exact HC0_1.out); (case side3 => exact LaidW.below hL bqs); rintro _ w10 ⟨rfl, hb⟩; refine ⟨_, rfl, ?_⟩; replace BK295 := fk BK295 hb; replace HB := fB HB hb; clear hb; obtain ⟨hcz11_0, hcz11_1, hfz11_0, hfz11_1⟩ := b2 BK295) | ((with_reducible refine gc_ 98 rfl ?_); refine gL 8 Tryz.func98 (bInumber_text.calls a0_0 _ _ l0_1 t297 _ ?side3 ?side1 ?side2 A7.out) ?_; (case side1 => exact cq (Kd.C_below HR0_1.out HB.out)); (case side2 => exact HC0_1.out); (case side3 => exact LaidW.below hL bqs); rintro _ w12 ⟨rfl, hb⟩; refine ⟨_, rfl, ?_⟩; replace BK295 := fk BK295 hb; replace HB := fB HB hb; clear hb))
 go_ret2
 exact finE
set_option linter.unusedVariables false
set_option linter.unusedSimpArgs false
theorem bItimes.calls (k : Nat) (A0 : Option Addr) (c0 : Nat) (l0 : List Int) (A1 : Option Addr) (c1 : Nat) (l1 : List Int) (r : List Int) (w : World) (hr0 : Kd.C (Kd.int .i64) w A0 l0.length l0) (hc0 : l0.length ≤ c0) (hr1 : Kd.C (Kd.int .i64) w A1 l1.length l1) (hc1 : l1.length ≤ c1) (h : bItimes.f k l0 l1 = some r) :
  Calls Tryz.prog 107 #[.slice A0 l0.length c0, .slice A1 l1.length c1] w fun e w' => ∃ v0_ : Value, e = .returned (v0_) ∧ Kd.R (Kd.int .i64) 3 w' w.heap.size (fun _ => True) v0_ r ∧ Below w.heap.size w w' := by
 have HB := Z0.mk (Below.refl w.heap.size w)
 unfold bItimes.f at h
 obtain ⟨n0, -, h⟩ := gd h
 obtain ⟨n1, -, h⟩ := gd h
 have hw := i64_w ((l0.length : Int) + (l1.length : Int))
 generalize wrap64 ((l0.length : Int) + (l1.length : Int)) = n at n0 n1 hw h
 obtain ⟨y, hy⟩ : ∃ y : List Int, Z0 (y = List.replicate n.toNat 0) := ⟨_, ⟨rfl⟩⟩
 rw [← hy.out] at h
 have hu := Tryz.underlying35
 replace hr0 := Z0.mk hr0
 replace hr1 := Z0.mk hr1
 have H' := Z0.mk h
 clear h hc0 hc1
 go_enter Tryz.func107, Tryz.ntmps107
 go_wp2_with (refine mkI n y rfl n0 n1 hy ?_; intro A c w1 hb HO; replace HO := Z0.mk (Kd.R_lower HO.out (below_size bqs)); replace HB := fB HB hb; clear hb)
 go_loopg [19] k (fun kq v19 w' => ∃ (x5 : List Int) (i : Int), v19 = .int .i64 i ∧ Z0 (bItimes.l0 kq l1 x5 l0 (l0.length : Int) i = some r) ∧ kq ≤ k ∧ Z0 (Kd.R (Kd.int .i64) 3 w' w.heap.size (fun _ => True) (.slice A y.length c) x5) ∧ Z0 (Below w.heap.size w w'))
 case atStart => exact ⟨y, 0, rfl, H', Nat.le_refl _, ⟨rq HO⟩, ⟨bqs⟩⟩
 clear H' HO HB hy n0 n1 hw
 obtain ⟨x5, i, rfl, H, hk, HO, HB⟩ := hrel
 cases gk with
 | zero => cases H.out
 | succ k1 =>
 replace H := H.out
 unfold bItimes.l0 at H
 rcases jd H with ⟨-, c1, H⟩ | ⟨-, c1, H⟩
 · obtain ⟨-, _, H⟩ := gd H
   obtain ⟨-, _, H⟩ := gd H
   have H' := Z0.mk H
   clear H
   obtain ⟨a0, rfl, r1, r2, r3⟩ := atB HB hr0.out i
   go_wp2
   go_loopg [8, 26] k1 (fun kq v8 v26 w' => ∃ (x5 : List Int) (x8 j : Int), v8 = .int .i64 x8 ∧ v26 = .int .i64 j ∧ Z0 (bItimes.l1 kq l1 x5 i (rd l0 i) x8 l0 (l0.length : Int) i l1 (l1.length : Int) j = some r) ∧ kq ≤ k1 ∧ Z0 (Kd.R (Kd.int .i64) 3 w' w.heap.size (fun _ => True) (.slice A y.length c) x5) ∧ Z0 (Below w.heap.size w w'))
   case atStart => exact ⟨x5, 0, 0, rfl, rfl, H', Nat.le_refl _, HO, HB⟩
   clear H' HO HB r1 r2 r3
   obtain ⟨x5, x8, j, rfl, rfl, H, hk1, HO, HB⟩ := hrel
   have hl := (Kd.R_reads' HO.out).1
   cases gk with
   | zero => cases H.out
   | succ k2 =>
   replace H := H.out
   unfold bItimes.l1 at H
   simp only [← hl] at H
   clear hl
   rcases jd H with ⟨-, d1, H⟩ | ⟨-, d1, H⟩
   · have hm := i64_w (i + j); generalize hm2 : wrap64 (i + j) = m at H hm
     repeat ((with_reducible have Z := gd H); obtain ⟨-, _, H⟩ := Z)
     obtain ⟨g, rfl, c3, c4, c5, c6⟩ := ownF HO m od od
     obtain ⟨a1, rfl, r4, r5, r6⟩ := atB HB hr1.out j
     have H' := Z0.mk H
     clear H
     go_wp2_with (refine stI m _ HO HB rfl ?_; intro w2 HO' hg HB')
     go_roundg k2
     case measure => omega
     case rel => exact ⟨_, _, _, rfl, rfl, H', by omega, HO', HB'⟩
   · have hm := i64_w (i + (l1.length : Int)); generalize hm2 : wrap64 (i + (l1.length : Int)) = m at H hm
     repeat ((with_reducible have Z := gd H); obtain ⟨-, _, H⟩ := Z)
     obtain ⟨g, rfl, c3, c4, c5, c6⟩ := ownF HO m od od
     have H' := Z0.mk H
     clear H
     go_wp2_with (refine stI m _ HO HB rfl ?_; intro w2 HO' hg HB')
     go_roundg k2
     case measure => omega
     case rel => exact ⟨_, _, rfl, H', by omega, HO', HB'⟩
 · obtain ⟨t, A1, H⟩ := bnd H
   cases H
   go_wp2_with (refine cX rfl ?_; rintro _ w2 ⟨rfl, HO', hb⟩; refine ⟨_, rfl, ?_⟩; replace HB := fB HB hb)
   go_ret
   exact ⟨_, rfl, HO'.out, HB.out⟩
set_option linter.unusedVariables false
attribute [local go_sem] max2_int min2_int max_two min_two max_three min_three max_four min_four
set_option linter.unusedSimpArgs false
def bIproduct.T1 : Bool × List (List Nat × List Nat) := (true, [([], []), ([0], [0]), ([], []), ([2], [2]), ([1, 3], [1, 3]), ([], []), ([5], [5]), ([], []), ([7], [7]), ([6, 8], [6, 8]), ([4, 9], [4, 9]), ([10, 9, 0, 1, 2, 3, 4, 5, 6, 7, 8, 9, 10], [10])])
def bIproduct.B1 : List Nat := [0, 1, 0, 4, 15, 0, 32, 0, 128, 480, 1023, 2047]
theorem bIproduct.tab1 : rtab .any (opsOf Tryz.f103 1) = bIproduct.T1 := by kernel_rfl
theorem bIproduct.bits1 : waitsOk bIproduct.T1.2 bIproduct.B1 = true := by kernel_rfl
theorem bIproduct.calls (k : Nat) (a0_0 : Bool) (A0_1 : Option Addr) (c0_1 : Nat) (l0_1 : List Int) (a1_0 : Bool) (A1_1 : Option Addr) (c1_1 : Nat) (l1_1 : List Int) (r1 : Bool) (r2 : List Int) (w : World) (hr0_1 : Kd.C (Kd.int .i64) w A0_1 l0_1.length l0_1) (hc0_1 : l0_1.length ≤ c0_1) (hr1_1 : Kd.C (Kd.int .i64) w A1_1 l1_1.length l1_1) (hc1_1 : l1_1.length ≤ c1_1) (h : bIproduct.f k a0_0 l0_1 a1_0 l1_1 = some (r1, r2)) :
  Calls Tryz.prog 103 #[.agg #[.bool a0_0, .slice A0_1 l0_1.length c0_1], .agg #[.bool a1_0, .slice A1_1 l1_1.length c1_1]] w fun e w' => ∃ v1_ : Value, e = .returned (.agg #[.bool r1, v1_]) ∧ Kd.R (Kd.int .i64) 3 w' w.heap.size (fun _ => True) v1_ r2 ∧ Below w.heap.size w w' := by
 have hu88 := Tryz.underlying122
 have HR0_1 := Z0.mk hr0_1
 have HC0_1 := Z0.mk hc0_1
 clear hr0_1 hc0_1
 have HR1_1 := Z0.mk hr1_1
 have HC1_1 := Z0.mk hc1_1
 clear hr1_1 hc1_1
 have HB := Z0.mk (Below.refl w.heap.size w)
 have H := h
 clear h
 unfold bIproduct.f at H
 obtain ⟨t376, A3, H⟩ := bnd H
 simp only [Option.some.injEq, Prod.mk.injEq] at H
 obtain ⟨rfl, rfl⟩ := H
 go_enter Tryz.func103, Tryz.ntmps103
 try go_wp2_with (first | ((with_reducible refine gd_ 2 rfl ?_); refine bxE 2 #[.bool a0_0, .slice A0_1 l0_1.length c0_1] 122 ?_; intro gb373 hg w4 hbox hb; have BK373 := Z0.mk hbox; have GW373 := fE HB hg; have GE373 := fE HB hg; replace HB := fB HB hb; clear hb hbox hg) | ((with_reducible refine gd_ 3 rfl ?_); refine bxE 3 #[.bool a1_0, .slice A1_1 l1_1.length c1_1] 122 ?_; intro gb374 hg w5 hbox hb; have BK374 := Z0.mk hbox; have GW374 := fE HB hg; have GE374 := fE HB hg; have NB373_374 := fl BK373 hg; have NB374_373 := fg BK373 hg; replace BK373 := fk BK373 hb; replace HB := fB HB hb; clear hb hbox hg) | ((with_reducible refine gd_ 4 rfl ?_); refine bxE 4 #[.bool false, .slice none 0 0] 122 ?_; intro gb375 hg w6 hbox hb; have BK375 := Z0.mk hbox; have GW375 := fE HB hg; have GE375 := fE HB hg; have NB373_375 := fl BK373 hg; have NB375_373 := fg BK373 hg; have NB374_375 := fl BK374 hg; have NB375_374 := fg BK374 hg; replace BK373 := fk BK373 hb; replace BK374 := fk BK374 hb; replace HB := fB HB hb; clear hb hbox hg))
 replace BK373 := Z0.mk (blk_drew BK373.out)
 replace BK374 := Z0.mk (blk_drew BK374.out)
 replace BK375 := Z0.mk (blk_drew BK375.out)
 replace HB := Z0.mk (below_drew1 HB.out)
 refine start_ (n := 12) (S := fun w' => w'.cell? ⟨gb373, 0, none⟩ = some (.bool a0_0) ∧ w'.cell? ⟨gb373, 1, none⟩ = some (.slice A0_1 l0_1.length c0_1) ∧ w'.cell? ⟨gb374, 0, none⟩ = some (.bool a1_0) ∧ w'.cell? ⟨gb374, 1, none⟩ = some (.slice A1_1 l1_1.length c1_1)) (ds := []) #[false, false, false, false, false, false, false, false, false, false, false, false] (by kernel_rfl) rfl rfl ⟨(blk_cell BK373.out 0).trans rfl, (blk_cell BK373.out 1).trans rfl, (blk_cell BK374.out 0).trans rfl, (blk_cell BK374.out 1).trans rfl⟩ (fun hHeld => ?_); refine with_tabW bIproduct.tab1 bIproduct.bits1 (fun HT_ HW_ => ?_)
 generalize w6.drew = w7 at BK373 BK374 BK375 HB hHeld ⊢
 refine pure_ (i := 0) (N := some 5) (v := ?_) (a' := ?_) #[true, false, false, false, false, false, false, false, false, false, false, false] rfl rfl (any_of HT_.out (by kernel_rfl)) (fun _ _ _ h => h) (Or.inl ⟨by rfl, ?_⟩) ?_ ?_
 rotate_left
 ·intro w'
  go_simp
  with_reducible rfl
 rotate_left
 ·simp only [Act.put, List.setIfInBounds_toArray, List.set_cons_zero, List.set_cons_succ, i64_w, i32_w]
  rfl
 refine pure_ (i := 2) (N := some 7) (v := ?_) (a' := ?_) #[true, false, true, false, false, false, false, false, false, false, false, false] rfl rfl (any_of HT_.out (by kernel_rfl)) (fun _ _ _ h => h) (Or.inl ⟨by rfl, ?_⟩) ?_ ?_
 rotate_left
 ·intro w'
  go_simp
  with_reducible rfl
 rotate_left
 ·simp only [Act.put, List.setIfInBounds_toArray, List.set_cons_zero, List.set_cons_succ, i64_w, i32_w]
  rfl
 refine pure_ (i := 5) (N := some 10) (v := ?_) (a' := ?_) #[true, false, true, false, false, true, false, false, false, false, false, false] rfl rfl (any_of HT_.out (by kernel_rfl)) (fun _ _ _ h => h) (Or.inl ⟨by rfl, ?_⟩) ?_ ?_
 rotate_left
 ·intro w'
  go_simp
  with_reducible rfl
 rotate_left
 ·simp only [Act.put, List.setIfInBounds_toArray, List.set_cons_zero, List.set_cons_succ, i64_w, i32_w]
  rfl
 refine pure_ (i := 7) (N := some 12) (v := ?_) (a' := ?_) #[true, false, true, false, false, true, false, true, false, false, false, false] rfl rfl (any_of HT_.out (by kernel_rfl)) (fun _ _ _ h => h) (Or.inl ⟨by rfl, ?_⟩) ?_ ?_
 rotate_left
 ·intro w'
  go_simp
  with_reducible rfl
 rotate_left
 ·simp only [Act.put, List.setIfInBounds_toArray, List.set_cons_zero, List.set_cons_succ, i64_w, i32_w]
  rfl
 refine take_ (i := 1) (N := some 6) (v := ?_) (a' := ?_) #[true, true, true, false, false, true, false, true, false, false, false, false] rfl rfl (take_ofW HT_.out HW_.out (by kernel_rfl)) (fun _ _ _ h => h) (Or.inl ⟨by rfl, ?_⟩) hHeld ?_ ?_
 rotate_left
 ·rintro w' ⟨s0, s1, s2, s3⟩
  go_simp
  with_reducible rfl
 rotate_left
 ·simp only [Act.put, List.setIfInBounds_toArray, List.set_cons_zero, List.set_cons_succ, i64_w, i32_w]
  rfl
 refine take_ (i := 3) (N := some 8) (v := ?_) (a' := ?_) #[true, true, true, true, false, true, false, true, false, false, false, false] rfl rfl (take_ofW HT_.out HW_.out (by kernel_rfl)) (fun _ _ _ h => h) (Or.inl ⟨by rfl, ?_⟩) hHeld ?_ ?_
 rotate_left
 ·rintro w' ⟨s0, s1, s2, s3⟩
  go_simp
  with_reducible rfl
 rotate_left
 ·simp only [Act.put, List.setIfInBounds_toArray, List.set_cons_zero, List.set_cons_succ, i64_w, i32_w]
  rfl
 refine pure_ (i := 4) (N := some 9) (v := ?_) (a' := ?_) #[true, true, true, true, true, true, false, true, false, false, false, false] rfl rfl (any_of HT_.out (by kernel_rfl)) (fun _ _ _ h => h) (Or.inl ⟨by rfl, ?_⟩) ?_ ?_
 rotate_left
 ·intro w'
  go_simp
  with_reducible rfl
 rotate_left
 ·simp only [Act.put, List.setIfInBounds_toArray, List.set_cons_zero, List.set_cons_succ, i64_w, i32_w]
  rfl
 refine take_ (i := 6) (N := some 11) (v := ?_) (a' := ?_) #[true, true, true, true, true, true, true, true, false, false, false, false] rfl rfl (take_ofW HT_.out HW_.out (by kernel_rfl)) (fun _ _ _ h => h) (Or.inl ⟨by rfl, ?_⟩) hHeld ?_ ?_
 rotate_left
 ·rintro w' ⟨s0, s1, s2, s3⟩
  go_simp
  with_reducible rfl
 rotate_left
 ·simp only [Act.put, List.setIfInBounds_toArray, List.set_cons_zero, List.set_cons_succ, i64_w, i32_w]
  rfl
 refine take_ (i := 8) (N := some 13) (v := ?_) (a' := ?_) #[true, true, true, true, true, true, true, true, true, false, false, false] rfl rfl (take_ofW HT_.out HW_.out (by kernel_rfl)) (fun _ _ _ h => h) (Or.inl ⟨by rfl, ?_⟩) hHeld ?_ ?_
 rotate_left
 ·rintro w' ⟨s0, s1, s2, s3⟩
  go_simp
  with_reducible rfl
 rotate_left
 ·simp only [Act.put, List.setIfInBounds_toArray, List.set_cons_zero, List.set_cons_succ, i64_w, i32_w]
  rfl
 refine one_ (i := 9) (N := some 14) #[true, true, true, true, true, true, true, true, true, true, false, false] rfl rfl (one_of HT_.out (by kernel_rfl)) (by decide) (fun K hK => ?_)
 refine goes_ Tryz.func107 (by kernel_rfl) rfl #[.slice A0_1 l0_1.length c0_1, .slice A1_1 l1_1.length c1_1] (by rfl) rfl rfl (by (try simp only [List.map_toArray, List.map_cons, List.map_nil]); first | done | rfl | (simp only [List.length_drop, List.length_take]; rfl)) ?_
 with_reducible refine (bItimes.calls k _ _ l0_1 _ _ l1_1 t376 _ ?side1 ?side2 ?side3 ?side4 A3.out).mono ?_
 (case side1 => exact cq (Kd.C_below HR0_1.out HB.out))
 (case side2 => exact HC0_1.out)
 (case side3 => exact cq (Kd.C_below HR1_1.out HB.out))
 (case side4 => exact HC1_1.out)
 rintro e w8 ⟨v377, rfl, ho0, hb⟩
 refine ⟨_, rfl, ?_⟩
 have HO378 := fN ho0
 replace BK373 := fk BK373 hb
 replace BK374 := fk BK374 hb
 replace BK375 := fk BK375 hb
 replace HB := fB HB hb
 (try clear hb)
 (try clear hb2)
 (try clear hk)
 (try clear hi)
 (try clear ho0)
 obtain ⟨Ao9, co9, eo9⟩ := Kd.R_slice HO378.out
 (first | subst eo9 | (injection eo9 with f1_ f2_ f3_; have f4_ := f1_.symm; have f5_ := f3_.symm; clear f1_ f2_ f3_; subst f4_; subst f5_))
 refine hK.out _ _ ⟨(blk_cell BK373.out 0).trans rfl, (blk_cell BK373.out 1).trans rfl, (blk_cell BK374.out 0).trans rfl, (blk_cell BK374.out 1).trans rfl⟩ (fun hHeld => ?_)
 clear hK K
 refine norm_ (a' := ?_) ?_ ?_
 rotate_left
 ·show Act.put _ (some 14) _ = _
  simp only [Act.put, List.setIfInBounds_toArray, List.set_cons_zero, List.set_cons_succ, i64_w, i32_w]
  rfl
 refine pure_ (i := 10) (N := some 15) (v := ?_) (a' := ?_) #[true, true, true, true, true, true, true, true, true, true, true, false] rfl rfl (any_of HT_.out (by kernel_rfl)) (fun _ _ _ h => h) (Or.inl ⟨by rfl, ?_⟩) ?_ ?_
 rotate_left
 ·intro w'
  go_simp
  with_reducible rfl
 rotate_left
 ·simp only [Act.put, List.setIfInBounds_toArray, List.set_cons_zero, List.set_cons_succ, i64_w, i32_w]
  rfl
 refine one_ (i := 11) (N := none) #[true, true, true, true, true, true, true, true, true, true, true, true] rfl rfl (one_of HT_.out (by kernel_rfl)) (by decide) (fun K hK => ?_)
 have hs10 : w8.cell? ⟨gb375, 0, none⟩ = some (.bool false) := (blk_cell BK375.out 0).trans rfl
 have hfs10 := blk_frozen BK375.out 0
 have hns10_0 := NB373_375.out
 have hns10_1 := NB374_375.out
 have hms10_0 := NB375_373.out
 have hms10_1 := NB375_374.out
 have hs11 : w8.cell? ⟨gb375, 1, none⟩ = some (.slice none 0 0) := (blk_cell BK375.out 1).trans rfl
 have hfs11 := blk_frozen BK375.out 1
 have hns11_0 := NB373_375.out
 have hns11_1 := NB374_375.out
 have hms11_0 := NB375_373.out
 have hms11_1 := NB375_374.out
 refine skip_ (w1 := ?_) (by rfl) rfl ?_ ?_
 rotate_left
 ·go_simp
  rfl
 refine hK.out _ _ ⟨((cell_far (p := ⟨gb375, _, none⟩) NB373_375.out _).trans (((cell_far (p := ⟨gb375, _, none⟩) NB373_375.out _).trans (hHeld.1)))), ((cell_far (p := ⟨gb375, _, none⟩) NB373_375.out _).trans (((cell_far (p := ⟨gb375, _, none⟩) NB373_375.out _).trans (hHeld.2.1)))), ((cell_far (p := ⟨gb375, _, none⟩) NB374_375.out _).trans (((cell_far (p := ⟨gb375, _, none⟩) NB374_375.out _).trans (hHeld.2.2.1)))), ((cell_far (p := ⟨gb375, _, none⟩) NB374_375.out _).trans (((cell_far (p := ⟨gb375, _, none⟩) NB374_375.out _).trans (hHeld.2.2.2))))⟩ (fun hHeld => ?_)
 clear hK K
 refine done_ (done_of HT_.out (by kernel_rfl)) ?_
 try go_wp2
 refine bodyPost_ret (results_cell_row rfl _ _ gb375 122 #[.bool (a0_0 != a1_0), .slice Ao9 t376.length co9] (0, 0) _ rfl (by (with_reducible repeat (first | refine blk_drewN ?_ _ | refine blk_drew ?_ | refine blk_alloc ?_ _)); refine blk_put (cs := #[.bool (a0_0 != a1_0), .slice none 0 0]) ?_ 1 _ rfl; (with_reducible repeat (first | refine blk_drewN ?_ _ | refine blk_drew ?_ | refine blk_alloc ?_ _)); refine blk_put (cs := #[.bool false, .slice none 0 0]) ?_ 0 _ rfl; (with_reducible repeat (first | refine blk_drewN ?_ _ | refine blk_drew ?_ | refine blk_alloc ?_ _)); exact BK375.out) Tryz.underlying122 rfl (by kernel_rfl)) rfl ?_
 exact ⟨_, fe, by (with_reducible repeat (first | apply Kd.R_alloc | apply Kd.R_drewN | apply Kd.R_drew)); exact Kd.R_mono (Kd.R_far (p := ⟨gb375, 1, none⟩) (Kd.R_far (p := ⟨gb375, 0, none⟩) (Kd.R_types HO378.out BK375.out (by decide)) (fun _ hk => hk.2) (.bool (a0_0 != a1_0))) (fun _ hk => hk.2) (.slice Ao9 t376.length co9)) (fun _ hk => trivial), bqs⟩
theorem bIsign.calls (a0_0 : Bool) (A0_1 : Option Addr) (c0_1 : Nat) (l0_1 : List Int) (r : Int) (w : World) (hr0_1 : Kd.C (Kd.int .i64) w A0_1 l0_1.length l0_1) (hc0_1 : l0_1.length ≤ c0_1) (h : bIsign.f a0_0 l0_1 = some r) :
  Calls Tryz.prog 97 #[.agg #[.bool a0_0, .slice A0_1 l0_1.length c0_1]] w fun e w' => e = .returned (.int .i64 r) ∧ Below w.heap.size w w' := by
 have hu88 := Tryz.underlying122
 have HR0_1 := Z0.mk hr0_1
 have HC0_1 := Z0.mk hc0_1
 clear hr0_1 hc0_1
 have HB := Z0.mk (Below.refl w.heap.size w)
 have H := h
 clear h
 unfold bIsign.f at H
 rcases je H with ⟨-, c2b0, c2b1, H⟩ | ⟨c2, c2b0, c2b1, H⟩
 ·obtain rfl := Option.some.inj H
  go_enter Tryz.func97, Tryz.ntmps97
  go_wp2_with (first | ((with_reducible refine gd_ 1 rfl ?_); refine bxE 1 #[.bool a0_0, .slice A0_1 l0_1.length c0_1] 122 ?_; intro gb329 hg w3 hbox hb; have BK329 := Z0.mk hbox; have GW329 := fE HB hg; have GE329 := fE HB hg; replace HB := fB HB hb; clear hb hbox hg; obtain ⟨hcz4_0, hcz4_1, hfz4_0, hfz4_1⟩ := b2 BK329))
  go_ret
  exact finE
 have c2b2 : ¬ (l0_1 = []) := fun h_ => c2 (by rw [h_]; rfl)
 by_cases c5 : a0_0 = true
 ·subst c5
  have H1 : (some (-1)) = some r := by rw [if_pos rfl] at H; exact H
  clear H
  have H := H1
  clear H1
  obtain rfl := Option.some.inj H
  go_enter Tryz.func97, Tryz.ntmps97
  go_wp2_with (first | ((with_reducible refine gd_ 1 rfl ?_); refine bxE 1 #[.bool true, .slice A0_1 l0_1.length c0_1] 122 ?_; intro gb329 hg w6 hbox hb; have BK329 := Z0.mk hbox; have GW329 := fE HB hg; have GE329 := fE HB hg; replace HB := fB HB hb; clear hb hbox hg; obtain ⟨hcz7_0, hcz7_1, hfz7_0, hfz7_1⟩ := b2 BK329))
  go_ret
  exact finE
 replace c5 := Bool.eq_false_iff.mpr c5
 subst c5
 have H1 : (some 1) = some r := by rw [if_neg (show ¬ (false = true) by decide)] at H; exact H
 clear H
 have H := H1
 clear H1
 obtain rfl := Option.some.inj H
 go_enter Tryz.func97, Tryz.ntmps97
 go_wp2_with (first | ((with_reducible refine gd_ 1 rfl ?_); refine bxE 1 #[.bool false, .slice A0_1 l0_1.length c0_1] 122 ?_; intro gb329 hg w8 hbox hb; have BK329 := Z0.mk hbox; have GW329 := fE HB hg; have GE329 := fE HB hg; replace HB := fB HB hb; clear hb hbox hg; obtain ⟨hcz9_0, hcz9_1, hfz9_0, hfz9_1⟩ := b2 BK329))
 go_ret
 exact finE
set_option linter.unusedVariables false
set_option linter.unusedSimpArgs false
instance : Ctr 96 (type_of% @bIpair.calls) := ⟨@bIpair.calls, _, Tryz.func96, by kernel_rfl, rfl⟩
instance : Ctr 101 (type_of% @bIsum.calls) := ⟨@bIsum.calls, _, Tryz.func101, by kernel_rfl, rfl⟩
instance : Ctr 106 (type_of% @bIwritten.calls) := ⟨@bIwritten.calls, _, Tryz.func106, by kernel_rfl, rfl⟩
theorem bIAdd.calls (k : Nat) (a0 : ByteArray) (a1 : ByteArray) (r1 : ByteArray) (r2 : Int) (w : World) (hL : LaidW w) (h : bIAdd.f k a0 a1 = some (r1, r2)) :
  Calls Tryz.prog 108 #[.string a0, .string a1] w fun e w' => e = .returned (.tuple #[.string r1, .int .i64 r2]) ∧ Below w.heap.size w w' := by
 have HB := Z0.mk (Below.refl w.heap.size w)
 unfold bIAdd.f at h
 obtain ⟨⟨n0, l0, n1, l1, e⟩, A1, h⟩ := bnd h
 dsimp only at h
 have hu88 := Tryz.underlying122
 go_enter Tryz.func108, Tryz.ntmps108
 go_upto_region 2 with (refine cX rfl ?_; rintro _ w1 ⟨X0, c0, X1, c1, rfl, C0, hc0, C1, hc1, hb⟩; refine ⟨_, rfl, ?_⟩; replace HB := fB HB hb; clear hb)
 refine al2 ?_
 intro W hb B0 B1
 replace HB := fB HB hb
 rcases je h with ⟨-, e0, e1, h⟩ | ⟨-, e0, e1, h⟩
 · obtain ⟨⟨n, l⟩, A2, h⟩ := bnd h
   obtain ⟨⟨s, e'⟩, A3, h⟩ := bnd h
   cases h
   obtain ⟨p0, p1, -, -⟩ := b2 B0
   obtain ⟨q0, q1, -, -⟩ := b2 B1
   go_wp2_with (first
    | ((with_reducible refine gc_ 101 rfl ?_); refine cX rfl ?_; rintro _ w2 ⟨v, rfl, ho, hb2⟩; refine ⟨_, rfl, ?_⟩; replace HB := fB HB hb2; obtain ⟨X, c, rfl, hc, C⟩ := Kd.R_reads ho)
    | (refine cG rfl ?_; intro w' hb; replace HB := fB HB hb))
   go_ret2
   exact ⟨rfl, HB.out⟩
 · cases h
   go_wp2
   go_ret2
   exact ⟨rfl, HB.out⟩
theorem neg_ok (n : Bool) (X : Option Addr) (l c : Nat) (w : World) :
  Calls Tryz.prog 102 #[.agg #[.bool n, .slice X l c]] w fun e w' => e = .returned (.agg #[.bool (!n), .slice X l c]) ∧ Below w.heap.size w w' := by
 have hu88 := Tryz.underlying122
 go_enter Tryz.func102, Tryz.ntmps102
 go_upto_region 1 with (fail)
 refine al2 ?_
 intro W hb B0 B1
 obtain ⟨p0, p1, -, -⟩ := b2 B0
 obtain ⟨q0, q1, f0, f1⟩ := b2 B1
 go_wp2
 refine bodyPost_ret (results_cell_row rfl _ _ (w.heap.size + 1) 122 #[.bool (!n), .slice X l c] (0, 0) _ rfl (blk_put (blk_put B1.out 0 _ rfl) 1 _ rfl) Tryz.underlying122 rfl (by kernel_rfl)) rfl ⟨rfl, below_set (below_set hb (by omega)) (by omega)⟩
instance : Ctr 102 (type_of% @neg_ok) := ⟨@neg_ok, _, Tryz.func102, by kernel_rfl, rfl⟩
theorem bISub.calls (k : Nat) (a0 : ByteArray) (a1 : ByteArray) (r1 : ByteArray) (r2 : Int) (w : World) (hL : LaidW w) (h : bISub.f k a0 a1 = some (r1, r2)) :
  Calls Tryz.prog 159 #[.string a0, .string a1] w fun e w' => e = .returned (.tuple #[.string r1, .int .i64 r2]) ∧ Below w.heap.size w w' := by
 have HB := Z0.mk (Below.refl w.heap.size w)
 unfold bISub.f at h
 obtain ⟨⟨n0, l0, n1, l1, e⟩, A1, h⟩ := bnd h
 dsimp only at h
 have hu88 := Tryz.underlying122
 go_enter Tryz.func159, Tryz.ntmps159
 go_upto_region 2 with (refine cX rfl ?_; rintro _ w1 ⟨X0, c0, X1, c1, rfl, C0, hc0, C1, hc1, hb⟩; refine ⟨_, rfl, ?_⟩; replace HB := fB HB hb; clear hb)
 refine al2 ?_
 intro W hb B0 B1
 replace HB := fB HB hb
 rcases je h with ⟨-, e0, e1, h⟩ | ⟨-, e0, e1, h⟩
 · obtain ⟨⟨n, l⟩, A2, h⟩ := bnd h
   cases A2.out
   obtain ⟨⟨n, l⟩, A2, h⟩ := bnd h
   obtain ⟨⟨s, e'⟩, A3, h⟩ := bnd h
   cases h
   go_wp2
   have hd := (Below.refl W.heap.size W).drew
   replace B0 := fk B0 hd
   replace B1 := fk B1 hd
   replace HB := fB HB hd
   replace C0 := Kd.C_below C0 (below_step hb hd)
   replace C1 := Kd.C_below C1 (below_step hb hd)
   go_region_held3 (fun w' => w'.cell? ⟨w1.heap.size, 0, none⟩ = some (.bool n0) ∧ w'.cell? ⟨w1.heap.size, 1, none⟩ = some (.slice X0 l0.length c0) ∧ w'.cell? ⟨w1.heap.size + 1, 0, none⟩ = some (.bool n1) ∧ w'.cell? ⟨w1.heap.size + 1, 1, none⟩ = some (.slice X1 l1.length c1))
    (exact ⟨(b2 B0).1, (b2 B0).2.1, (b2 B1).1, (b2 B1).2.1⟩)
    (first
    | (go_at_call 101; refine (bIsum.calls _ _ _ _ _ _ _ _ _ _ _ _ C0 hc0 C1 hc1 A2.out).mono ?_; rintro _ w2 ⟨v, rfl, ho, hb'⟩; replace B0 := fk B0 hb'; replace B1 := fk B1 hb'; replace HB := fB HB hb'; obtain ⟨X, c, rfl, hc, C⟩ := Kd.R_reads ho)
    | ((with_reducible refine atC ?_); refine cC ?_; intro w' hb'; (try replace C0 := Kd.C_below C0 hb'); (try replace C1 := Kd.C_below C1 hb'); replace B0 := fk B0 hb'; replace B1 := fk B1 hb'; replace HB := fB HB hb'))
   all_goals go_wp2
   go_ret2
   exact ⟨rfl, HB.out⟩
 · cases h
   go_wp2
   go_ret2
   exact ⟨rfl, HB.out⟩
instance : Ctr 97 (type_of% @bIsign.calls) := ⟨@bIsign.calls, _, Tryz.func97, by kernel_rfl, rfl⟩
instance : Ctr 103 (type_of% @bIproduct.calls) := ⟨@bIproduct.calls, _, Tryz.func103, by kernel_rfl, rfl⟩
theorem bICompare.calls (k : Nat) (a0 : ByteArray) (a1 : ByteArray) (r1 : Int) (r2 : Int) (w : World) (h : bICompare.f k a0 a1 = some (r1, r2)) :
  Calls Tryz.prog 56 #[.string a0, .string a1] w fun e w' => e = .returned (.tuple #[.int .i64 r1, .int .i64 r2]) ∧ Below w.heap.size w w' := by
 have HB := Z0.mk (Below.refl w.heap.size w)
 unfold bICompare.f at h
 obtain ⟨⟨n0, l0, n1, l1, e⟩, A1, h⟩ := bnd h
 dsimp only at h
 have hu88 := Tryz.underlying122
 go_enter Tryz.func56, Tryz.ntmps56
 go_upto_region 2 with (refine cX rfl ?_; rintro _ w1 ⟨X0, c0, X1, c1, rfl, C0, hc0, C1, hc1, hb⟩; refine ⟨_, rfl, ?_⟩; replace HB := fB HB hb; clear hb)
 refine al2 ?_
 intro W hb B0 B1
 replace HB := fB HB hb
 rcases je h with ⟨-, e0, e1, h⟩ | ⟨-, e0, e1, h⟩
 · obtain ⟨⟨n, l⟩, A2, h⟩ := bnd h
   cases A2.out
   obtain ⟨⟨n, l⟩, A2, h⟩ := bnd h
   obtain ⟨s, A3, h⟩ := bnd h
   cases h
   go_wp2
   have hd := (Below.refl W.heap.size W).drew
   replace B0 := fk B0 hd
   replace B1 := fk B1 hd
   replace HB := fB HB hd
   replace C0 := Kd.C_below C0 (below_step hb hd)
   replace C1 := Kd.C_below C1 (below_step hb hd)
   go_region_held3 (fun w' => w'.cell? ⟨w1.heap.size, 0, none⟩ = some (.bool n0) ∧ w'.cell? ⟨w1.heap.size, 1, none⟩ = some (.slice X0 l0.length c0) ∧ w'.cell? ⟨w1.heap.size + 1, 0, none⟩ = some (.bool n1) ∧ w'.cell? ⟨w1.heap.size + 1, 1, none⟩ = some (.slice X1 l1.length c1))
    (exact ⟨(b2 B0).1, (b2 B0).2.1, (b2 B1).1, (b2 B1).2.1⟩)
    (first
    | (go_at_call 101; refine (bIsum.calls _ _ _ _ _ _ _ _ _ _ _ _ C0 hc0 C1 hc1 A2.out).mono ?_; rintro _ w2 ⟨v, rfl, ho, hb'⟩; replace B0 := fk B0 hb'; replace B1 := fk B1 hb'; replace HB := fB HB hb'; obtain ⟨X, c, rfl, hc, C⟩ := Kd.R_reads ho)
    | ((with_reducible refine atC ?_); refine cC ?_; intro w' hb'; (try replace C0 := Kd.C_below C0 hb'); (try replace C1 := Kd.C_below C1 hb'); replace B0 := fk B0 hb'; replace B1 := fk B1 hb'; replace HB := fB HB hb'))
   all_goals go_wp2
   go_ret2
   exact ⟨rfl, HB.out⟩
 · cases h
   go_wp2
   go_ret2
   exact ⟨rfl, HB.out⟩
theorem bIMul.calls (k : Nat) (a0 : ByteArray) (a1 : ByteArray) (r1 : ByteArray) (r2 : Int) (w : World) (hL : LaidW w) (h : bIMul.f k a0 a1 = some (r1, r2)) :
  Calls Tryz.prog 95 #[.string a0, .string a1] w fun e w' => e = .returned (.tuple #[.string r1, .int .i64 r2]) ∧ Below w.heap.size w w' := by
 have HB := Z0.mk (Below.refl w.heap.size w)
 unfold bIMul.f at h
 obtain ⟨⟨n0, l0, n1, l1, e⟩, A1, h⟩ := bnd h
 dsimp only at h
 have hu88 := Tryz.underlying122
 go_enter Tryz.func95, Tryz.ntmps95
 go_upto_region 2 with (refine cX rfl ?_; rintro _ w1 ⟨X0, c0, X1, c1, rfl, C0, hc0, C1, hc1, hb⟩; refine ⟨_, rfl, ?_⟩; replace HB := fB HB hb; clear hb)
 refine al2 ?_
 intro W hb B0 B1
 replace HB := fB HB hb
 rcases je h with ⟨-, e0, e1, h⟩ | ⟨-, e0, e1, h⟩
 · obtain ⟨⟨n, l⟩, A2, h⟩ := bnd h
   obtain ⟨⟨s, e'⟩, A3, h⟩ := bnd h
   cases h
   obtain ⟨p0, p1, -, -⟩ := b2 B0
   obtain ⟨q0, q1, -, -⟩ := b2 B1
   go_wp2_with (first
    | ((with_reducible refine gc_ 103 rfl ?_); refine cX rfl ?_; rintro _ w2 ⟨v, rfl, ho, hb2⟩; refine ⟨_, rfl, ?_⟩; replace HB := fB HB hb2; obtain ⟨X, c, rfl, hc, C⟩ := Kd.R_reads ho)
    | (refine cG rfl ?_; intro w' hb; replace HB := fB HB hb))
   go_ret2
   exact ⟨rfl, HB.out⟩
 · cases h
   go_wp2
   go_ret2
   exact ⟨rfl, HB.out⟩
set_option linter.unusedVariables false
attribute [local go_sem] max2_int min2_int max_two min_two max_three min_three max_four min_four
set_option linter.unusedSimpArgs false
theorem rAboth.calls (k : Nat) (a0 : ByteArray) (a1 : ByteArray) (a2 : ByteArray) (a3 : ByteArray) (r1 : ByteArray) (r2 : ByteArray) (r3 : Int) (w : World) (hL : LaidW w) (h : rAboth.f k a0 a1 a2 a3 = some (r1, r2, r3)) :
  Calls Tryz.prog 161 #[.string a0, .string a1, .string a2, .string a3] w fun e w' => e = .returned (.tuple #[.string r1, .string r2, .int .i64 r3]) ∧ Below w.heap.size w w' := by
 have HB := Z0.mk (Below.refl w.heap.size w)
 have H := h
 clear h
 unfold rAboth.f at H
 obtain ⟨⟨t396, t397⟩, A5, H⟩ := bnd H
 try dsimp only at H
 rcases je H with ⟨-, c6b0, c6b1, H⟩ | ⟨c6, c6b0, c6b1, H⟩
 ·obtain ⟨⟨t398, t399⟩, A7, H⟩ := bnd H
  try dsimp only at H
  simp only [Option.some.injEq, Prod.mk.injEq] at H
  obtain ⟨rfl, rfl, rfl⟩ := H
  go_enter Tryz.func161, Tryz.ntmps161
  go_wp2_with (first | ((with_reducible refine gc_ 95 rfl ?_); refine goB (some 17) Tryz.func95 #[.string a0, .string a1] bq (bIMul.calls k a0 a1 t396 t397 _ (hL.below bq) A5.out) ?_; clear HB; intro w8 HB) | ((with_reducible refine gc_ 95 rfl ?_); refine goB (some 26) Tryz.func95 #[.string a2, .string a3] bq (bIMul.calls k a2 a3 t398 t399 _ (hL.below bq) A7.out) ?_; clear HB; intro w9 HB))
  go_ret3
  exact finE
 simp only [Option.some.injEq, Prod.mk.injEq] at H
 obtain ⟨rfl, rfl, rfl⟩ := H
 go_enter Tryz.func161, Tryz.ntmps161
 go_wp2_with (first | ((with_reducible refine gc_ 95 rfl ?_); refine goB (some 17) Tryz.func95 #[.string a0, .string a1] bq (bIMul.calls k a0 a1 t396 t397 _ (hL.below bq) A5.out) ?_; clear HB; intro w10 HB))
 go_ret3
 exact finE
end Go.Proofs.YtihbebbabjklkaaGreatDoor.PA
namespace Go.Proofs.YtihbebbabjklkaaGreatDoor
set_option linter.unusedVariables false
open Go.RowKit Go.Proofs.WWords Go.Proofs.WLast Go.Proofs.WMore PA
attribute [local go_sem] max2_int min2_int max_two min_two max_three min_three max_four min_four
set_option linter.unusedSimpArgs false
theorem gcellF {w W : World} {g : Nat} {v : Value} {t : TypeId} (h : w.heap[g]? = some (.cells #[v] t (0, 0))) (hb : Below w.heap.size w W) : W.cell? ⟨g, 0, none⟩ = some v := by
 have h2 : W.heap[g]? = some (.cells #[v] t (0, 0)) := (hb.block g (Array.getElem?_eq_some_iff.1 h).1).trans h
 exact blk_cell h2 0
theorem rAaddop.calls (k : Nat) (a0_0 : ByteArray) (a0_1 : ByteArray) (a0_2 : ByteArray) (a0_3 : ByteArray) (r1 : ByteArray) (r2 : ByteArray) (r3 : Int) (gc : Nat) (w : World) (hgc : w.heap[gc]? = some (.cells #[.func (.func 108) #[] #[]] 83 (0, 0))) (hL : LaidW w) (h : rAaddop.f k a0_0 a0_1 a0_2 a0_3 = some (r1, r2, r3)) :
  Calls Tryz.prog 200 #[.agg #[.string a0_0, .string a0_1, .string a0_2, .string a0_3], .pointer (some ⟨gc, 0, none⟩)] w fun e w' => e = .returned (.tuple #[.string r1, .string r2, .int .i64 r3]) ∧ Below w.heap.size w w' := by
 have hu95 := Tryz.underlying145
 have HB := Z0.mk (Below.refl w.heap.size w)
 have H := h
 clear h
 unfold rAaddop.f at H
 obtain ⟨⟨t429, t430, t431⟩, A2, H⟩ := bnd H
 try dsimp only at H
 rcases je H with ⟨-, c3b0, c3b1, H⟩ | ⟨c3, c3b0, c3b1, H⟩
 ·obtain ⟨⟨t432, t433⟩, A4, H⟩ := bnd H
  try dsimp only at H
  rcases je H with ⟨-, c5b0, c5b1, H⟩ | ⟨c5, c5b0, c5b1, H⟩
  ·obtain ⟨⟨t434, t435⟩, A6, H⟩ := bnd H
   try dsimp only at H
   simp only [Option.some.injEq, Prod.mk.injEq] at H
   obtain ⟨rfl, rfl, rfl⟩ := H
   go_enter Tryz.func200, Tryz.ntmps200
   go_wp2_with (first | ((with_reducible refine gd_ 2 rfl ?_); refine bxE 2 #[.string a0_0, .string a0_1, .string a0_2, .string a0_3] 145 ?_; intro gb428 hg w7 hbox hb; have BK428 := Z0.mk hbox; have GW428 := fE HB hg; have GE428 := fE HB hg; replace HB := fB HB hb; clear hb hbox hg; obtain ⟨hcz8_0, hcz8_1, hcz8_2, hcz8_3, hfz8_0, hfz8_1, hfz8_2, hfz8_3⟩ := b4 BK428) | ((with_reducible refine gc_ 161 rfl ?_); refine gL 17 Tryz.func161 (rAboth.calls k a0_0 a0_3 a0_2 a0_1 t429 t430 t431 _ ?side1 A2.out) ?_; (case side1 => exact LaidW.below hL bqs); rintro _ w9 ⟨rfl, hb⟩; refine ⟨_, rfl, ?_⟩; replace BK428 := fk BK428 hb; replace HB := fB HB hb; have hgcF := gcellF hgc HB.out; clear hb) | (go_at_call 108; (with_reducible refine (bIAdd.calls k t429 t430 t432 t433 _ ?side1 A4.out).mono ?_); (case side1 => exact LaidW.below hL bqs); rintro e w10 ⟨rfl, hb⟩; replace BK428 := fk BK428 hb; replace HB := fB HB hb; clear hb; obtain ⟨hcz11_0, hcz11_1, hcz11_2, hcz11_3, hfz11_0, hfz11_1, hfz11_2, hfz11_3⟩ := b4 BK428) | ((with_reducible refine gc_ 95 rfl ?_); refine gL 39 Tryz.func95 (bIMul.calls k a0_1 a0_3 t434 t435 _ ?side1 A6.out) ?_; (case side1 => exact LaidW.below hL bqs); rintro _ w12 ⟨rfl, hb⟩; refine ⟨_, rfl, ?_⟩; replace BK428 := fk BK428 hb; replace HB := fB HB hb; clear hb))
   go_ret3
   exact finE
  simp only [Option.some.injEq, Prod.mk.injEq] at H
  obtain ⟨rfl, rfl, rfl⟩ := H
  go_enter Tryz.func200, Tryz.ntmps200
  go_wp2_with (first | ((with_reducible refine gd_ 2 rfl ?_); refine bxE 2 #[.string a0_0, .string a0_1, .string a0_2, .string a0_3] 145 ?_; intro gb428 hg w13 hbox hb; have BK428 := Z0.mk hbox; have GW428 := fE HB hg; have GE428 := fE HB hg; replace HB := fB HB hb; clear hb hbox hg; obtain ⟨hcz14_0, hcz14_1, hcz14_2, hcz14_3, hfz14_0, hfz14_1, hfz14_2, hfz14_3⟩ := b4 BK428) | ((with_reducible refine gc_ 161 rfl ?_); refine gL 17 Tryz.func161 (rAboth.calls k a0_0 a0_3 a0_2 a0_1 t429 t430 t431 _ ?side1 A2.out) ?_; (case side1 => exact LaidW.below hL bqs); rintro _ w15 ⟨rfl, hb⟩; refine ⟨_, rfl, ?_⟩; replace BK428 := fk BK428 hb; replace HB := fB HB hb; have hgcF := gcellF hgc HB.out; clear hb) | (go_at_call 108; (with_reducible refine (bIAdd.calls k t429 t430 t432 t433 _ ?side1 A4.out).mono ?_); (case side1 => exact LaidW.below hL bqs); rintro e w16 ⟨rfl, hb⟩; replace BK428 := fk BK428 hb; replace HB := fB HB hb; clear hb))
  go_ret3
  exact finE
 simp only [Option.some.injEq, Prod.mk.injEq] at H
 obtain ⟨rfl, rfl, rfl⟩ := H
 go_enter Tryz.func200, Tryz.ntmps200
 go_wp2_with (first | ((with_reducible refine gd_ 2 rfl ?_); refine bxE 2 #[.string a0_0, .string a0_1, .string a0_2, .string a0_3] 145 ?_; intro gb428 hg w17 hbox hb; have BK428 := Z0.mk hbox; have GW428 := fE HB hg; have GE428 := fE HB hg; replace HB := fB HB hb; clear hb hbox hg; obtain ⟨hcz18_0, hcz18_1, hcz18_2, hcz18_3, hfz18_0, hfz18_1, hfz18_2, hfz18_3⟩ := b4 BK428) | ((with_reducible refine gc_ 161 rfl ?_); refine gL 17 Tryz.func161 (rAboth.calls k a0_0 a0_3 a0_2 a0_1 t429 t430 t431 _ ?side1 A2.out) ?_; (case side1 => exact LaidW.below hL bqs); rintro _ w19 ⟨rfl, hb⟩; refine ⟨_, rfl, ?_⟩; replace BK428 := fk BK428 hb; replace HB := fB HB hb; have hgcF := gcellF hgc HB.out; clear hb))
 go_ret3
 exact finE
theorem rAsubop.calls (k : Nat) (a0_0 : ByteArray) (a0_1 : ByteArray) (a0_2 : ByteArray) (a0_3 : ByteArray) (r1 : ByteArray) (r2 : ByteArray) (r3 : Int) (gc : Nat) (w : World) (hgc : w.heap[gc]? = some (.cells #[.func (.func 159) #[] #[]] 83 (0, 0))) (hL : LaidW w) (h : rAsubop.f k a0_0 a0_1 a0_2 a0_3 = some (r1, r2, r3)) :
  Calls Tryz.prog 200 #[.agg #[.string a0_0, .string a0_1, .string a0_2, .string a0_3], .pointer (some ⟨gc, 0, none⟩)] w fun e w' => e = .returned (.tuple #[.string r1, .string r2, .int .i64 r3]) ∧ Below w.heap.size w w' := by
 have hu95 := Tryz.underlying145
 have HB := Z0.mk (Below.refl w.heap.size w)
 have H := h
 clear h
 unfold rAsubop.f at H
 obtain ⟨⟨t429, t430, t431⟩, A2, H⟩ := bnd H
 try dsimp only at H
 rcases je H with ⟨-, c3b0, c3b1, H⟩ | ⟨c3, c3b0, c3b1, H⟩
 ·obtain ⟨⟨t432, t433⟩, A4, H⟩ := bnd H
  try dsimp only at H
  rcases je H with ⟨-, c5b0, c5b1, H⟩ | ⟨c5, c5b0, c5b1, H⟩
  ·obtain ⟨⟨t434, t435⟩, A6, H⟩ := bnd H
   try dsimp only at H
   simp only [Option.some.injEq, Prod.mk.injEq] at H
   obtain ⟨rfl, rfl, rfl⟩ := H
   go_enter Tryz.func200, Tryz.ntmps200
   go_wp2_with (first | ((with_reducible refine gd_ 2 rfl ?_); refine bxE 2 #[.string a0_0, .string a0_1, .string a0_2, .string a0_3] 145 ?_; intro gb428 hg w7 hbox hb; have BK428 := Z0.mk hbox; have GW428 := fE HB hg; have GE428 := fE HB hg; replace HB := fB HB hb; clear hb hbox hg; obtain ⟨hcz8_0, hcz8_1, hcz8_2, hcz8_3, hfz8_0, hfz8_1, hfz8_2, hfz8_3⟩ := b4 BK428) | ((with_reducible refine gc_ 161 rfl ?_); refine gL 17 Tryz.func161 (rAboth.calls k a0_0 a0_3 a0_2 a0_1 t429 t430 t431 _ ?side1 A2.out) ?_; (case side1 => exact LaidW.below hL bqs); rintro _ w9 ⟨rfl, hb⟩; refine ⟨_, rfl, ?_⟩; replace BK428 := fk BK428 hb; replace HB := fB HB hb; have hgcF := gcellF hgc HB.out; clear hb) | (go_at_call 159; (with_reducible refine (bISub.calls k t429 t430 t432 t433 _ ?side1 A4.out).mono ?_); (case side1 => exact LaidW.below hL bqs); rintro e w10 ⟨rfl, hb⟩; replace BK428 := fk BK428 hb; replace HB := fB HB hb; clear hb; obtain ⟨hcz11_0, hcz11_1, hcz11_2, hcz11_3, hfz11_0, hfz11_1, hfz11_2, hfz11_3⟩ := b4 BK428) | ((with_reducible refine gc_ 95 rfl ?_); refine gL 39 Tryz.func95 (bIMul.calls k a0_1 a0_3 t434 t435 _ ?side1 A6.out) ?_; (case side1 => exact LaidW.below hL bqs); rintro _ w12 ⟨rfl, hb⟩; refine ⟨_, rfl, ?_⟩; replace BK428 := fk BK428 hb; replace HB := fB HB hb; clear hb))
   go_ret3
   exact finE
  simp only [Option.some.injEq, Prod.mk.injEq] at H
  obtain ⟨rfl, rfl, rfl⟩ := H
  go_enter Tryz.func200, Tryz.ntmps200
  go_wp2_with (first | ((with_reducible refine gd_ 2 rfl ?_); refine bxE 2 #[.string a0_0, .string a0_1, .string a0_2, .string a0_3] 145 ?_; intro gb428 hg w13 hbox hb; have BK428 := Z0.mk hbox; have GW428 := fE HB hg; have GE428 := fE HB hg; replace HB := fB HB hb; clear hb hbox hg; obtain ⟨hcz14_0, hcz14_1, hcz14_2, hcz14_3, hfz14_0, hfz14_1, hfz14_2, hfz14_3⟩ := b4 BK428) | ((with_reducible refine gc_ 161 rfl ?_); refine gL 17 Tryz.func161 (rAboth.calls k a0_0 a0_3 a0_2 a0_1 t429 t430 t431 _ ?side1 A2.out) ?_; (case side1 => exact LaidW.below hL bqs); rintro _ w15 ⟨rfl, hb⟩; refine ⟨_, rfl, ?_⟩; replace BK428 := fk BK428 hb; replace HB := fB HB hb; have hgcF := gcellF hgc HB.out; clear hb) | (go_at_call 159; (with_reducible refine (bISub.calls k t429 t430 t432 t433 _ ?side1 A4.out).mono ?_); (case side1 => exact LaidW.below hL bqs); rintro e w16 ⟨rfl, hb⟩; replace BK428 := fk BK428 hb; replace HB := fB HB hb; clear hb))
  go_ret3
  exact finE
 simp only [Option.some.injEq, Prod.mk.injEq] at H
 obtain ⟨rfl, rfl, rfl⟩ := H
 go_enter Tryz.func200, Tryz.ntmps200
 go_wp2_with (first | ((with_reducible refine gd_ 2 rfl ?_); refine bxE 2 #[.string a0_0, .string a0_1, .string a0_2, .string a0_3] 145 ?_; intro gb428 hg w17 hbox hb; have BK428 := Z0.mk hbox; have GW428 := fE HB hg; have GE428 := fE HB hg; replace HB := fB HB hb; clear hb hbox hg; obtain ⟨hcz18_0, hcz18_1, hcz18_2, hcz18_3, hfz18_0, hfz18_1, hfz18_2, hfz18_3⟩ := b4 BK428) | ((with_reducible refine gc_ 161 rfl ?_); refine gL 17 Tryz.func161 (rAboth.calls k a0_0 a0_3 a0_2 a0_1 t429 t430 t431 _ ?side1 A2.out) ?_; (case side1 => exact LaidW.below hL bqs); rintro _ w19 ⟨rfl, hb⟩; refine ⟨_, rfl, ?_⟩; replace BK428 := fk BK428 hb; replace HB := fB HB hb; have hgcF := gcellF hgc HB.out; clear hb))
 go_ret3
 exact finE
theorem rAoperations_1.calls (k : Nat) (a0_0 : ByteArray) (a0_1 : ByteArray) (a0_2 : ByteArray) (a0_3 : ByteArray) (r1 : ByteArray) (r2 : ByteArray) (r3 : Int) (w : World) (hL : LaidW w) (h : rAoperations_1.f k a0_0 a0_1 a0_2 a0_3 = some (r1, r2, r3)) :
  Calls Tryz.prog 160 #[.agg #[.string a0_0, .string a0_1, .string a0_2, .string a0_3]] w fun e w' => e = .returned (.tuple #[.string r1, .string r2, .int .i64 r3]) ∧ Below w.heap.size w w' := by
 have hu95 := Tryz.underlying145
 have HB := Z0.mk (Below.refl w.heap.size w)
 have H := h
 clear h
 unfold rAoperations_1.f at H
 obtain ⟨⟨t429, t430, t431⟩, A2, H⟩ := bnd H
 try dsimp only at H
 simp only [Option.some.injEq, Prod.mk.injEq] at H
 obtain ⟨rfl, rfl, rfl⟩ := H
 go_enter Tryz.func160, Tryz.ntmps160
 go_wp2_with (first | ((with_reducible refine gd_ 1 rfl ?_); refine bxE 1 #[.string a0_0, .string a0_1, .string a0_2, .string a0_3] 145 ?_; intro gb428 hg w3 hbox hb; have BK428 := Z0.mk hbox; have GW428 := fE HB hg; have GE428 := fE HB hg; replace HB := fB HB hb; clear hb hbox hg; obtain ⟨hcz4_0, hcz4_1, hcz4_2, hcz4_3, hfz4_0, hfz4_1, hfz4_2, hfz4_3⟩ := b4 BK428) | ((with_reducible refine gc_ 161 rfl ?_); refine gL 13 Tryz.func161 (rAboth.calls k a0_0 a0_2 a0_1 a0_3 t429 t430 t431 _ ?side1 A2.out) ?_; (case side1 => exact LaidW.below hL bqs); rintro _ w5 ⟨rfl, hb⟩; refine ⟨_, rfl, ?_⟩; replace BK428 := fk BK428 hb; replace HB := fB HB hb; clear hb))
 go_ret3
 exact finE
theorem rAoperations_2.calls (k : Nat) (a0_0 : ByteArray) (a0_1 : ByteArray) (a0_2 : ByteArray) (a0_3 : ByteArray) (r1 : ByteArray) (r2 : ByteArray) (r3 : Int) (w : World) (hL : LaidW w) (h : rAoperations_2.f k a0_0 a0_1 a0_2 a0_3 = some (r1, r2, r3)) :
  Calls Tryz.prog 162 #[.agg #[.string a0_0, .string a0_1, .string a0_2, .string a0_3]] w fun e w' => e = .returned (.tuple #[.string r1, .string r2, .int .i64 r3]) ∧ Below w.heap.size w w' := by
 have hu95 := Tryz.underlying145
 have HB := Z0.mk (Below.refl w.heap.size w)
 have H := h
 clear h
 unfold rAoperations_2.f at H
 rcases je H with ⟨-, c2b0, c2b1, H⟩ | ⟨c2, c2b0, c2b1, H⟩
 ·simp only [Option.some.injEq, Prod.mk.injEq] at H
  obtain ⟨rfl, rfl, rfl⟩ := H
  go_enter Tryz.func162, Tryz.ntmps162
  go_wp2_with (first | ((with_reducible refine gd_ 1 rfl ?_); refine bxE 1 #[.string a0_0, .string a0_1, .string a0_2, .string a0_3] 145 ?_; intro gb428 hg w3 hbox hb; have BK428 := Z0.mk hbox; have GW428 := fE HB hg; have GE428 := fE HB hg; replace HB := fB HB hb; clear hb hbox hg; obtain ⟨hcz4_0, hcz4_1, hcz4_2, hcz4_3, hfz4_0, hfz4_1, hfz4_2, hfz4_3⟩ := b4 BK428))
  go_ret3
  exact finE
 obtain ⟨⟨t429, t430, t431⟩, A5, H⟩ := bnd H
 try dsimp only at H
 simp only [Option.some.injEq, Prod.mk.injEq] at H
 obtain ⟨rfl, rfl, rfl⟩ := H
 go_enter Tryz.func162, Tryz.ntmps162
 go_wp2_with (first | ((with_reducible refine gd_ 1 rfl ?_); refine bxE 1 #[.string a0_0, .string a0_1, .string a0_2, .string a0_3] 145 ?_; intro gb428 hg w6 hbox hb; have BK428 := Z0.mk hbox; have GW428 := fE HB hg; have GE428 := fE HB hg; replace HB := fB HB hb; clear hb hbox hg; obtain ⟨hcz7_0, hcz7_1, hcz7_2, hcz7_3, hfz7_0, hfz7_1, hfz7_2, hfz7_3⟩ := b4 BK428) | ((with_reducible refine gc_ 161 rfl ?_); refine gL 16 Tryz.func161 (rAboth.calls k a0_0 a0_3 a0_1 a0_2 t429 t430 t431 _ ?side1 A5.out) ?_; (case side1 => exact LaidW.below hL bqs); rintro _ w8 ⟨rfl, hb⟩; refine ⟨_, rfl, ?_⟩; replace BK428 := fk BK428 hb; replace HB := fB HB hb; clear hb))
 go_ret3
 exact finE
end Go.Proofs.YtihbebbabjklkaaGreatDoor
namespace Go.Proofs.YtihbebbabjklkaaGreatDoor.PA
set_option linter.unusedVariables false
open Go.RowKit Go.Proofs.WWords Go.Proofs.WLast Go.Proofs.WMore
attribute [local go_sem] max2_int min2_int max_two min_two max_three min_three max_four min_four
set_option linter.unusedSimpArgs false
theorem rAcanonical.calls (a0 : ByteArray) (r : Bool) (w : World) (h : rAcanonical.f a0 = some r) :
  Calls Tryz.prog 152 #[.string a0] w fun e w' => e = .returned (.bool r) ∧ Below w.heap.size w w' := by
 have HB := Z0.mk (Below.refl w.heap.size w)
 have H := h
 clear h
 unfold rAcanonical.f at H
 obtain ⟨t110, A2, H⟩ := bnd H
 obtain rfl := Option.some.inj H
 go_enter Tryz.func152, Tryz.ntmps152
 go_wp2_with (first | ((with_reducible refine gc_ 109 rfl ?_); refine goB (some 4) Tryz.func109 #[.string a0] bq (bICheck.calls a0 t110 _ A2.out) ?_; clear HB; intro w3 HB))
 go_ret
 exact finE
end Go.Proofs.YtihbebbabjklkaaGreatDoor.PA
namespace Go.Proofs.YtihbebbabjklkaaGreatDoor
set_option linter.unusedVariables false
open Go.RowKit Go.Proofs.WWords Go.Proofs.WLast Go.Proofs.WMore
theorem add_off (g o j : Nat) : (⟨g, o, none⟩ : Addr).add j = ⟨g, o + j, none⟩ := by unfold Addr.add; split <;> simp_all
def WR (pre post : List Int) (o cF : Nat) (w : World) (base : Nat) (ok : Nat → Prop) (v : Value) (xs : List Int) : Prop :=
 (∀ k, v.ownBlock = some k → ok k) ∧ pre.length = o ∧ ∃ g cap, v = .slice (some ⟨g, o, none⟩) xs.length cap ∧ xs.length ≤ cap ∧ Kd.R (Kd.int .i64) 3 w base (fun k => k = g) (.slice (some ⟨g, 0, none⟩) (pre ++ xs ++ post).length cF) (pre ++ xs ++ post)
section
variable {pre post xs : List Int} {o cF base n c g cap : Nat} {w w' w1 W : World} {ok ok' ok1 : Nat → Prop} {v : Value} {A : Option Addr}
theorem WR_below (h : WR pre post o cF w base ok v xs) (hb : Below w.heap.size w w1) : WR pre post o cF w1 base ok v xs := by
 obtain ⟨h0, ho, g, cap, hv, hl, hr⟩ := h
 exact ⟨h0, ho, g, cap, hv, hl, Kd.R_below hr hb⟩
theorem WR_alloc (h : WR pre post o cF w base ok v xs) (b : Obj) : WR pre post o cF (w.alloc b) base ok v xs := WR_below h (below_alloc (Below.refl _ _) b)
theorem WR_drew (h : WR pre post o cF w base ok v xs) : WR pre post o cF w.drew base ok v xs := WR_below h (below_drew (Below.refl _ _))
theorem WR_drewN (h : WR pre post o cF w base ok v xs) (m : Nat) : WR pre post o cF (w.drewN m) base ok v xs := WR_below h (pw_below_drewN (Below.refl _ _) m)
theorem WR_slice (h : WR pre post o cF w base ok v xs) : ∃ A c, v = .slice A xs.length c := by
 obtain ⟨_, _, g, cap, hv, _⟩ := h
 exact ⟨_, _, hv⟩
theorem WR_full (h : WR pre post o cF w base ok (.slice (some ⟨g, o, none⟩) n cap) xs) : n = xs.length ∧ n ≤ cap ∧ pre.length = o ∧ ok g ∧ Kd.R (Kd.int .i64) 3 w base (fun k => k = g) (.slice (some ⟨g, 0, none⟩) (pre ++ xs ++ post).length cF) (pre ++ xs ++ post) := by
 obtain ⟨h0, ho, g', cap', hv, hl, hr⟩ := h
 simp only [Value.slice.injEq, Option.some.injEq, Addr.mk.injEq, and_true] at hv
 obtain ⟨rfl, rfl, rfl⟩ := hv
 exact ⟨rfl, hl, ho, h0 _ (by simp [Value.ownBlock]), hr⟩
theorem WR_celln (d : Int) (h : WR pre post o cF W base ok (.slice (some ⟨g, o, none⟩) n cap) xs) (i : Int) (h0 : 0 ≤ i) (hi : i < n) : W.cell? ⟨g, o + i.toNat, none⟩ = some (.int .i64 (rdOf d xs i)) ∧ W.frozen? ⟨g, o + i.toNat, none⟩ = false := by
 obtain ⟨rfl, _, ho, _, hr⟩ := WR_full h
 have hk := Kd.R_celln d hr ((o + i.toNat : Nat) : Int) (by omega) (by simp; omega)
 rw [Int.toNat_natCast] at hk
 refine ⟨?_, hk.2⟩
 rw [hk.1]
 congr 2
 unfold rdOf
 rw [Int.toNat_natCast, List.append_assoc, List.getD_eq_getElem?_getD, List.getD_eq_getElem?_getD, List.getElem?_append_right (by omega), ho, Nat.add_sub_cancel_left, List.getElem?_append_left (by omega)]
theorem WR_reads' (h : WR pre post o cF w base ok (.slice A n c) xs) : n = xs.length ∧ n ≤ c ∧ Kd.C (Kd.int .i64) w A xs.length xs := by
 obtain ⟨A', c', hA⟩ := WR_slice h
 obtain ⟨h0, ho, g, cap, hv, hl, hr⟩ := h
 simp only [Value.slice.injEq] at hv
 obtain ⟨rfl, rfl, rfl⟩ := hv
 have hmax := Kd.C_max (Kd.R_reads' hr).2.2
 refine ⟨rfl, hl, Kd.C_of_reads (d := (0 : Int)) ⟨rfl, by simp at hmax; omega, fun _ => ⟨_, rfl, fun j hj => ?_⟩⟩⟩
 have hk := (WR_celln (ok := fun _ => True) 0 ⟨fun _ _ => trivial, ho, g, _, rfl, hl, hr⟩ (j : Int) (by omega) (by omega)).1
 simp only [Int.toNat_natCast, rdOf] at hk
 rw [add_off]
 exact hk
theorem WR_putg (h : WR pre post o cF W base ok (.slice (some ⟨g, o, none⟩) n cap) xs) (i : Int) (hi : i.toNat < xs.length) (x : Int) : WR pre post o cF (W.setCell ⟨g, o + i.toNat, none⟩ (.int .i64 x)) base ok (.slice (some ⟨g, o, none⟩) n cap) (xs.set i.toNat x) ∧ W.grownBy (W.setCell ⟨g, o + i.toNat, none⟩ (.int .i64 x)) (some g) := by
 obtain ⟨hn, hl, ho, hok, hr⟩ := WR_full h
 have hk := Kd.R_putg hr ((o + i.toNat : Nat) : Int) x
 rw [Int.toNat_natCast] at hk
 have e : (pre ++ xs ++ post).set (o + i.toNat) x = pre ++ xs.set i.toNat x ++ post := by
  rw [List.append_assoc, List.set_append_right _ _ (by omega), ho, Nat.add_sub_cancel_left, List.set_append_left _ _ (by omega), List.append_assoc]
 rw [e] at hk
 refine ⟨⟨h.1, ho, g, cap, by rw [List.length_set, hn], by rw [List.length_set]; omega, ?_⟩, hk.2⟩
 have e2 : (pre ++ xs.set i.toNat x ++ post).length = (pre ++ xs ++ post).length := by simp
 rw [e2]
 exact hk.1
end
end Go.Proofs.YtihbebbabjklkaaGreatDoor
namespace Go.Proofs.YtihbebbabjklkaaGreatDoor.PA
set_option linter.unusedVariables false
set_option linter.unusedSimpArgs false
open Go.RowKit Go.Proofs.WWords Go.Proofs.WLast Go.Proofs.WMore
theorem gr_t {A B C : World} {r : Option Nat} (h : A.grownBy B r) (k : B.grownBy C r) : A.grownBy C r :=
 ⟨k.os.trans h.os, k.tape.trans h.tape, k.output.trans h.output, Nat.le_trans h.size k.size, fun i hi hn => (k.block i (Nat.lt_of_lt_of_le hi h.size) hn).trans (h.block i hi hn)⟩
theorem gr_b {A B C : World} {r : Option Nat} (h : A.grownBy B r) (hb : Below B.heap.size B C) : A.grownBy C r := gr_t h (grown_of_below hb r)
theorem gq {w W0 W : World} {r : Option Nat} (h : Z0 (w.grownBy W0 r)) (s : Below W0.heap.size W0 W := by (with_reducible repeat (first | exact Below.refl _ _ | apply below_alloc | apply pw_below_drewN | apply below_drew1))) : Z0 (w.grownBy W r) := ⟨gr_b h.out s⟩
section
variable {pre post xs : List Int} {oW cF base n g cap : Nat} {w W0 W : World} {ok : Nat → Prop}
theorem wq {v : Value} (h : Z0 (WR pre post oW cF W0 base ok v xs)) (s : WR pre post oW cF W0 base ok v xs → WR pre post oW cF W base ok v xs := by intro h_; (with_reducible repeat (first | apply WR_alloc | apply WR_drewN | apply WR_drew)); exact h_) : Z0 (WR pre post oW cF W base ok v xs) := ⟨s h.out⟩
theorem winF (HO : Z0 (WR pre post oW cF w base ok (.slice (some ⟨g, oW, none⟩) n cap) xs)) (i : Int) (p : 0 ≤ i) (q : i < n) :
  w.cell? ⟨g, oW + i.toNat, none⟩ = some (.int .i64 (rd xs i)) ∧ w.frozen? ⟨g, oW + i.toNat, none⟩ = false ∧ (0 ≤ i) = True ∧ (i < n) = True :=
 ⟨(WR_celln 0 HO.out i p q).1, (WR_celln 0 HO.out i p q).2, eq_true p, eq_true q⟩
theorem stW {ops : Array Oper} {Q : Exit → Act → World → Prop} {rest : List Oper} {o : Oper} {a : Act} {t : TypeId} {p : Tmp} {vo : Operand} (i x : Int) (HO : Z0 (WR pre post oW cF W0 base ok (.slice (some ⟨g, oW, none⟩) n cap) xs)) (HG : Z0 (w.grownBy W0 (some g))) (hop : o.op = .store t (.tmp p) vo)
  (K : ∀ w', Z0 (WR pre post oW cF w' base ok (.slice (some ⟨g, oW, none⟩) n cap) (xs.set i.toNat x)) → Z0 (w.grownBy w' (some g)) → wpList Tryz.prog ops Q rest a w')
  (hi : (0 ≤ i) = True := by assumption) (hj : (i < n) = True := by assumption) (hO : Z0 (WR pre post oW cF W base ok (.slice (some ⟨g, oW, none⟩) n cap) xs) := by exact wq HO) (hG : Z0 (w.grownBy W (some g)) := by exact gq HG) (hN : o.dst = none := by rfl) (hg : o.guard = none := by rfl)
  (hr : (execOp a.eval o).run Tryz.prog W = .ok .skip (W.setCell ⟨g, oW + i.toNat, none⟩ (.int .i64 x)) := by first | (go_simp; done) | (go_simp; rfl)) : wpList Tryz.prog ops Q (o :: rest) a W := by
  refine store_event hg hop hN hr fun w' e => ?_
  subst e
  have h1 := of_eq_true hi
  have h2 := of_eq_true hj
  have h := WR_putg hO.out i (by have := (WR_reads' hO.out).1; omega) x
  exact K _ ⟨h.1⟩ ⟨gr_t hG.out h.2⟩
end
section
variable {pre post : List Int} {oW cF base g co c1 : Nat} {A1 : Option Addr}
theorem subC (k : Nat) (l0 l1 : List Int) (a2 : Int) (r1 : Bool) (r2 : List Int) (w : World) (HO : Z0 (WR pre post oW cF w base (fun _ => True) (.slice (some ⟨g, oW, none⟩) l0.length co) l0)) (HV : Z0 (∀ W', w.grownBy W' (some g) → Kd.C (Kd.int .i64) W' A1 l1.length l1)) (h : bIsubtract.f k l0 l1 a2 = some (r1, r2)) :
  Calls Tryz.prog 191 #[.slice (some ⟨g, oW, none⟩) l0.length co, .slice A1 l1.length c1, .int .i64 a2] w fun e w' => e = .returned (.bool r1) ∧ Z0 (WR pre post oW cF w' base (fun _ => True) (.slice (some ⟨g, oW, none⟩) l0.length co) r2) ∧ w.grownBy w' (some g) := by
 unfold bIsubtract.f at h
 have H' := Z0.mk h
 clear h
 have HG := Z0.mk (World.grownBy.refl w (some g))
 go_enter Tryz.func191, Tryz.ntmps191
 go_wp2
 go_loopg [7, 12] k (fun kq v7 v12 w' => ∃ (x : List Int) (x7 i : Int), v7 = .int .i64 x7 ∧ v12 = .int .i64 i ∧ Z0 (bIsubtract.l0 kq x l1 a2 x7 (l0.length : Int) i = some (r1, r2)) ∧ kq ≤ k ∧ Z0 (WR pre post oW cF w' base (fun _ => True) (.slice (some ⟨g, oW, none⟩) l0.length co) x) ∧ Z0 (w.grownBy w' (some g)))
 case atStart => exact ⟨l0, 0, 0, rfl, rfl, H', Nat.le_refl _, wq HO, gq HG⟩
 clear H' HO HG
 obtain ⟨x, x7, i, rfl, rfl, H, hk, HO, HG⟩ := hrel
 have hl := (WR_reads' HO.out).1
 cases gk with
 | zero => cases H.out
 | succ k1 =>
 replace H := H.out
 unfold bIsubtract.l0 at H
 simp only [← hl] at H
 clear hl
 rcases jd H with ⟨-, c1, H⟩ | ⟨-, c1, H⟩
 · repeat' (first | ((with_reducible have Z := gd H); obtain ⟨-, _, H⟩ := Z) | ((with_reducible have Z := jd H); rcases Z with ⟨-, _, H⟩ | ⟨-, _, H⟩))
   all_goals (
    obtain ⟨c3, c4, c5, c6⟩ := winF HO i od od
    (try (have Z := atI (HV.out _ HG.out) i; obtain ⟨a1, rfl, r4, r5, r6⟩ := Z))
    have H' := Z0.mk H
    clear H
    go_wp2_with ((with_reducible refine gate_store rfl ?_); refine stW i _ HO HG rfl ?_; intro w2 HO' HG')
    go_roundg k1
    case measure => omega
    case rel => exact ⟨_, _, _, rfl, rfl, H', by omega, HO', HG'⟩)
 · cases H
   go_wp2
   go_ret
   exact ⟨rfl, HO, HG.out⟩
instance : Ctr 191 (type_of% @subC) := ⟨@subC, _, Tryz.func191, by kernel_rfl, rfl⟩
theorem estC (k : Nat) (l0 l1 : List Int) (r1 : Int) (r2 : List Int) (w : World) (HO : Z0 (WR pre post oW cF w base (fun _ => True) (.slice (some ⟨g, oW, none⟩) l0.length co) l0)) (HV : Z0 (∀ W', w.grownBy W' (some g) → Kd.C (Kd.int .i64) W' A1 l1.length l1)) (h : bIestimate.f k l0 l1 = some (r1, r2)) :
  Calls Tryz.prog 145 #[.slice (some ⟨g, oW, none⟩) l0.length co, .slice A1 l1.length c1] w fun e w' => e = .returned (.int .i64 r1) ∧ Z0 (WR pre post oW cF w' base (fun _ => True) (.slice (some ⟨g, oW, none⟩) l0.length co) r2) ∧ w.grownBy w' (some g) := by
 unfold bIestimate.f at h
 have hj := i64_w ((l1.length : Int) - 1)
 generalize hj2 : wrap64 ((l1.length : Int) - 1) = j at h hj
 obtain ⟨-, c1, h⟩ := gd h
 obtain ⟨-, c2, h⟩ := gd h
 obtain ⟨-, c3, h⟩ := gd h
 obtain ⟨-, c4, h⟩ := gd h
 obtain ⟨-, c5, h⟩ := gd h
 obtain ⟨c8, c6, c7, h⟩ := fQ h
 generalize hT : wrap64 (Int.tdiv (wrap64 (wrap64 (rd l0 (l1.length : Int) * 1000000000) + rd l0 j)) (rd l1 j)) = T at h
 have hq : min T 999999999 = mn T 999999999 := by unfold mn; rw [Int.min_def]; split <;> split <;> omega
 generalize mn T 999999999 = q at h hq
 have HG := Z0.mk (World.grownBy.refl w (some g))
 obtain ⟨d1, d2, d3, d4⟩ := winF HO (l1.length : Int) od od
 obtain ⟨d5, d6, d7, d8⟩ := winF HO j od od
 obtain ⟨a1, rfl, d9, e1, e2⟩ := atI (HV.out _ HG.out) j
 rw [Int.toNat_natCast] at d1 d2
 have H' := Z0.mk h
 clear h
 go_enter Tryz.func145, Tryz.ntmps145
 go_upto_block 0 with (fail)
 repeat (go_quiet (fail); go_upto_block 0 with (fail))
 go_cut [7] (fun v7 wc => ∃ (kq : Nat) (x7 : Int), v7 = .int .i64 x7 ∧ Z0 (bIestimate.j1 kq l0 l1 (l1.length : Int) x7 = some (r1, r2)) ∧ kq ≤ k ∧ Z0 (WR pre post oW cF wc base (fun _ => True) (.slice (some ⟨g, oW, none⟩) l0.length co) l0) ∧ Z0 (w.grownBy wc (some g)))
 case first =>
  go_wp2
  repeat (go_quiet (fail); try go_wp2)
  go_loopg [7, 8] k (fun kq v7 v8 w' => ∃ x7 x8 : Int, v7 = .int .i64 x7 ∧ v8 = .int .i64 x8 ∧ Z0 (bIestimate.l0 kq l0 l1 (l1.length : Int) x7 x8 = some (r1, r2)) ∧ kq ≤ k ∧ Z0 (WR pre post oW cF w' base (fun _ => True) (.slice (some ⟨g, oW, none⟩) l0.length co) l0) ∧ Z0 (w.grownBy w' (some g)))
  case atStart => exact ⟨_, _, by first | rfl | (simp only [hT, hq]; done), by first | rfl | (simp only [hT, hq]; done), H', Nat.le_refl _, wq HO, gq HG⟩
  clear H' HO HG d1 d2 d5 d6 d9
  obtain ⟨x7, x8, rfl, rfl, H, hk, HO, HG⟩ := hrel
  cases gk with
  | zero => cases H.out
  | succ k1 =>
  replace H := H.out
  unfold bIestimate.l0 at H
  obtain ⟨d5, d6, d7, d8⟩ := winF HO j od od
  obtain ⟨_, e, d9, e1, e2⟩ := atI (HV.out _ HG.out) j
  cases e
  rcases jd H with ⟨-, f1, H⟩ | ⟨-, f1, H⟩
  · have hm := i64_w ((l1.length : Int) - 2)
    generalize hm2 : wrap64 ((l1.length : Int) - 2) = m at H hm
    obtain ⟨-, f2, H⟩ := gd H
    obtain ⟨-, f3, H⟩ := gd H
    obtain ⟨-, f4, H⟩ := gd H
    obtain ⟨d1, d2, d3, d4⟩ := winF HO m od od
    obtain ⟨_, e, d10, e3, e4⟩ := atI (HV.out _ HG.out) m
    cases e
    rw [hj2] at H
    rcases jg H with ⟨-, f5, H⟩ | ⟨-, f5, H⟩
    · obtain ⟨-, f6, H⟩ := gd H
      obtain ⟨-, f7, H⟩ := gd H
      have H' := Z0.mk H
      clear H
      go_wp2
      repeat (go_quiet (fail); try go_wp2)
      go_roundg k1
      case measure => omega
      case rel => exact ⟨_, _, rfl, rfl, H', by omega, wq HO, gq HG⟩
    · have H' := Z0.mk H
      clear H
      go_wp2
      repeat (go_quiet (fail); try go_wp2)
      go_meet
      case rel => exact ⟨_, x7, rfl, H', by omega, wq HO, gq HG⟩
  · have H' := Z0.mk H
    clear H
    go_wp2
    repeat (go_quiet (fail); try go_wp2)
    go_meet
    case rel => exact ⟨_, x7, rfl, H', by omega, wq HO, gq HG⟩
 case rest =>
  clear H' HO HG d1 d2 d5 d6 d9
  obtain ⟨kq, x7, rfl, H, hk, HO, HG⟩ := hcut
  cases kq with
  | zero => cases H.out
  | succ k1 =>
  replace H := H.out
  unfold bIestimate.j1 at H
  obtain ⟨⟨b, l2⟩, A2, H⟩ := bnd H
  have HV2 := Z0.mk (fun W' h' => HV.out W' (gr_t HG.out h') : ∀ W', wc.grownBy W' (some g) → Kd.C (Kd.int .i64) W' (some a1) l1.length l1)
  dsimp only at H
  cases b
  · rw [if_neg (by decide)] at H
    have H' := Z0.mk H
    clear H
    go_wp2_with (go_at_call 191; refine (subC k1 l0 l1 x7 false l2 _ HO HV2 A2.out).mono ?_; rintro _ w2 ⟨rfl, HO', hg⟩; have HG' := Z0.mk (gr_t HG.out hg))
    go_loopg [9, 79] k1 (fun kq v9 v79 w' => ∃ (x : List Int) (x9 i : Int), v9 = .int .i64 x9 ∧ v79 = .int .i64 i ∧ Z0 (bIestimate.l1 kq x l1 (l1.length : Int) (wrap64 (x7 - 1)) x9 (l0.length : Int) i = some (r1, r2)) ∧ kq ≤ k1 ∧ Z0 (WR pre post oW cF w' base (fun _ => True) (.slice (some ⟨g, oW, none⟩) l0.length co) x) ∧ Z0 (w.grownBy w' (some g)))
    case atStart => exact ⟨l2, 0, 0, rfl, rfl, H', Nat.le_refl _, wq HO', gq HG'⟩
    clear H' HO HG HO' HG' HV2
    obtain ⟨x, x9, i, rfl, rfl, H, hk1, HO, HG⟩ := hrel
    have hl := (WR_reads' HO.out).1
    cases gk with
    | zero => cases H.out
    | succ k2 =>
    replace H := H.out
    unfold bIestimate.l1 at H
    simp only [← hl] at H
    clear hl
    rcases jd H with ⟨-, f1, H⟩ | ⟨-, f1, H⟩
    · repeat' (first | ((with_reducible have Z := gd H); obtain ⟨-, _, H⟩ := Z) | ((with_reducible have Z := jd H); rcases Z with ⟨-, _, H⟩ | ⟨-, _, H⟩))
      all_goals (
       obtain ⟨c3, c4, c5, c6⟩ := winF HO i od od
       (try (have Z := atI (HV.out _ HG.out) i; obtain ⟨_, e, r4, r5, r6⟩ := Z; cases e))
       have H' := Z0.mk H
       clear H
       go_wp2_with ((with_reducible refine gate_store rfl ?_); refine stW i _ HO HG rfl ?_; intro w3 HO' HG')
       go_roundg k2
       case measure => omega
       case rel => exact ⟨_, _, _, rfl, rfl, H', by omega, HO', HG'⟩)
    · cases H
      go_wp2
      repeat (go_quiet (fail); try go_wp2)
      go_ret
      exact ⟨rfl, wq HO, (gq HG).out⟩
  · rw [if_pos rfl] at H
    cases H
    go_wp2_with (go_at_call 191; refine (subC k1 l0 l1 r1 true r2 _ HO HV2 A2.out).mono ?_; rintro _ w2 ⟨rfl, HO', hg⟩; have HG' := Z0.mk (gr_t HG.out hg))
    go_ret
    exact ⟨rfl, wq HO', (gq HG').out⟩
end
theorem estW {base g cf c1 : Nat} {A1 : Option Addr} (k : Nat) (l0 l1 : List Int) (j : Int) (m : Nat) (hm : m = l1.length + 1) (r1 : Int) (r2 : List Int) (w : World) (HO : Z0 (Kd.R (Kd.int .i64) 3 w base (fun _ => True) (.slice (some ⟨g, 0, none⟩) l0.length cf) l0)) (HV : Z0 (∀ W', w.grownBy W' (some g) → Kd.C (Kd.int .i64) W' A1 l1.length l1)) (h : bIestimateW.f k l0 j l1 = some (r1, r2)) :
  Calls Tryz.prog 145 #[.slice (some ⟨g, j.toNat, none⟩) m (cf - j.toNat), .slice A1 l1.length c1] w fun e w' => e = .returned (.int .i64 r1) ∧ Z0 (Kd.R (Kd.int .i64) 3 w' base (fun _ => True) (.slice (some ⟨g, 0, none⟩) l0.length cf) r2) ∧ w.grownBy w' (some g) := by
 subst hm
 unfold bIestimateW.f at h
 obtain ⟨hc, h⟩ := gn h
 obtain ⟨⟨q, r⟩, hq, h⟩ := bnd h
 cases h
 have hm : ((l0.drop j.toNat).take (l1.length + 1)).length = l1.length + 1 := by rw [List.length_take, List.length_drop]; omega
 have hsp : l0.take j.toNat ++ (l0.drop j.toNat).take (l1.length + 1) ++ l0.drop (j.toNat + (l1.length + 1)) = l0 := by
  rw [List.append_assoc, ← List.drop_drop, List.take_append_drop, List.take_append_drop]
 have hcap := (Kd.R_reads' HO.out).2.1
 have hW : WR (l0.take j.toNat) (l0.drop (j.toNat + (l1.length + 1))) j.toNat cf w base (fun _ => True) (.slice (some ⟨g, j.toNat, none⟩) ((l0.drop j.toNat).take (l1.length + 1)).length (cf - j.toNat)) ((l0.drop j.toNat).take (l1.length + 1)) := by
  refine ⟨fun _ _ => trivial, by rw [List.length_take]; omega, g, cf - j.toNat, rfl, by omega, ?_⟩
  rw [hsp]
  exact Kd.R_mono (Kd.R_tight rfl HO.out) (fun k hk => by simpa [Value.ownBlock] using hk)
 have hC := estC (c1 := c1) k _ l1 q r w ⟨hW⟩ HV hq.out
 rw [hm] at hC
 refine hC.mono ?_
 rintro e w' ⟨rfl, hw, hg⟩
 obtain ⟨hn, _, _, _, hR⟩ := WR_full hw.out
 have hlen : (l0.take j.toNat ++ r ++ l0.drop (j.toNat + (l1.length + 1))).length = l0.length := by simp; omega
 rw [hlen] at hR
 exact ⟨rfl, ⟨Kd.R_mono hR (fun _ _ => trivial)⟩, hg⟩
end Go.Proofs.YtihbebbabjklkaaGreatDoor.PA
