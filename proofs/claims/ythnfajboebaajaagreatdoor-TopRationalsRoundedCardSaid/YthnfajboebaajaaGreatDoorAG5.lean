import Derived.Test.YthnfajboebaajaaGreatDoorAD
import Derived.Test.YthnfajboebaajaaGreatDoorAG1
import Derived.Test.YthnfajboebaajaaGreatDoorAG2
import Derived.Test.YthnfajboebaajaaGreatDoorAG4
import Derived.Test.YthnfajboebaajaaGreatDoorAW
set_option maxHeartbeats 8000000
set_option maxRecDepth 100000
set_option linter.unusedVariables false
namespace Go.Proofs.YthnfajboebaajaaGreatDoor
set_option linter.unusedVariables false
set_option linter.unusedSimpArgs false
open Go.RowKit Go.Shelf Go.Proofs.WWords
attribute [local go_sem] Oper.semAt_some
theorem fld_snoc (d : Int) {zs : List Int} (pre : List (BkT zs)) (x : BkT zs) : fld d (pre ++ [x]) = stp d (fld d pre) x.1.1 x.1.2 := by simp [fld]
theorem fld_length (d : Int) {zs : List Int} (pre : List (BkT zs)) : (fld d pre).1.length = zs.length := by
 suffices h : ∀ (p : List Int × Int), p.1.length = zs.length → (pre.foldl (fun p x => stp d p x.1.1 x.1.2) p).1.length = zs.length from h _ (by simp)
 induction pre with
 | nil => intro p h; exact h
 | cons x t ih => intro p h; exact ih _ (by simp [stp, h])
theorem fld_range {d : Int} (h0 : 0 < d) {zs : List Int} (hz : Sv.Digs Sv.LB zs) (pre : List (BkT zs)) : 0 ≤ (fld d pre).2 ∧ (fld d pre).2 < d := by
 suffices h : ∀ (p : List Int × Int), 0 ≤ p.2 ∧ p.2 < d → 0 ≤ (pre.foldl (fun p x => stp d p x.1.1 x.1.2) p).2 ∧ (pre.foldl (fun p x => stp d p x.1.1 x.1.2) p).2 < d from h _ ⟨by simp, by simpa using h0⟩
 induction pre with
 | nil => intro p h; exact h
 | cons x t ih =>
  intro p h
  refine ih _ ?_
  have hv := rd_range (by decide) hz x.1.1
  rw [← x.2.2.2] at hv
  have hn : 0 ≤ p.2 * 1000000000 + x.1.2 := by omega
  simp only [stp]
  exact ⟨Int.tmod_nonneg _ hn, Int.tmod_lt_of_pos _ h0⟩
def ShI (w : World) (s : Nat) (d : Int) {zs : List Int} (pre : List (BkT zs)) (W : World) : Prop :=
 W.ownsRow s 3 1 (.slice (some ⟨s + 1, 0, none⟩) zs.length zs.length) zs.length ((fld d pre).1.map encZ) ∧ Boxed W s 3 (.int .i64 d) ∧ Boxed W (s + 2) 86 (.slice (some ⟨s + 1, 0, none⟩) zs.length zs.length) ∧ Boxed W (s + 3) 3 (.int .i64 (fld d pre).2)
theorem owns_own {β : Type} (base e size : Nat) (v : β → Value) (n : β → Nat) (xs : β → List Value) : Own (fun (s : β) W => W.ownsRow base e size (v s) (n s) (xs s)) := fun s A B row h2 hg hr => by
 cases row with
 | none =>
  refine h2.kept hg ?_
  cases hv : (v s).ownBlock with
  | none => exact .inl rfl
  | some k => exact .inr (by simp)
 | some r =>
  obtain ⟨o, ho, hc⟩ := hr r rfl
  exact h2.kept hg (ownsRow_ne_a h2 ho (fun cur e => by rw [e] at hc; cases hc))
theorem ShI.own (w : World) (s : Nat) (d : Int) {zs : List Int} : Own (ShI w s d (zs := zs)) := fun pre A B row h hg hr =>
 ⟨owns_own s 3 1 (fun _ => _) (fun _ => _) (fun (pre : List (BkT zs)) => (fld d pre).1.map encZ) pre A B row h.1 hg hr, boxed_own _ _ (fun _ => _) pre A B row h.2.1 hg hr, boxed_own _ _ (fun _ => _) pre A B row h.2.2.1 hg hr, boxed_own _ _ (fun (pre : List (BkT zs)) => .int .i64 (fld d pre).2) pre A B row h.2.2.2 hg hr⟩
theorem makeIn {F : Fence} {n : Nat} (w : World) {ops : Array Oper} {rest : List Oper} {o : Oper} {a : Act} {Q : Exit → Act → World → Prop}
  (hg : o.guard = none) (l c : Operand) (hop : o.op = Op.makeSlice 86 l c) (m : Nat) (hl : a.eval l = .int .i64 m) (hc : a.eval c = .int .i64 m) (hm : m ≤ 17592186044416)
  (hK : wpListIn F n Tryz.prog ops Q rest (a.put o.dst (.slice (some ⟨w.heap.size, 0, none⟩) m m)) (w.alloc (.cells (madeCells #[.int .i64 0] m) 3))) :
  wpListIn F n Tryz.prog ops Q (o :: rest) a w := by
 refine wpListIn_plain hg fun K hK' => ?_
 have hrun := run_make_row' (P := Tryz.prog) 86 3 (.int .i64 0) 8 Tryz.underlying86 (by kernel_rfl) rfl .i64 .i64 m (by omega) (by omega) w
 unfold Oper.wpIn
 refine ⟨?_, ?_⟩
 ·simp [Oper.about, hop]
 rw [Oper.semAt_plain F _ _ (by rw [hop]; intro c hc'; cases hc')]
 simp [execOp, hop, hl, hc, hrun, Result.andThen]
 exact hK' _ _ hK
theorem short_in (n : Nat) (hn : 3 ≤ n) (A0 : Option Addr) (c0 : Nat) (l0 : List Int) (d : Int) (k : Nat) (t : List Int) (w : World)
  (hr0 : Kd.C (Kd.int .i64) w A0 l0.length l0) (hd0 : 0 < d) (hd1 : d < 1000000000) (hz : Sv.Digs Sv.LB l0) (hlen : l0.length ≤ 17592186044416)
  (ht : PA.bItrim.f k (fld d (bk l0 l0.length)).1 = some t) :
  CallsIn Fence.wide n Tryz.prog 146 #[.slice A0 l0.length c0, .int .i64 d] w fun e w' => ∃ v0_ : Value, e = .returned (.tuple #[v0_, .int .i64 (fld d (bk l0 l0.length)).2]) ∧ Kd.R (Kd.int .i64) 3 w' w.heap.size (fun _ => True) v0_ t ∧ Below w.heap.size w w' := by
 have hf128 : Fence.wide.fn 128 := trivial
 have hf147 : Fence.wide.fn 147 := trivial
 have h1' : 1 ≤ n := by omega
 refine callsIn_of_wp_marks Tryz.func146 rfl trivial ?_ rfl
 simp only [Tryz.ntmps146, List.size_toArray, List.length_cons, List.length_nil, Nat.reduceAdd, Nat.reduceSub, Array.replicate_succ, Array.replicate_zero, List.push_toArray, List.append_toArray, List.nil_append, List.cons_append]
 gi_wp2_with (first | (gi_at_make; refine makeIn _ rfl _ _ rfl l0.length rfl rfl hlen ?_) | (gi_at_call 128; refine (back_in Fence.wide (n - 1) hf128 rfl _ _ _ _).mono ?_; rintro e w' ⟨rfl, rfl⟩) | gi_in)
 obtain ⟨s, hs⟩ : ∃ s, w.heap.size = s := ⟨_, rfl⟩
 simp only [hs]
 obtain ⟨W0, hW0⟩ : ∃ W0, (((((w.alloc (.cells #[.int .i64 d] 3)).alloc (.cells (madeCells #[.int .i64 0] l0.length) 3)).alloc (.cells #[.slice (some ⟨s + 1, 0, none⟩) l0.length l0.length] 86)).alloc (.cells #[.int .i64 0] 3)).alloc (.cells #[.slice A0 l0.length c0] 86)) = W0 := ⟨_, rfl⟩
 have hB0 : Below s w W0 := by
  rw [← hW0]
  refine ((((((Below.refl _ w).alloc ?_ _).alloc ?_ _).alloc ?_ _).alloc ?_ _).alloc ?_ _) <;> first | omega | (simp; omega)
 have hs0 : W0.heap.size = s + 5 := by rw [← hW0]; simp [hs]
 have e1 : (w.alloc (.cells #[.int .i64 d] 3)).heap.size = s + 1 := by simp [hs]
 have e2 : ((w.alloc (.cells #[.int .i64 d] 3)).alloc (.cells (madeCells #[.int .i64 0] l0.length) 3)).heap.size = s + 2 := by simp [hs]
 have e3 : (((w.alloc (.cells #[.int .i64 d] 3)).alloc (.cells (madeCells #[.int .i64 0] l0.length) 3)).alloc (.cells #[.slice (some ⟨s + 1, 0, none⟩) l0.length l0.length] 86)).heap.size = s + 3 := by simp [hs]
 have e4 : ((((w.alloc (.cells #[.int .i64 d] 3)).alloc (.cells (madeCells #[.int .i64 0] l0.length) 3)).alloc (.cells #[.slice (some ⟨s + 1, 0, none⟩) l0.length l0.length] 86)).alloc (.cells #[.int .i64 0] 3)).heap.size = s + 4 := by simp [hs]
 have hI0 : ShI w s d ([] : List (BkT l0)) W0 := by
  rw [← hW0]
  refine ⟨?_, ?_, ?_, ?_⟩
  ·refine World.ownsRow.alloc (World.ownsRow.alloc (World.ownsRow.alloc ?_ _) _) _
   have h := World.ownsRow_lit (base := s) (e := 3) (size := 1) (w.alloc (.cells #[.int .i64 d] 3)) (madeCells #[.int .i64 0] l0.length) l0.length (by rw [e1]; omega) (by simp only [maxLen]; omega) (by simp [madeCells])
   rw [e1] at h
   have hm : (madeCells #[.int .i64 0] l0.length).toList = (fld d ([] : List (BkT l0))).1.map encZ := by
    apply List.ext_getElem
    ·simp [fld, madeCells]
    intro i h1 h2
    simp [fld, madeCells, Nat.mod_one]
   rw [← hm]
   exact h
  ·have := ((((Boxed.new w 3 (.int .i64 d)).alloc (.cells (madeCells #[.int .i64 0] l0.length) 3)).alloc (.cells #[.slice (some ⟨s + 1, 0, none⟩) l0.length l0.length] 86)).alloc (.cells #[.int .i64 0] 3)).alloc (.cells #[.slice A0 l0.length c0] 86)
   rw [hs] at this
   exact this
  ·have := ((Boxed.new ((w.alloc (.cells #[.int .i64 d] 3)).alloc (.cells (madeCells #[.int .i64 0] l0.length) 3)) 86 (.slice (some ⟨s + 1, 0, none⟩) l0.length l0.length)).alloc (.cells #[.int .i64 0] 3)).alloc (.cells #[.slice A0 l0.length c0] 86)
   rw [e2] at this
   exact this
  have := (Boxed.new (((w.alloc (.cells #[.int .i64 d] 3)).alloc (.cells (madeCells #[.int .i64 0] l0.length) 3)).alloc (.cells #[.slice (some ⟨s + 1, 0, none⟩) l0.length l0.length] 86)) 3 (.int .i64 0)).alloc (.cells #[.slice A0 l0.length c0] 86)
  rw [e3] at this
  exact this
 have hbx : Boxed W0 (s + 4) 86 (.slice A0 l0.length c0) := by
  have := Boxed.new ((((w.alloc (.cells #[.int .i64 d] 3)).alloc (.cells (madeCells #[.int .i64 0] l0.length) 3)).alloc (.cells #[.slice (some ⟨s + 1, 0, none⟩) l0.length l0.length] 86)).alloc (.cells #[.int .i64 0] 3)) 86 (.slice A0 l0.length c0)
  rw [e4, hW0] at this
  exact this
 rw [hW0]
 clear hW0 e1 e2 e3 e4
 have mixed : Tryz.prog.follows .mixedOrders = true := by kernel_rfl
 refine wpIn_rangeFunc_ownF rfl h1' (gf := 167) (lb := #[.pointer (some ⟨s + 1 + 1 + 1 + 1, 0, none⟩)]) rfl trivial (enters_of Tryz.func167 (by kernel_rfl) rfl)
  (back_stops Fence.wide (n - 1) trivial rfl (by omega) (s + 4) s A0 c0 l0 (by omega) W0 hbx (by omega) (fun W' hb => Kd.C_below hr0 (by rw [hs]; exact hB0.trans hb))) kb_t (kb_b (by omega) (by omega)) (Below.refl _ _) (fun _ => rfl)
  (fun pre W => ShI w s d pre W ∧ Below s w W) (fun c pre W => False)
  (OwnFrom.and (Own.from (ShI.own w s d) _) (ownFrom_below (by omega) (by omega)))
  (fun c s A B row hs hg hr => hs) ⟨hI0, hB0⟩
  ?act1 ?assign ?body ?done ?stop
 case assign =>
  intro l x W K hK
  simp only [enc2]
  gi_wp2
  exact hK
 case body =>
  rintro l pre x W ⟨⟨hrow, hbd, hbs, hbr⟩, hB⟩ _
  have hfr := fld_range hd0 hz pre
  have hfl := fld_length d pre
  have hv := rd_range (by decide) hz x.1.1
  rw [← x.2.2.2] at hv
  have hx0 := x.2.1
  have hx1 := x.2.2.1
  have hsn := fld_snoc d pre x
  obtain ⟨⟨i, v⟩, hx⟩ := x
  simp only [stp] at hv hx0 hx1 hsn
  obtain ⟨r, hr⟩ : ∃ r, (fld d pre).2 = r := ⟨_, rfl⟩
  obtain ⟨o, ho⟩ : ∃ o, (fld d pre).1 = o := ⟨_, rfl⟩
  rw [hr] at hfr hsn hbr
  rw [ho] at hrow hfl hsn
  have hLB : Sv.LB = 1000000000 := rfl
  rw [hLB] at hv
  have hcd := hbd.cell
  have hcs := hbs.cell
  have hcr := hbr.cell
  have hfr' := hbr.frozen
  have hci : W.cell? ⟨s + 1, i.toNat, none⟩ = some (.int .i64 (rd o i)) := by
   rw [hrow.cellAt i.toNat (by omega), List.getElem?_map]
   have hil : i.toNat < o.length := by omega
   simp [rd, List.getElem?_eq_getElem hil, List.getD_eq_getElem?_getD]
  have hcf := hrow.frozenAt i.toNat
  have hv0 := hv.1
  have hv1 := hv.2
  have hr0' := hfr.1
  have hr1' : r < 1000000000 := by omega
  have hdne : d ≠ 0 := by omega
  have HX := Lib.hid hsn
  have HF := Lib.hid hfl
  have HR := Lib.hid hr
  have HO := Lib.hid ho
  clear hsn hfl hr ho hfr hv hLB
  gi_wp2
  obtain ⟨z, hz'⟩ : ∃ z, r * 1000000000 + v = z := ⟨_, rfl⟩
  rw [hz']
  obtain ⟨W1, hW1⟩ : ∃ W1, W.setCell ⟨s + 3, 0, none⟩ (.int .i64 z) = W1 := ⟨_, rfl⟩
  simp only [hW1]
  have hz0 : 0 ≤ z := by omega
  have hz1 : z < 1000000000000000000 := by omega
  have hrow1 : W1.ownsRow s 3 1 (.slice (some ⟨s + 1, 0, none⟩) l0.length l0.length) l0.length (o.map encZ) := by
   rw [← hW1]; exact hrow.kept (grownBy_setCell0_a W (s + 3) (.int .i64 z)) (.inr (by simp [Value.ownBlock]))
  have hbd1 : Boxed W1 s 3 (.int .i64 d) := by rw [← hW1]; exact hbd.kept (grownBy_setCell0_a W (s + 3) (.int .i64 z)) (by simp)
  have hbs1 : Boxed W1 (s + 2) 86 (.slice (some ⟨s + 1, 0, none⟩) l0.length l0.length) := by rw [← hW1]; exact hbs.kept (grownBy_setCell0_a W (s + 3) (.int .i64 z)) (by simp)
  have hcd1 := hbd1.cell
  have hcs1 := hbs1.cell
  have hko : KeepsOthers W W1 := by rw [← hW1]; exact KeepsOthers.setCell _ _ _
  have hkb : KB s (s + 4) W W1 := by rw [← hW1]; exact (KB.refl _ _ W).setCell (p := ⟨s + 3, 0, none⟩) (by simp) (by simp) _
  have hbB : Below s w W1 := hB.trans hkb.1
  have hbr1 : Boxed W1 (s + 3) 3 (.int .i64 z) := by rw [← hW1]; exact hbr.set _
  have hcr1 := hbr1.cell
  have hfr1 := hbr1.frozen
  have hci1 : W1.cell? ⟨s + 1, i.toNat, none⟩ = some (.int .i64 (rd o i)) := by
   have hil : i.toNat < o.length := by have := HF.out; omega
   rw [hrow1.cellAt i.toNat (by have := HF.out; omega), List.getElem?_map]
   simp [rd, List.getElem?_eq_getElem hil, List.getD_eq_getElem?_getD]
  have hcf1 := hrow1.frozenAt i.toNat
  clear hcd hcs hcr hfr' hci hcf hrow hbd hbs hbr
  trace_state
  have hlo : ¬ LetsOut (Exit.inBlock 1 (ownPostK (KB s (s + 4)) (fun pre W => ShI w s d pre W ∧ Below s w W) (fun c pre W => False) (pre ++ [⟨(i, v), hx⟩]) W)) := by
   rintro ⟨_, _, h⟩
   exact h
  refine wpIn_region_heldP (S := fun w' => w'.cell? ⟨s, 0, none⟩ = some (.int .i64 d) ∧ w'.cell? ⟨s + 2, 0, none⟩ = some (.slice (some ⟨s + 1, 0, none⟩) l0.length l0.length) ∧ w'.cell? ⟨s + 3, 0, none⟩ = some (.int .i64 z)) 10 mixed (by kernel_rfl) hlo ?_
  have hq0 : 0 ≤ Int.tdiv z d := Int.tdiv_nonneg hz0 (by omega)
  have hq1 : Int.tdiv z d ≤ z := Int.tdiv_le_self _ hz0
  have hm0 : 0 ≤ Int.tmod z d := Int.tmod_nonneg _ hz0
  have hm1 : Int.tmod z d < d := Int.tmod_lt_of_pos _ hd0
  have hwq : IntKind.i64.wrap (Int.tdiv z d) = Int.tdiv z d := by rw [IntKind.wrap_i64]; omega
  have hwm : IntKind.i64.wrap (Int.tmod z d) = Int.tmod z d := by rw [IntKind.wrap_i64]; omega
  have hHeld : W1.drew.cell? ⟨s, 0, none⟩ = some (.int .i64 d) ∧ W1.drew.cell? ⟨s + 2, 0, none⟩ = some (.slice (some ⟨s + 1, 0, none⟩) l0.length l0.length) ∧ W1.drew.cell? ⟨s + 3, 0, none⟩ = some (.int .i64 z) := ⟨hcd1, hcs1, hcr1⟩
  refine wpAnyS_take (i := 0) (v := .slice (some ⟨s + 1, 0, none⟩) l0.length l0.length) rfl (by kernel_rfl) (by kernel_rfl) (by kernel_rfl) (by kernel_rfl) (by kernel_rfl) (fun _ _ _ h => h) (.inl ⟨by rfl, fun w hSw => by obtain ⟨s1, s2, s3⟩ := hSw; go_simp; all_goals first | with_reducible rfl | (rw [hwq]; done) | (rw [hwm]; done)⟩) hHeld ?_
  (try simp only [Act.put, List.setIfInBounds_toArray, List.set_cons_zero, List.set_cons_succ])
  refine wpAnyS_take (i := 1) (v := .int .i64 i) rfl (by kernel_rfl) (by kernel_rfl) (by kernel_rfl) (by kernel_rfl) (by kernel_rfl) (fun _ _ _ h => h) (.inl ⟨by rfl, fun w hSw => by obtain ⟨s1, s2, s3⟩ := hSw; go_simp; all_goals first | with_reducible rfl | (rw [hwq]; done) | (rw [hwm]; done)⟩) hHeld ?_
  (try simp only [Act.put, List.setIfInBounds_toArray, List.set_cons_zero, List.set_cons_succ])
  refine wpAnyS_take (i := 2) (v := .int .i64 z) rfl (by kernel_rfl) (by kernel_rfl) (by kernel_rfl) (by kernel_rfl) (by kernel_rfl) (fun _ _ _ h => h) (.inl ⟨by rfl, fun w hSw => by obtain ⟨s1, s2, s3⟩ := hSw; go_simp; all_goals first | with_reducible rfl | (rw [hwq]; done) | (rw [hwm]; done)⟩) hHeld ?_
  (try simp only [Act.put, List.setIfInBounds_toArray, List.set_cons_zero, List.set_cons_succ])
  refine wpAnyS_take (i := 3) (v := .int .i64 d) rfl (by kernel_rfl) (by kernel_rfl) (by kernel_rfl) (by kernel_rfl) (by kernel_rfl) (fun _ _ _ h => h) (.inl ⟨by rfl, fun w hSw => by obtain ⟨s1, s2, s3⟩ := hSw; go_simp; all_goals first | with_reducible rfl | (rw [hwq]; done) | (rw [hwm]; done)⟩) hHeld ?_
  (try simp only [Act.put, List.setIfInBounds_toArray, List.set_cons_zero, List.set_cons_succ])
  refine wpAnyS_take (i := 5) (v := .int .i64 z) rfl (by kernel_rfl) (by kernel_rfl) (by kernel_rfl) (by kernel_rfl) (by kernel_rfl) (fun _ _ _ h => h) (.inl ⟨by rfl, fun w hSw => by obtain ⟨s1, s2, s3⟩ := hSw; go_simp; all_goals first | with_reducible rfl | (rw [hwq]; done) | (rw [hwm]; done)⟩) hHeld ?_
  (try simp only [Act.put, List.setIfInBounds_toArray, List.set_cons_zero, List.set_cons_succ])
  refine wpAnyS_take (i := 6) (v := .int .i64 d) rfl (by kernel_rfl) (by kernel_rfl) (by kernel_rfl) (by kernel_rfl) (by kernel_rfl) (fun _ _ _ h => h) (.inl ⟨by rfl, fun w hSw => by obtain ⟨s1, s2, s3⟩ := hSw; go_simp; all_goals first | with_reducible rfl | (rw [hwq]; done) | (rw [hwm]; done)⟩) hHeld ?_
  (try simp only [Act.put, List.setIfInBounds_toArray, List.set_cons_zero, List.set_cons_succ])
  refine wpAnyS_take (i := 4) (v := .int .i64 (Int.tdiv z d)) rfl (by kernel_rfl) (by kernel_rfl) (by kernel_rfl) (by kernel_rfl) (by kernel_rfl) (fun _ _ _ h => h) (.inl ⟨by rfl, fun w hSw => by obtain ⟨s1, s2, s3⟩ := hSw; go_simp; all_goals first | with_reducible rfl | (rw [hwq]; done) | (rw [hwm]; done)⟩) hHeld ?_
  (try simp only [Act.put, List.setIfInBounds_toArray, List.set_cons_zero, List.set_cons_succ])
  refine wpAnyS_take (i := 7) (v := .int .i64 (Int.tmod z d)) rfl (by kernel_rfl) (by kernel_rfl) (by kernel_rfl) (by kernel_rfl) (by kernel_rfl) (fun _ _ _ h => h) (.inl ⟨by rfl, fun w hSw => by obtain ⟨s1, s2, s3⟩ := hSw; go_simp; all_goals first | with_reducible rfl | (rw [hwq]; done) | (rw [hwm]; done)⟩) hHeld ?_
  (try simp only [Act.put, List.setIfInBounds_toArray, List.set_cons_zero, List.set_cons_succ])
  refine wpAnyS_take (i := 8) (v := .pointer (some ⟨s + 1, i.toNat, none⟩)) rfl (by kernel_rfl) (by kernel_rfl) (by kernel_rfl) (by kernel_rfl) (by kernel_rfl) (fun _ _ _ h => h) (.inl ⟨by rfl, fun w hSw => by obtain ⟨s1, s2, s3⟩ := hSw; go_simp; all_goals first | with_reducible rfl | (rw [hwq]; done) | (rw [hwm]; done)⟩) hHeld ?_
  (try simp only [Act.put, List.setIfInBounds_toArray, List.set_cons_zero, List.set_cons_succ])
  have hbd1d : Boxed W1.drew s 3 (.int .i64 d) := hbd1
  have hbs1d : Boxed W1.drew (s + 2) 86 (.slice (some ⟨s + 1, 0, none⟩) l0.length l0.length) := hbs1
  have hbr1d : Boxed W1.drew (s + 3) 3 (.int .i64 z) := hbr1
  have hst := (hrow1.kept (w' := W1.drew) (row := none) ⟨rfl, rfl, rfl, Nat.le_refl _, fun _ _ _ => rfl⟩ (.inr (by simp [Value.ownBlock]))).stored i.toNat (.int .i64 (Int.tdiv z d))
  refine wpAnyS_store (i := 9) (w1 := W1.drew.setCell ⟨s + 1, i.toNat, none⟩ (.int .i64 (Int.tdiv z d))) (by kernel_rfl) rfl (by rfl) (by go_simp) (fun _ => ?_) ?_
  ·exact ⟨(hbd1d.kept hst.2 (by simp)).cell, (hbs1d.kept hst.2 (by simp)).cell, (hbr1d.kept hst.2 (by simp)).cell⟩
  (try simp only [Act.put, List.setIfInBounds_toArray, List.set_cons_zero, List.set_cons_succ])
  refine wpAnyS_store (i := 10) (w1 := (W1.drew.setCell ⟨s + 1, i.toNat, none⟩ (.int .i64 (Int.tdiv z d))).setCell ⟨s + 3, 0, none⟩ (.int .i64 (Int.tmod z d))) (by kernel_rfl) rfl (by rfl) (by go_simp) (fun h => by have h' : true = false := h; cases h') ?_
  refine wpAnyS_done (by kernel_rfl) ?_ _
  have hq2 : fld d (pre ++ [⟨(i, v), hx⟩]) = (o.set i.toNat (Int.tdiv z d), Int.tmod z d) := by rw [HX.out, hz']
  refine ⟨((hko.trans (KeepsOthers.drew _)).trans (KeepsOthers.setCell _ _ _)).trans (KeepsOthers.setCell _ _ _), (hkb.drew.setCell (p := ⟨s + 1, i.toNat, none⟩) (by simp) (by simp) _).setCell (p := ⟨s + 3, 0, none⟩) (by simp) (by simp) _, ⟨?_, ?_, ?_, ?_⟩, ((hbB.drew).setCell (p := ⟨s + 1, i.toNat, none⟩) (by simp) _).setCell (p := ⟨s + 3, 0, none⟩) (by simp) _⟩
  ·rw [hq2, List.map_set]
   exact hst.1.kept (grownBy_setCell0_a _ (s + 3) _) (.inr (by simp [Value.ownBlock]))
  ·exact (hbd1d.kept hst.2 (by simp)).kept (grownBy_setCell0_a _ (s + 3) _) (by simp)
  ·exact (hbs1d.kept hst.2 (by simp)).kept (grownBy_setCell0_a _ (s + 3) _) (by simp)
  rw [hq2]
  exact (hbr1d.kept hst.2 (by simp)).set _
 case done =>
  rintro D ys W hD rfl ⟨⟨hrow, hbd, hbs, hbr⟩, hB⟩ hK
  have hfl := fld_length d (bk l0 l0.length)
  obtain ⟨fo, hfo⟩ : ∃ fo, (fld d (bk l0 l0.length)).1 = fo := ⟨_, rfl⟩
  obtain ⟨fr, hfr⟩ : ∃ fr, (fld d (bk l0 l0.length)).2 = fr := ⟨_, rfl⟩
  rw [hfo] at hrow hfl ht
  rw [hfr] at hbr
  simp only [hfr]
  have hR : Kd.R (Kd.int .i64) 3 W.drew w.heap.size (fun k => k = s + 1) (.slice (some ⟨s + 1, 0, none⟩) l0.length l0.length) fo := by
   refine Kd.R_of_own (enc := .int .i64) ?_ (fun k hk => ?_)
   ·have := hrow.kept (w' := W.drew) (row := none) ⟨rfl, rfl, rfl, Nat.le_refl _, fun _ _ _ => rfl⟩ (.inr (by simp [Value.ownBlock]))
    rw [hfl, hs]
    exact this
   simpa [Value.ownBlock] using hk.symm
  have hBd : Below w.heap.size w W.drew := by rw [hs]; exact hB.drew
  have hbsd : Boxed W.drew (s + 2) 86 (.slice (some ⟨s + 1, 0, none⟩) l0.length l0.length) := hbs
  have hbrd : Boxed W.drew (s + 3) 3 (.int .i64 fr) := hbr
  have hKd : W.drew.heap[D]? = some (.deferred (some [])) := hK
  gi_wp2
  refine wpIn_wide.2 ?_
  go_region_held3 (fun w' => w'.cell? ⟨s + 2, 0, none⟩ = some (.slice (some ⟨s + 1, 0, none⟩) l0.length l0.length) ∧ w'.cell? ⟨s + 3, 0, none⟩ = some (.int .i64 fr)) (first | exact ⟨hbsd.cell, hbrd.cell⟩ | exact ⟨hc2.cell, hc3.cell⟩) (first | (go_at_call 147; refine (PA.bItrim.calls k (fun k_ => k_ = s + 1) _ fo t w _ hBd hR ht).mono ?_; rintro e w' ⟨v0, rfl, ho, hb, hk⟩; have hc2 : Boxed w' (s + 2) 86 (.slice (some ⟨s + 1, 0, none⟩) l0.length l0.length) := (hk.2 (s + 2) hbsd.lt (by omega)).trans hbsd; have hc3 : Boxed w' (s + 3) 3 (.int .i64 fr) := (hk.2 (s + 3) hbrd.lt (by omega)).trans hbrd))
  gi_wp2
  refine ⟨by simp, .inl ⟨_, _, rfl, run_takeDeferred (show w'.heap[D]? = some (.deferred (some [])) from (hk.2 D (Array.getElem?_eq_some_iff.1 hKd).1 (by omega)).trans hKd), ?_⟩⟩
  have hKe : w'.heap[D]? = some (.deferred (some [])) := (hk.2 D (Array.getElem?_eq_some_iff.1 hKd).1 (by omega)).trans hKd
  refine ⟨.tuple #[v0, .int .i64 fr], ?_, v0, by rw [hfr], ?_, hb.trans (by rw [hs]; exact belowK_b (w := w) (by omega) w' D _ _ (by omega) hKe rfl rfl)⟩
  ·simp [results, Tryz.f146, go_sem]
  obtain ⟨inner, ho2⟩ := Kd.R_own ho
  have hne := ownsRow_ne_a ho2 hKe (fun cur e => by cases e)
  exact Kd.R_mono (Kd.R_grown (Kd.R_tight rfl ho) (grownBy_putObj' w' D (.deferred none)) (fun k hk e => by rw [← hk] at hne; rcases hne with h | h; exact (by cases h); exact h e)) (fun _ _ => trivial)
 case stop =>
  rintro D c pre W hD hp hf hK
  exact hf.elim
theorem bIshort.calls (k : Nat) (A0 : Option Addr) (c0 : Nat) (l0 : List Int) (a1 : Int) (r1 : List Int) (r2 : Int) (w : World) (hr0 : Kd.C (Kd.int .i64) w A0 l0.length l0) (hc0 : l0.length ≤ c0) (h : bIshort.f k l0 a1 = some (r1, r2)) :
  Calls Tryz.prog 146 #[.slice A0 l0.length c0, .int .i64 a1] w fun e w' => ∃ v0_ : Value, e = .returned (.tuple #[v0_, .int .i64 r2]) ∧ Kd.R (Kd.int .i64) 3 w' w.heap.size (fun _ => True) v0_ r1 ∧ Below w.heap.size w w' := by
 unfold bIshort.f at h
 split at h
 ·rename_i hc
  obtain ⟨t, ht, h⟩ := Option.bind_eq_some_iff.mp h
  simp only [Option.some.injEq, Prod.mk.injEq] at h
  obtain ⟨rfl, rfl⟩ := h
  exact callsIn_wide.1 (short_in 3 (by omega) A0 c0 l0 a1 k t w hr0 hc.1 hc.2.1 hc.2.2.1 hc.2.2.2 ht)
 cases h
set_option linter.unusedVariables false
open Go.RowKit Go.Proofs.WWords Go.Proofs.WLast Go.Proofs.WMore
theorem add_off (g o j : Nat) : (⟨g, o, none⟩ : Addr).add j = ⟨g, o + j, none⟩ := by unfold Addr.add; split <;> simp_all
def WR (pre post : List Int) (o cF : Nat) (w : World) (base : Nat) (ok : Nat → Prop) (v : Value) (xs : List Int) : Prop :=
 (∀ k, v.ownBlock = some k → ok k) ∧ pre.length = o ∧ ∃ g cap, v = .slice (some ⟨g, o, none⟩) xs.length cap ∧ xs.length ≤ cap ∧ Kd.R (Kd.int .i64) 3 w base (fun k => k = g) (.slice (some ⟨g, 0, none⟩) (pre ++ xs ++ post).length cF) (pre ++ xs ++ post)
section
variable {pre post xs : List Int} {o cF base n c g cap : Nat} {w w' w1 W : World} {ok ok' ok1 : Nat → Prop} {v : Value} {A : Option Addr}
theorem WR_mono (h : WR pre post o cF w base ok v xs) (hok : ∀ k, ok k → ok' k) : WR pre post o cF w base ok' v xs := ⟨fun k hk => hok k (h.1 k hk), h.2⟩
theorem WR_below (h : WR pre post o cF w base ok v xs) (hb : Below w.heap.size w w1) : WR pre post o cF w1 base ok v xs := by
 obtain ⟨h0, ho, g, cap, hv, hl, hr⟩ := h
 exact ⟨h0, ho, g, cap, hv, hl, Kd.R_below hr hb⟩
theorem WR_alloc (h : WR pre post o cF w base ok v xs) (b : Obj) : WR pre post o cF (w.alloc b) base ok v xs := WR_below h (below_alloc (Below.refl _ _) b)
theorem WR_drew (h : WR pre post o cF w base ok v xs) : WR pre post o cF w.drew base ok v xs := WR_below h (below_drew (Below.refl _ _))
theorem WR_drewN (h : WR pre post o cF w base ok v xs) (m : Nat) : WR pre post o cF (w.drewN m) base ok v xs := WR_below h (pw_below_drewN (Below.refl _ _) m)
theorem WR_at {m : Nat} (hq : w.drewN m = w') (h : WR pre post o cF w base ok v xs) : WR pre post o cF w' base ok v xs := by subst hq; exact WR_drewN h m
theorem WR_slice (h : WR pre post o cF w base ok v xs) : ∃ A c, v = .slice A xs.length c := by
 obtain ⟨_, _, g, cap, hv, _⟩ := h
 exact ⟨_, _, hv⟩
theorem WR_tight (_ : (Kd.int .i64).E = []) (h : WR pre post o cF w base ok v xs) : WR pre post o cF w base (fun k => some k = v.ownBlock) v xs := ⟨fun _ hk => hk.symm, h.2⟩
theorem WR_reok (hE : (Kd.int .i64).E = []) (h : WR pre post o cF w base ok1 v xs) (hok : ∀ k, v.ownBlock = some k → ok k) : WR pre post o cF w base ok v xs := WR_mono (WR_tight hE h) (fun k hk => hok k hk.symm)
theorem WR_full (h : WR pre post o cF w base ok (.slice (some ⟨g, o, none⟩) n cap) xs) : n = xs.length ∧ n ≤ cap ∧ pre.length = o ∧ ok g ∧ Kd.R (Kd.int .i64) 3 w base (fun k => k = g) (.slice (some ⟨g, 0, none⟩) (pre ++ xs ++ post).length cF) (pre ++ xs ++ post) := by
 obtain ⟨h0, ho, g', cap', hv, hl, hr⟩ := h
 simp only [Value.slice.injEq, Option.some.injEq, Addr.mk.injEq, and_true] at hv
 obtain ⟨rfl, rfl, rfl⟩ := hv
 exact ⟨rfl, hl, ho, h0 _ (by simp [Value.ownBlock]), hr⟩
theorem WR_form (h : WR pre post o cF w base ok v xs) (hp : 0 < xs.length) : ∃ g cap, v = .slice (some ⟨g, o, none⟩) xs.length cap ∧ base ≤ g ∧ g < w.heap.size ∧ ∃ cells, w.heap[g]? = some (.cells cells 3 (0, 0)) := by
 obtain ⟨h0, ho, g, cap, hv, hl, hr⟩ := h
 obtain ⟨g', cap', he, hb, hlt, hc⟩ := Kd.R_form hr (by simp; omega)
 simp only [Value.slice.injEq, Option.some.injEq, Addr.mk.injEq, and_true, true_and] at he
 obtain ⟨rfl, rfl⟩ := he
 exact ⟨g, cap, hv, hb, hlt, hc⟩
theorem WR_slice2 (h : WR pre post o cF w base ok v xs) : ∃ g c, v = .slice (some ⟨g, o, none⟩) xs.length c := by
 obtain ⟨_, _, g, cap, hv, _⟩ := h
 exact ⟨_, _, hv⟩
theorem WR_form2 (h : WR pre post o cF w base ok (.slice (some ⟨g, o, none⟩) n c) xs) (hp : 0 < xs.length) : base ≤ g ∧ g < w.heap.size ∧ ∃ cells, w.heap[g]? = some (.cells cells 3 (0, 0)) := by
 obtain ⟨g', cap', he, h1, h2, h3⟩ := WR_form h hp
 simp only [Value.slice.injEq, Option.some.injEq, Addr.mk.injEq, and_true] at he
 obtain ⟨rfl, _, _⟩ := he
 exact ⟨h1, h2, h3⟩
theorem WR_celln (d : Int) (h : WR pre post o cF W base ok (.slice (some ⟨g, o, none⟩) n cap) xs) (i : Int) (h0 : 0 ≤ i) (hi : i < n) : W.cell? ⟨g, o + i.toNat, none⟩ = some (.int .i64 (rdOf d xs i)) ∧ W.frozen? ⟨g, o + i.toNat, none⟩ = false := by
 obtain ⟨rfl, _, ho, _, hr⟩ := WR_full h
 have hk := Kd.R_celln d hr ((o + i.toNat : Nat) : Int) (by omega) (by simp; omega)
 rw [Int.toNat_natCast] at hk
 refine ⟨?_, hk.2⟩
 rw [hk.1]
 congr 2
 unfold rdOf
 rw [Int.toNat_natCast, List.append_assoc, List.getD_eq_getElem?_getD, List.getD_eq_getElem?_getD, List.getElem?_append_right (by omega), ho, Nat.add_sub_cancel_left, List.getElem?_append_left (by omega)]
theorem WR_reads' (h : WR pre post o cF w base ok (.slice A n c) xs) : n = xs.length ∧ n ≤ c ∧ Kd.C (Kd.int .i64) w A xs.length xs := by
 obtain ⟨A', c', hA⟩ := WR_slice h
 obtain ⟨h0, ho, g, cap, hv, hl, hr⟩ := h
 simp only [Value.slice.injEq] at hv
 obtain ⟨rfl, rfl, rfl⟩ := hv
 have hmax := Kd.C_max (Kd.R_reads' hr).2.2
 refine ⟨rfl, hl, Kd.C_of_reads (d := (0 : Int)) ⟨rfl, by simp at hmax; omega, fun _ => ⟨_, rfl, fun j hj => ?_⟩⟩⟩
 have hk := (WR_celln (ok := fun _ => True) 0 ⟨fun _ _ => trivial, ho, g, _, rfl, hl, hr⟩ (j : Int) (by omega) (by omega)).1
 simp only [Int.toNat_natCast, rdOf] at hk
 rw [add_off]
 exact hk
theorem WR_putg (h : WR pre post o cF W base ok (.slice (some ⟨g, o, none⟩) n cap) xs) (i : Int) (hi : i.toNat < xs.length) (x : Int) : WR pre post o cF (W.setCell ⟨g, o + i.toNat, none⟩ (.int .i64 x)) base ok (.slice (some ⟨g, o, none⟩) n cap) (xs.set i.toNat x) ∧ W.grownBy (W.setCell ⟨g, o + i.toNat, none⟩ (.int .i64 x)) (some g) := by
 obtain ⟨hn, hl, ho, hok, hr⟩ := WR_full h
 have hk := Kd.R_putg hr ((o + i.toNat : Nat) : Int) x
 rw [Int.toNat_natCast] at hk
 have e : (pre ++ xs ++ post).set (o + i.toNat) x = pre ++ xs.set i.toNat x ++ post := by
  rw [List.append_assoc, List.set_append_right _ _ (by omega), ho, Nat.add_sub_cancel_left, List.set_append_left _ _ (by omega), List.append_assoc]
 rw [e] at hk
 refine ⟨⟨h.1, ho, g, cap, by rw [List.length_set, hn], by rw [List.length_set]; omega, ?_⟩, hk.2⟩
 have e2 : (pre ++ xs.set i.toNat x ++ post).length = (pre ++ xs ++ post).length := by simp
 rw [e2]
 exact hk.1
end
set_option linter.unusedVariables false
open Go.RowKit Go.Proofs.WWords Go.Proofs.WLast Go.Proofs.WMore PA
attribute [local go_sem] max2_int min2_int max_two min_two max_three min_three max_four min_four
set_option linter.unusedSimpArgs false
theorem bIsubtract.calls {pre post : List Int} {oW cF : Nat} (k : Nat) (P0_ : Nat → Prop) (u9000_ : Value) (l0 : List Int) (A1 : Option Addr) (c1 : Nat) (l1 : List Int) (a2 : Int) (r1 : Bool) (r2 : List Int) (w0 w : World) (hB : Below w0.heap.size w0 w) (ho0 : WR pre post oW cF w w0.heap.size P0_ u9000_ l0) (hr1 : ∀ W_, Kept w W_ (fun k_ => P0_ k_) → Kd.C (Kd.int .i64) W_ A1 l1.length l1) (hc1 : l1.length ≤ c1) (h : bIsubtract.f k l0 l1 a2 = some (r1, r2)) :
  Calls Tryz.prog 178 #[u9000_, .slice A1 l1.length c1, .int .i64 a2] w fun e w' => e = .returned (.bool r1) ∧ WR pre post oW cF w' w0.heap.size (fun k_ => (P0_ k_ ∨ w.heap.size ≤ k_)) u9000_ r2 ∧ Below w0.heap.size w0 w' ∧ Kept w w' (fun k_ => P0_ k_) := by
 have HO0 := Z0.mk (show WR pre post oW cF w w0.heap.size (fun k_ => (P0_ k_ ∨ w.heap.size ≤ k_)) u9000_ l0 from WR_mono ho0 (fun k_ hk => (.inl hk)))
 have HR1 := Z0.mk hr1
 have HC1 := Z0.mk hc1
 clear hr1 hc1
 have HK := Z0.mk (Kept.refl w (fun k_ => P0_ k_))
 have HW0 := Z0.mk hB.size
 have HB := Z0.mk hB
 clear hB
 have H := h
 clear h
 unfold bIsubtract.f at H
 have H' := Z0.mk H
 clear H
 obtain ⟨Ao4, co4, eo4⟩ := WR_slice HO0.out
 subst eo4
 go_enter Tryz.func178, Tryz.ntmps178
 go_wp2
 go_loopg [7, 12] k (fun kq v7 v12 w' => ∃ (x0_1 : List Int) (x7_1 : Int) (x12_1 : Int), v7 = .int .i64 x7_1 ∧ v12 = .int .i64 x12_1 ∧ Z0 (bIsubtract.l0 kq x0_1 l1 a2 x7_1 (l0.length : Int) x12_1 = some (r1, r2)) ∧ Z0 (kq ≤ k) ∧ Z0 (WR pre post oW cF w' w0.heap.size (fun k_ => (P0_ k_ ∨ w.heap.size ≤ k_)) (.slice Ao4 l0.length co4) x0_1) ∧ Z0 (Kept w w' (fun k_ => P0_ k_)) ∧ Z0 (Below w0.heap.size w0 w'))
 case atStart => exact ⟨(l0), (0), (0), fs, fs, H', ⟨Nat.le_refl _⟩, ⟨by (with_reducible repeat (first | apply WR_alloc | apply WR_drewN | apply WR_drew)); exact HO0.out⟩, ⟨kqs⟩, ⟨bqs⟩⟩
 case round =>
  clear H'
  try clear c1
  try clear p2
  obtain ⟨x0_1, x7_1, x12_1, rfl, rfl, HA, HK1, HO_0, HK, HB⟩ := hrel
  have hl0_1 := (WR_reads' HO_0.out).1
  rw [hl0_1] at HO_0
  (try simp only [hl0_1])
  cases gk with
  | zero => exact absurd HA.out (by simp [bIsubtract.l0])
  | succ k1 =>
   have H := HA.out
   clear HA
   simp only [bIsubtract.l0] at H
   rcases jd H with ⟨c5, c5b0, H⟩ | ⟨c5, c5b0, H⟩
   ·(try (have c5b0_ := c5b0; rw [hl0_1] at c5b0_))
    clear c5
    rcases jd H with ⟨c6, c6b0, H⟩ | ⟨c6, c6b0, H⟩
    ·(try (have c6b0_ := c6b0; rw [hl0_1] at c6b0_))
     clear c6
     obtain ⟨-, c7b0, H⟩ := gd H
     obtain ⟨c8, c8b0, H⟩ := gd H
     (try (have c8b0_ := c8b0; rw [hl0_1] at c8b0_))
     clear c8
     rcases jd H with ⟨-, c9b0, H⟩ | ⟨-, c9b0, H⟩
     ·obtain ⟨y125, hy125⟩ : ∃ y_ : List Int, y_ = (x0_1.set (x12_1 : Int).toNat (wrap64 ((wrap64 ((rd x0_1 x12_1) - (Int.tmod (wrap64 (x7_1 + (wrap64 (a2 * (rd l1 x12_1))))) 1000000000))) + 1000000000))) := ⟨_, rfl⟩
      replace H : (bIsubtract.l0 k1 y125 l1 a2 (wrap64 ((wrap64 (Int.tdiv (wrap64 (x7_1 + (wrap64 (a2 * (rd l1 x12_1))))) 1000000000)) + 1)) (l0.length : Int) (wrap64 (x12_1 + 1))) = some (r1, r2) := by first | (rw [hy125]; with_reducible exact H) | (have H2_ := (Option.bind_some _ _).symm.trans H; rw [hy125]; with_reducible exact H2_) | (have H2_ := (Option.bind_some _ _).symm.trans H; with_reducible exact H2_) | with_reducible exact H | (rw [hy125]; exact H) | exact H
      have Ny125 := Z0.mk hy125
      clear hy125
      have H' := Z0.mk H
      clear H
      obtain ⟨ad123, e123, hx123_0, p123, q123⟩ := atI (Kd.C_kept_now HR1.out HK.out) x12_1
      cases e123
      obtain ⟨ad124, e124, hx124_0, p124, q124⟩ := atI (WR_reads' HO_0.out).2.2 x12_1
      cases e124
      have p10 : 0 ≤ (x12_1 : Int) := od
      have q10 : (x12_1 : Int) < ((x0_1.length : Int) : Int) := od
      obtain ⟨go10, co10, eo10, gb10, gl10, cl10, HG10⟩ := WR_form HO_0.out (by omega)
      (first | cases eo10 | (injection eo10 with ea_ en_ ec_; (first | subst ea_ | (injection ea_ with ea_; subst ea_)); subst ec_; clear en_))
      have GB10 := Z0.mk gb10
      have GG10 := Z0.mk HG10
      clear gb10 gl10 HG10
      have HMgo10 := Z0.mk (show (P0_ go10 ∨ w.heap.size ≤ go10) from (HO_0.out.1 _ rfl))
      (first | simp only [add_off] at hx124_0 | skip)
      obtain ⟨hx10_0, hf10_0⟩ := WR_celln 0 HO_0.out (x12_1 : Int) p10 q10
      replace p10 := eq_true p10
      replace q10 := eq_true q10
      have HP11 := WR_putg HO_0.out (x12_1 : Int) (by have h1_ := of_eq_true p10; have h2_ := of_eq_true q10; omega) (wrap64 ((wrap64 ((rd x0_1 x12_1) - (Int.tmod (wrap64 (x7_1 + (wrap64 (a2 * (rd l1 x12_1))))) 1000000000))) + 1000000000))
      go_wp2_with (first | ((with_reducible refine gate_store (t := 3) (p := 45) rfl ?_); refine store_event (t := 3) (p := 45) (v := ?vo_w12) (w1 := (wr.setCell ⟨go10, oW + (x12_1 : Int).toNat, none⟩ (.int .i64 (wrap64 ((wrap64 ((rd x0_1 x12_1) - (Int.tmod (wrap64 (x7_1 + (wrap64 (a2 * (rd l1 x12_1))))) 1000000000))) + 1000000000))))) ?hg ?ho ?hn ?hr ?_; (case ho => rfl); (case hg => rfl); (case hn => rfl); (case hr => first | (go_simp; done) | (go_simp; rfl)); intro w12 hw; have hg : wr.grownBy w12 (some go10) := (by rw [hw]; exact HP11.2); have hp_ : WR pre post oW cF w12 w0.heap.size (fun k_ => (P0_ k_ ∨ w.heap.size ≤ k_)) (.slice (some ⟨go10, oW, none⟩) x0_1.length co4) y125 := (by rw [hw, Ny125.out]; exact HP11.1); clear HP11; have n0_ := Z0.mk (hp_); have n1_ := Z0.mk ((by rw [hw]; exact below_set (HB.out) GB10.out : Below w0.heap.size w0 w12)); have n2_ := Z0.mk (Kept.of_grown (S := (fun k_ => P0_ k_)) hg kqs (fun k_ e_ => (HO_0.out.1 k_ e_))); clear HO_0; clear HB; clear HK; have HO_0 := n0_; have HB := n1_; have HK := n2_; clear n0_ n1_ n2_; clear hg hw hp_))
      (try simp only [← hl0_1])
      go_roundg k1
      case measure => have := HK1.out; omega
      case rel => exact ⟨(y125), (wrap64 ((wrap64 (Int.tdiv (wrap64 (x7_1 + (wrap64 (a2 * (rd l1 x12_1))))) 1000000000)) + 1)), (wrap64 (x12_1 + 1)), fs, fs, H', ⟨by have := HK1.out; omega⟩, ⟨by (try simp only [hl0_1]); (with_reducible repeat (first | apply WR_alloc | apply WR_drewN | apply WR_drew)); exact HO_0.out⟩, ⟨kqs⟩, ⟨bqs⟩⟩
     obtain ⟨y126, hy126⟩ : ∃ y_ : List Int, y_ = (x0_1.set (x12_1 : Int).toNat (wrap64 ((rd x0_1 x12_1) - (Int.tmod (wrap64 (x7_1 + (wrap64 (a2 * (rd l1 x12_1))))) 1000000000)))) := ⟨_, rfl⟩
     replace H : (bIsubtract.l0 k1 y126 l1 a2 (wrap64 (Int.tdiv (wrap64 (x7_1 + (wrap64 (a2 * (rd l1 x12_1))))) 1000000000)) (l0.length : Int) (wrap64 (x12_1 + 1))) = some (r1, r2) := by first | (rw [hy126]; with_reducible exact H) | (have H2_ := (Option.bind_some _ _).symm.trans H; rw [hy126]; with_reducible exact H2_) | (have H2_ := (Option.bind_some _ _).symm.trans H; with_reducible exact H2_) | with_reducible exact H | (rw [hy126]; exact H) | exact H
     have Ny126 := Z0.mk hy126
     clear hy126
     have H' := Z0.mk H
     clear H
     obtain ⟨ad123, e123, hx123_0, p123, q123⟩ := atI (Kd.C_kept_now HR1.out HK.out) x12_1
     cases e123
     obtain ⟨ad124, e124, hx124_0, p124, q124⟩ := atI (WR_reads' HO_0.out).2.2 x12_1
     cases e124
     have p13 : 0 ≤ (x12_1 : Int) := od
     have q13 : (x12_1 : Int) < ((x0_1.length : Int) : Int) := od
     obtain ⟨go13, co13, eo13, gb13, gl13, cl13, HG13⟩ := WR_form HO_0.out (by omega)
     (first | cases eo13 | (injection eo13 with ea_ en_ ec_; (first | subst ea_ | (injection ea_ with ea_; subst ea_)); subst ec_; clear en_))
     have GB13 := Z0.mk gb13
     have GG13 := Z0.mk HG13
     clear gb13 gl13 HG13
     have HMgo13 := Z0.mk (show (P0_ go13 ∨ w.heap.size ≤ go13) from (HO_0.out.1 _ rfl))
     (first | simp only [add_off] at hx124_0 | skip)
     obtain ⟨hx13_0, hf13_0⟩ := WR_celln 0 HO_0.out (x12_1 : Int) p13 q13
     replace p13 := eq_true p13
     replace q13 := eq_true q13
     have HP14 := WR_putg HO_0.out (x12_1 : Int) (by have h1_ := of_eq_true p13; have h2_ := of_eq_true q13; omega) (wrap64 ((rd x0_1 x12_1) - (Int.tmod (wrap64 (x7_1 + (wrap64 (a2 * (rd l1 x12_1))))) 1000000000)))
     go_wp2_with (first | ((with_reducible refine gate_store (t := 3) (p := 45) rfl ?_); refine store_event (t := 3) (p := 45) (v := ?vo_w15) (w1 := (wr.setCell ⟨go13, oW + (x12_1 : Int).toNat, none⟩ (.int .i64 (wrap64 ((rd x0_1 x12_1) - (Int.tmod (wrap64 (x7_1 + (wrap64 (a2 * (rd l1 x12_1))))) 1000000000)))))) ?hg ?ho ?hn ?hr ?_; (case ho => rfl); (case hg => rfl); (case hn => rfl); (case hr => first | (go_simp; done) | (go_simp; rfl)); intro w15 hw; have hg : wr.grownBy w15 (some go13) := (by rw [hw]; exact HP14.2); have hp_ : WR pre post oW cF w15 w0.heap.size (fun k_ => (P0_ k_ ∨ w.heap.size ≤ k_)) (.slice (some ⟨go13, oW, none⟩) x0_1.length co4) y126 := (by rw [hw, Ny126.out]; exact HP14.1); clear HP14; have n0_ := Z0.mk (hp_); have n1_ := Z0.mk ((by rw [hw]; exact below_set (HB.out) GB13.out : Below w0.heap.size w0 w15)); have n2_ := Z0.mk (Kept.of_grown (S := (fun k_ => P0_ k_)) hg kqs (fun k_ e_ => (HO_0.out.1 k_ e_))); clear HO_0; clear HB; clear HK; have HO_0 := n0_; have HB := n1_; have HK := n2_; clear n0_ n1_ n2_; clear hg hw hp_))
     (try simp only [← hl0_1])
     go_roundg k1
     case measure => have := HK1.out; omega
     case rel => exact ⟨(y126), (wrap64 (Int.tdiv (wrap64 (x7_1 + (wrap64 (a2 * (rd l1 x12_1))))) 1000000000)), (wrap64 (x12_1 + 1)), fs, fs, H', ⟨by have := HK1.out; omega⟩, ⟨by (try simp only [hl0_1]); (with_reducible repeat (first | apply WR_alloc | apply WR_drewN | apply WR_drew)); exact HO_0.out⟩, ⟨kqs⟩, ⟨bqs⟩⟩
    (try (have c6b0_ := c6b0; rw [hl0_1] at c6b0_))
    clear c6
    obtain ⟨-, c16b0, H⟩ := gd H
    obtain ⟨c17, c17b0, H⟩ := gd H
    (try (have c17b0_ := c17b0; rw [hl0_1] at c17b0_))
    clear c17
    rcases jd H with ⟨-, c18b0, H⟩ | ⟨-, c18b0, H⟩
    ·obtain ⟨y128, hy128⟩ : ∃ y_ : List Int, y_ = (x0_1.set (x12_1 : Int).toNat (wrap64 ((wrap64 ((rd x0_1 x12_1) - (Int.tmod x7_1 1000000000))) + 1000000000))) := ⟨_, rfl⟩
     replace H : (bIsubtract.l0 k1 y128 l1 a2 (wrap64 ((wrap64 (Int.tdiv x7_1 1000000000)) + 1)) (l0.length : Int) (wrap64 (x12_1 + 1))) = some (r1, r2) := by first | (rw [hy128]; with_reducible exact H) | (have H2_ := (Option.bind_some _ _).symm.trans H; rw [hy128]; with_reducible exact H2_) | (have H2_ := (Option.bind_some _ _).symm.trans H; with_reducible exact H2_) | with_reducible exact H | (rw [hy128]; exact H) | exact H
     have Ny128 := Z0.mk hy128
     clear hy128
     have H' := Z0.mk H
     clear H
     obtain ⟨ad127, e127, hx127_0, p127, q127⟩ := atI (WR_reads' HO_0.out).2.2 x12_1
     cases e127
     have p19 : 0 ≤ (x12_1 : Int) := od
     have q19 : (x12_1 : Int) < ((x0_1.length : Int) : Int) := od
     obtain ⟨go19, co19, eo19, gb19, gl19, cl19, HG19⟩ := WR_form HO_0.out (by omega)
     (first | cases eo19 | (injection eo19 with ea_ en_ ec_; (first | subst ea_ | (injection ea_ with ea_; subst ea_)); subst ec_; clear en_))
     have GB19 := Z0.mk gb19
     have GG19 := Z0.mk HG19
     clear gb19 gl19 HG19
     have HMgo19 := Z0.mk (show (P0_ go19 ∨ w.heap.size ≤ go19) from (HO_0.out.1 _ rfl))
     (first | simp only [add_off] at hx127_0 | skip)
     obtain ⟨hx19_0, hf19_0⟩ := WR_celln 0 HO_0.out (x12_1 : Int) p19 q19
     replace p19 := eq_true p19
     replace q19 := eq_true q19
     have HP20 := WR_putg HO_0.out (x12_1 : Int) (by have h1_ := of_eq_true p19; have h2_ := of_eq_true q19; omega) (wrap64 ((wrap64 ((rd x0_1 x12_1) - (Int.tmod x7_1 1000000000))) + 1000000000))
     go_wp2_with (first | ((with_reducible refine gate_store (t := 3) (p := 45) rfl ?_); refine store_event (t := 3) (p := 45) (v := ?vo_w21) (w1 := (wr.setCell ⟨go19, oW + (x12_1 : Int).toNat, none⟩ (.int .i64 (wrap64 ((wrap64 ((rd x0_1 x12_1) - (Int.tmod x7_1 1000000000))) + 1000000000))))) ?hg ?ho ?hn ?hr ?_; (case ho => rfl); (case hg => rfl); (case hn => rfl); (case hr => first | (go_simp; done) | (go_simp; rfl)); intro w21 hw; have hg : wr.grownBy w21 (some go19) := (by rw [hw]; exact HP20.2); have hp_ : WR pre post oW cF w21 w0.heap.size (fun k_ => (P0_ k_ ∨ w.heap.size ≤ k_)) (.slice (some ⟨go19, oW, none⟩) x0_1.length co4) y128 := (by rw [hw, Ny128.out]; exact HP20.1); clear HP20; have n0_ := Z0.mk (hp_); have n1_ := Z0.mk ((by rw [hw]; exact below_set (HB.out) GB19.out : Below w0.heap.size w0 w21)); have n2_ := Z0.mk (Kept.of_grown (S := (fun k_ => P0_ k_)) hg kqs (fun k_ e_ => (HO_0.out.1 k_ e_))); clear HO_0; clear HB; clear HK; have HO_0 := n0_; have HB := n1_; have HK := n2_; clear n0_ n1_ n2_; clear hg hw hp_))
     (try simp only [← hl0_1])
     go_roundg k1
     case measure => have := HK1.out; omega
     case rel => exact ⟨(y128), (wrap64 ((wrap64 (Int.tdiv x7_1 1000000000)) + 1)), (wrap64 (x12_1 + 1)), fs, fs, H', ⟨by have := HK1.out; omega⟩, ⟨by (try simp only [hl0_1]); (with_reducible repeat (first | apply WR_alloc | apply WR_drewN | apply WR_drew)); exact HO_0.out⟩, ⟨kqs⟩, ⟨bqs⟩⟩
    obtain ⟨y129, hy129⟩ : ∃ y_ : List Int, y_ = (x0_1.set (x12_1 : Int).toNat (wrap64 ((rd x0_1 x12_1) - (Int.tmod x7_1 1000000000)))) := ⟨_, rfl⟩
    replace H : (bIsubtract.l0 k1 y129 l1 a2 (wrap64 (Int.tdiv x7_1 1000000000)) (l0.length : Int) (wrap64 (x12_1 + 1))) = some (r1, r2) := by first | (rw [hy129]; with_reducible exact H) | (have H2_ := (Option.bind_some _ _).symm.trans H; rw [hy129]; with_reducible exact H2_) | (have H2_ := (Option.bind_some _ _).symm.trans H; with_reducible exact H2_) | with_reducible exact H | (rw [hy129]; exact H) | exact H
    have Ny129 := Z0.mk hy129
    clear hy129
    have H' := Z0.mk H
    clear H
    obtain ⟨ad127, e127, hx127_0, p127, q127⟩ := atI (WR_reads' HO_0.out).2.2 x12_1
    cases e127
    have p22 : 0 ≤ (x12_1 : Int) := od
    have q22 : (x12_1 : Int) < ((x0_1.length : Int) : Int) := od
    obtain ⟨go22, co22, eo22, gb22, gl22, cl22, HG22⟩ := WR_form HO_0.out (by omega)
    (first | cases eo22 | (injection eo22 with ea_ en_ ec_; (first | subst ea_ | (injection ea_ with ea_; subst ea_)); subst ec_; clear en_))
    have GB22 := Z0.mk gb22
    have GG22 := Z0.mk HG22
    clear gb22 gl22 HG22
    have HMgo22 := Z0.mk (show (P0_ go22 ∨ w.heap.size ≤ go22) from (HO_0.out.1 _ rfl))
    (first | simp only [add_off] at hx127_0 | skip)
    obtain ⟨hx22_0, hf22_0⟩ := WR_celln 0 HO_0.out (x12_1 : Int) p22 q22
    replace p22 := eq_true p22
    replace q22 := eq_true q22
    have HP23 := WR_putg HO_0.out (x12_1 : Int) (by have h1_ := of_eq_true p22; have h2_ := of_eq_true q22; omega) (wrap64 ((rd x0_1 x12_1) - (Int.tmod x7_1 1000000000)))
    go_wp2_with (first | ((with_reducible refine gate_store (t := 3) (p := 45) rfl ?_); refine store_event (t := 3) (p := 45) (v := ?vo_w24) (w1 := (wr.setCell ⟨go22, oW + (x12_1 : Int).toNat, none⟩ (.int .i64 (wrap64 ((rd x0_1 x12_1) - (Int.tmod x7_1 1000000000)))))) ?hg ?ho ?hn ?hr ?_; (case ho => rfl); (case hg => rfl); (case hn => rfl); (case hr => first | (go_simp; done) | (go_simp; rfl)); intro w24 hw; have hg : wr.grownBy w24 (some go22) := (by rw [hw]; exact HP23.2); have hp_ : WR pre post oW cF w24 w0.heap.size (fun k_ => (P0_ k_ ∨ w.heap.size ≤ k_)) (.slice (some ⟨go22, oW, none⟩) x0_1.length co4) y129 := (by rw [hw, Ny129.out]; exact HP23.1); clear HP23; have n0_ := Z0.mk (hp_); have n1_ := Z0.mk ((by rw [hw]; exact below_set (HB.out) GB22.out : Below w0.heap.size w0 w24)); have n2_ := Z0.mk (Kept.of_grown (S := (fun k_ => P0_ k_)) hg kqs (fun k_ e_ => (HO_0.out.1 k_ e_))); clear HO_0; clear HB; clear HK; have HO_0 := n0_; have HB := n1_; have HK := n2_; clear n0_ n1_ n2_; clear hg hw hp_))
    (try simp only [← hl0_1])
    go_roundg k1
    case measure => have := HK1.out; omega
    case rel => exact ⟨(y129), (wrap64 (Int.tdiv x7_1 1000000000)), (wrap64 (x12_1 + 1)), fs, fs, H', ⟨by have := HK1.out; omega⟩, ⟨by (try simp only [hl0_1]); (with_reducible repeat (first | apply WR_alloc | apply WR_drewN | apply WR_drew)); exact HO_0.out⟩, ⟨kqs⟩, ⟨bqs⟩⟩
   (try (have c5b0_ := c5b0; rw [hl0_1] at c5b0_))
   clear c5
   simp only [Option.some.injEq, Prod.mk.injEq] at H
   obtain ⟨rfl, rfl⟩ := H
   go_wp2
   go_ret
   exact ⟨fe, (by first | exact (by (with_reducible repeat (first | apply WR_alloc | apply WR_drewN | apply WR_drew)); exact HO_0.out) | (simp only [hl0_1]; exact (by (with_reducible repeat (first | apply WR_alloc | apply WR_drewN | apply WR_drew)); exact HO_0.out))), bqs, kqs⟩
theorem bIestimate.calls {pre post : List Int} {oW cF : Nat} (k : Nat) (P0_ : Nat → Prop) (u9000_ : Value) (l0 : List Int) (A1 : Option Addr) (c1 : Nat) (l1 : List Int) (r1 : Int) (r2 : List Int) (w0 w : World) (hB : Below w0.heap.size w0 w) (ho0 : WR pre post oW cF w w0.heap.size P0_ u9000_ l0) (hr1 : ∀ W_, Kept w W_ (fun k_ => P0_ k_) → Kd.C (Kd.int .i64) W_ A1 l1.length l1) (hc1 : l1.length ≤ c1) (h : bIestimate.f k l0 l1 = some (r1, r2)) :
  Calls Tryz.prog 148 #[u9000_, .slice A1 l1.length c1] w fun e w' => e = .returned (.int .i64 r1) ∧ WR pre post oW cF w' w0.heap.size (fun k_ => (P0_ k_ ∨ w.heap.size ≤ k_)) u9000_ r2 ∧ Below w0.heap.size w0 w' ∧ Kept w w' (fun k_ => P0_ k_) := by
 have HO0 := Z0.mk (show WR pre post oW cF w w0.heap.size (fun k_ => (P0_ k_ ∨ w.heap.size ≤ k_)) u9000_ l0 from WR_mono ho0 (fun k_ hk => (.inl hk)))
 have HR1 := Z0.mk hr1
 have HC1 := Z0.mk hc1
 clear hr1 hc1
 have HK := Z0.mk (Kept.refl w (fun k_ => P0_ k_))
 have HW0 := Z0.mk hB.size
 have HB := Z0.mk hB
 clear hB
 have H := h
 clear h
 unfold bIestimate.f at H
 obtain ⟨c3, c3b0, H⟩ := gd H
 have c3b1 : decide (0 ≤ l1.length) = true := decide_eq_true (by omega)
 clear c3
 obtain ⟨c4, c4b0, H⟩ := gd H
 have c4b1 : decide (l1.length < l0.length) = true := decide_eq_true (Int.ofNat_lt.mp c4)
 clear c4
 obtain ⟨ji5, hji5⟩ : ∃ j_ : Int, (wrap64 ((l1.length : Int) - 1)) = j_ := ⟨_, rfl⟩
 replace H : (if 0 ≤ (ji5) then (if (ji5) < (l0.length : Int) then (if (ji5) < (l1.length : Int) then (if (rd l1 (ji5)) = 0 then (none) else (bIestimate.l0 k l0 l1 (l1.length : Int) (mn (wrap64 (Int.tdiv (wrap64 ((wrap64 ((rd l0 (l1.length : Int)) * 1000000000)) + (rd l0 (ji5)))) (rd l1 (ji5)))) 999999999) (wrap64 ((wrap64 ((wrap64 ((rd l0 (l1.length : Int)) * 1000000000)) + (rd l0 (ji5)))) - (wrap64 ((mn (wrap64 (Int.tdiv (wrap64 ((wrap64 ((rd l0 (l1.length : Int)) * 1000000000)) + (rd l0 (ji5)))) (rd l1 (ji5)))) 999999999) * (rd l1 (ji5)))))))) else (none)) else (none)) else (none)) = some (r1, r2) := by first | (rw [hji5] at H; exact H) | (simp only [hji5] at H ⊢; exact H)
 have hji5w : (IntKind.i64.wrap ((l1.length : Int) - 1)) = ji5 := (i64_w _).trans hji5
 obtain ⟨-, c6b0, H⟩ := gd H
 obtain ⟨-, c7b0, H⟩ := gd H
 obtain ⟨-, c8b0, H⟩ := gd H
 obtain ⟨c9, c9b0, c9b1, H⟩ := fQ H
 obtain ⟨ji10, hji10⟩ : ∃ j_ : Int, (mn (wrap64 (Int.tdiv (wrap64 ((wrap64 ((rd l0 (l1.length : Int)) * 1000000000)) + (rd l0 (ji5)))) (rd l1 (ji5)))) 999999999) = j_ := ⟨_, rfl⟩
 replace H : (bIestimate.l0 k l0 l1 (l1.length : Int) ji10 (wrap64 ((wrap64 ((wrap64 ((rd l0 (l1.length : Int)) * 1000000000)) + (rd l0 (ji5)))) - (wrap64 ((ji10) * (rd l1 (ji5))))))) = some (r1, r2) := by first | (rw [hji10] at H; exact H) | (simp only [hji10] at H ⊢; exact H)
 have hji10_ : (if 999999999 < (wrap64 (Int.tdiv (wrap64 ((wrap64 ((rd l0 (l1.length : Int)) * 1000000000)) + (rd l0 (ji5)))) (rd l1 (ji5)))) then 999999999 else (wrap64 (Int.tdiv (wrap64 ((wrap64 ((rd l0 (l1.length : Int)) * 1000000000)) + (rd l0 (ji5)))) (rd l1 (ji5))))) = ji10 := hji10
 have HC11 := Z0.mk H
 clear H
 obtain ⟨gW, co12, eo12⟩ := WR_slice2 HO0.out
 subst eo12
 obtain ⟨ad130, e130, hx130_0, p130, q130⟩ := atI (WR_reads' HO0.out).2.2 (l1.length : Int)
 cases e130
 simp only [add_off] at hx130_0
 (try simp only [Go.IntWalk.toNatUp] at hx130_0)
 obtain ⟨ad131, e131, hx131_0, p131, q131⟩ := atI (WR_reads' HO0.out).2.2 (ji5)
 cases e131
 simp only [add_off] at hx131_0
 obtain ⟨ad132, e132, hx132_0, p132, q132⟩ := atI (Kd.C_kept_now HR1.out HK.out) (ji5)
 cases e132
 obtain ⟨ad133, e133, hx133_0, p133, q133⟩ := atI (Kd.C_kept_now HR1.out HK.out) (ji5)
 obtain rfl : ad132 = ad133 := (by injection e133)
 go_enter Tryz.func148, Tryz.ntmps148
 go_upto_block 0 with (fail)
 repeat (go_quiet (fail); go_upto_block 0 with (fail))
 go_cut [7] (fun v7 wc => ∃ (kq : Nat) (x7_10 : Int), v7 = .int .i64 x7_10 ∧ Z0 (bIestimate.j1 kq l0 l1 (l1.length : Int) x7_10 = some (r1, r2)) ∧ Z0 (kq ≤ k) ∧ Z0 (WR pre post oW cF wc w0.heap.size (fun k_ => (P0_ k_ ∨ w.heap.size ≤ k_)) (.slice (some ⟨gW, oW, none⟩) l0.length co12) l0) ∧ Z0 (Kept w wc (fun k_ => P0_ k_)) ∧ Z0 (Below w0.heap.size w0 wc))
 case first =>
  have H := HC11.out
  clear HC11
  have H' := Z0.mk H
  clear H
  go_wp2
  repeat (go_quiet (fail); try go_wp2)
  go_loopg [7, 8] k (fun kq v7 v8 w' => ∃ (x7_1 : Int) (x8_1 : Int), v7 = .int .i64 x7_1 ∧ v8 = .int .i64 x8_1 ∧ Z0 (bIestimate.l0 kq l0 l1 (l1.length : Int) x7_1 x8_1 = some (r1, r2)) ∧ Z0 (kq ≤ k) ∧ Z0 (WR pre post oW cF w' w0.heap.size (fun k_ => (P0_ k_ ∨ w.heap.size ≤ k_)) (.slice (some ⟨gW, oW, none⟩) l0.length co12) l0) ∧ Z0 (Kept w w' (fun k_ => P0_ k_)) ∧ Z0 (Below w0.heap.size w0 w'))
  case atStart => exact ⟨(ji10), (wrap64 ((wrap64 ((wrap64 ((rd l0 (l1.length : Int)) * 1000000000)) + (rd l0 (ji5)))) - (wrap64 ((ji10) * (rd l1 (ji5)))))), (by first | rfl | (simp; done) | (simp only [← hji10] <;> (first | rfl | simp)) | (simp [*]; done)), (by first | rfl | (simp; done) | (simp only [← hji5, ← hji10] <;> (first | rfl | simp)) | (simp [*]; done)), H', ⟨Nat.le_refl _⟩, ⟨by (with_reducible repeat (first | apply WR_alloc | apply WR_drewN | apply WR_drew)); exact HO0.out⟩, ⟨kqs⟩, ⟨bqs⟩⟩
  case round =>
   clear H'
   try clear c1
   try clear p1
   try clear q1
   try clear hx1
   try clear p2
   try clear c3
   try clear c3b0
   try clear c3b1
   try clear c4
   try clear c4b0
   try clear c4b1
   try clear c6
   try clear c6b0
   try clear p6
   try clear c7
   try clear c7b0
   try clear c8
   try clear c8b0
   try clear c9
   try clear c9b0
   try clear c9b1
   try clear hx130_0
   try clear hx131_0
   try clear hx132_0
   try clear hx133_0
   try clear p130
   try clear p131
   try clear p132
   try clear p133
   try clear q130
   try clear q131
   try clear q132
   try clear q133
   obtain ⟨x7_1, x8_1, rfl, rfl, HA, HK1, HO_0, HK, HB⟩ := hrel
   cases gk with
   | zero => exact absurd HA.out (by simp [bIestimate.l0])
   | succ k1 =>
    have H := HA.out
    clear HA
    simp only [bIestimate.l0] at H
    rcases jd H with ⟨-, c13b0, H⟩ | ⟨-, c13b0, H⟩
    ·(first | rw [c13b0] | (simp only [i64_w, i32_w]; rw [c13b0]) | skip)
     obtain ⟨ji14, hji14⟩ : ∃ j_ : Int, (wrap64 ((l1.length : Int) - 2)) = j_ := ⟨_, rfl⟩
     replace H : (if 0 ≤ (ji14) then (if (ji14) < (l1.length : Int) then (if (ji14) < (l0.length : Int) then (if (wrap64 (x7_1 * (rd l1 (ji14)))) > (wrap64 ((wrap64 (x8_1 * 1000000000)) + (rd l0 (ji14)))) then (if 0 ≤ (wrap64 ((l1.length : Int) - 1)) then (if (wrap64 ((l1.length : Int) - 1)) < (l1.length : Int) then (bIestimate.l0 k1 l0 l1 (l1.length : Int) (wrap64 (x7_1 - 1)) (wrap64 (x8_1 + (rd l1 (wrap64 ((l1.length : Int) - 1)))))) else (none)) else (none)) else (bIestimate.j1 k1 l0 l1 (l1.length : Int) x7_1)) else (none)) else (none)) else (none)) = some (r1, r2) := by first | (rw [hji14] at H; exact H) | (simp only [hji14] at H ⊢; exact H)
     have hji14w : (IntKind.i64.wrap ((l1.length : Int) - 2)) = ji14 := (i64_w _).trans hji14
     obtain ⟨-, c15b0, H⟩ := gd H
     obtain ⟨-, c16b0, H⟩ := gd H
     obtain ⟨-, c17b0, H⟩ := gd H
     rcases jg H with ⟨-, c18b0, H⟩ | ⟨-, c18b0, H⟩
     ·obtain ⟨ji19, hji19⟩ : ∃ j_ : Int, (wrap64 ((l1.length : Int) - 1)) = j_ := ⟨_, rfl⟩
      replace H : (if 0 ≤ (ji19) then (if (ji19) < (l1.length : Int) then (bIestimate.l0 k1 l0 l1 (l1.length : Int) (wrap64 (x7_1 - 1)) (wrap64 (x8_1 + (rd l1 (ji19))))) else (none)) else (none)) = some (r1, r2) := by first | (rw [hji19] at H; exact H) | (simp only [hji19] at H ⊢; exact H)
      have hji19w : (IntKind.i64.wrap ((l1.length : Int) - 1)) = ji19 := (i64_w _).trans hji19
      have hal19 := Z0.mk (hji19.symm.trans hji5)
      obtain ⟨-, c20b0, H⟩ := gd H
      obtain ⟨-, c21b0, H⟩ := gd H
      have H' := Z0.mk H
      clear H
      obtain ⟨ad134, e134, hx134_0, p134, q134⟩ := atI (Kd.C_kept_now HR1.out HK.out) (ji14)
      obtain rfl : ad132 = ad134 := (by injection e134)
      obtain ⟨ad135, e135, hx135_0, p135, q135⟩ := atI (WR_reads' HO_0.out).2.2 (ji14)
      cases e135
      simp only [add_off] at hx135_0
      obtain ⟨ad136, e136, hx136_0, p136, q136⟩ := atI (Kd.C_kept_now HR1.out HK.out) (ji19)
      obtain rfl : ad132 = ad136 := (by injection e136)
      (try (have hx136_0_a := hx136_0; rw [hal19.out] at hx136_0_a))
      (try (have p136_a := p136; rw [hal19.out] at p136_a))
      (try (have q136_a := q136; rw [hal19.out] at q136_a))
      go_wp2
      repeat (go_quiet (fail); try go_wp2)
      go_roundg k1
      case measure => have := HK1.out; omega
      case rel => exact ⟨(wrap64 (x7_1 - 1)), (wrap64 (x8_1 + (rd l1 (ji19)))), fs, (by first | rfl | (simp; done) | (rw [hal19.out]; done) | (simp only [← hji19] <;> (first | rfl | simp)) | (simp [*]; done)), H', ⟨by have := HK1.out; omega⟩, ⟨by (with_reducible repeat (first | apply WR_alloc | apply WR_drewN | apply WR_drew)); exact HO_0.out⟩, ⟨kqs⟩, ⟨bqs⟩⟩
     have H' := Z0.mk H
     clear H
     obtain ⟨ad134, e134, hx134_0, p134, q134⟩ := atI (Kd.C_kept_now HR1.out HK.out) (ji14)
     obtain rfl : ad132 = ad134 := (by injection e134)
     obtain ⟨ad135, e135, hx135_0, p135, q135⟩ := atI (WR_reads' HO_0.out).2.2 (ji14)
     cases e135
     simp only [add_off] at hx135_0
     go_wp2
     repeat (go_quiet (fail); try go_wp2)
     go_meet
     case rel => exact ⟨_, (x7_1), fs, H', ⟨by have := HK1.out; first | omega | exact Nat.le_refl _⟩, ⟨by (with_reducible repeat (first | apply WR_alloc | apply WR_drewN | apply WR_drew)); exact HO_0.out⟩, ⟨kqs⟩, ⟨bqs⟩⟩
    (first | rw [c13b0] | (simp only [i64_w, i32_w]; rw [c13b0]) | skip)
    have H' := Z0.mk H
    clear H
    go_wp2
    repeat (go_quiet (fail); try go_wp2)
    go_meet
    case rel => exact ⟨_, (x7_1), fs, H', ⟨by have := HK1.out; first | omega | exact Nat.le_refl _⟩, ⟨by (with_reducible repeat (first | apply WR_alloc | apply WR_drewN | apply WR_drew)); exact HO_0.out⟩, ⟨kqs⟩, ⟨bqs⟩⟩
 case rest =>
  clear HC11
  try clear c1
  try clear p1
  try clear q1
  try clear hx1
  try clear c2
  try clear p2
  try clear c3
  try clear c3b0
  try clear c3b1
  try clear c4
  try clear c4b0
  try clear c4b1
  try clear c6
  try clear c6b0
  try clear p6
  try clear c7
  try clear c7b0
  try clear c8
  try clear c8b0
  try clear c9
  try clear c9b0
  try clear c9b1
  try clear c13
  try clear c13b0
  try clear p13
  try clear q13
  try clear hx13
  try clear c14
  try clear c15
  try clear c15b0
  try clear c16
  try clear c16b0
  try clear c17
  try clear c17b0
  try clear c18
  try clear c18b0
  try clear c20
  try clear c20b0
  try clear c21
  try clear c21b0
  try clear hx130_0
  try clear hx131_0
  try clear hx132_0
  try clear hx133_0
  try clear hx134_0
  try clear hx135_0
  try clear hx136_0
  try clear p1
  try clear p130
  try clear p131
  try clear p132
  try clear p133
  try clear p134
  try clear p135
  try clear p136
  try clear p2
  try clear p6
  try clear q1
  try clear q130
  try clear q131
  try clear q132
  try clear q133
  try clear q134
  try clear q135
  try clear q136
  obtain ⟨kq, x7_10, rfl, HA, HJ10, HO_0, HK, HB⟩ := hcut
  cases kq with
  | zero => exact absurd HA.out (by simp [bIestimate.j1])
  | succ kj10 =>
   have H := HA.out
   clear HA
   simp only [bIestimate.j1] at H
   obtain ⟨⟨t137, t138⟩, A22, H⟩ := bnd H
   try dsimp only at H
   by_cases c23 : t137 = true
   ·subst c23
    have H1 : (some (x7_10, t138)) = some (r1, r2) := by rw [if_pos rfl] at H; exact H
    clear H
    have H := H1
    clear H1
    simp only [Option.some.injEq, Prod.mk.injEq] at H
    obtain ⟨rfl, rfl⟩ := H
    go_wp2_with (first | (go_at_call 178; (with_reducible refine (bIsubtract.calls (pre := pre) (post := post) (oW := oW) (cF := cF) kj10 (fun k_ => some k_ = (.slice (some ⟨gW, oW, none⟩) l0.length co12 : Value).ownBlock) (.slice (some ⟨gW, oW, none⟩) l0.length co12) l0 _ _ l1 x7_10 true t138 w0 _ ?side1 ?side2 ?side3 ?side4 A22.out).mono ?_); (case side1 => repeat (first | (with_reducible first | exact HB.out | apply below_alloc | apply pw_below_drewN | apply below_drew1) | exact HB.out)); (case side2 => exact WR_tight rfl HO_0.out); (case side3 => exact Kd.C_kept_call HR1.out kqs (fun k_ hs_ => (fun e_ => (HO_0.out.1 k_ e_.symm)) hs_)); (case side4 => exact HC1.out); rintro e w24 ⟨rfl, hy0, hb, hkp⟩; have n0_ := Z0.mk (WR_reok rfl hy0 (fun k_ e_ => HO_0.out.1 k_ e_)); have n1_ := Z0.mk (Kept.then_ (S := (fun k_ => P0_ k_)) kqs hkp (fun k_ hs_ => (fun e_ => (HO_0.out.1 k_ e_.symm)) hs_)); have n2_ := Z0.mk (hb); clear HO_0; clear HK; clear HB; have HO_0 := n0_; have HK := n1_; have HB := n2_; clear n0_ n1_ n2_; clear hb hkp hy0) | (go_quiet (first | (go_at_call 178; (with_reducible refine (bIsubtract.calls (pre := pre) (post := post) (oW := oW) (cF := cF) kj10 (fun k_ => some k_ = (.slice (some ⟨gW, oW, none⟩) l0.length co12 : Value).ownBlock) (.slice (some ⟨gW, oW, none⟩) l0.length co12) l0 _ _ l1 x7_10 true t138 w0 _ ?side1 ?side2 ?side3 ?side4 A22.out).mono ?_); (case side1 => repeat (first | (with_reducible first | exact HB.out | apply below_alloc | apply pw_below_drewN | apply below_drew1) | exact HB.out)); (case side2 => exact WR_tight rfl HO_0.out); (case side3 => exact Kd.C_kept_call HR1.out kqs (fun k_ hs_ => (fun e_ => (HO_0.out.1 k_ e_.symm)) hs_)); (case side4 => exact HC1.out); rintro e w24 ⟨rfl, hy0, hb, hkp⟩; have n0_ := Z0.mk (WR_reok rfl hy0 (fun k_ e_ => HO_0.out.1 k_ e_)); have n1_ := Z0.mk (Kept.then_ (S := (fun k_ => P0_ k_)) kqs hkp (fun k_ hs_ => (fun e_ => (HO_0.out.1 k_ e_.symm)) hs_)); have n2_ := Z0.mk (hb); clear HO_0; clear HK; clear HB; have HO_0 := n0_; have HK := n1_; have HB := n2_; clear n0_ n1_ n2_; clear hb hkp hy0))))
    go_ret
    exact ⟨by first | rfl | (simp [errW_none, errW_some] <;> rfl) | (simp only [← hji5, ← hji10]; first | rfl | (simp [errW_none, errW_some] <;> rfl)) | (simp [*, errW_none, errW_some] <;> rfl), by (with_reducible repeat (first | apply WR_alloc | apply WR_drewN | apply WR_drew)); exact HO_0.out, bqs, kqs⟩
   replace c23 := Bool.eq_false_iff.mpr c23
   subst c23
   have H1 : (bIestimate.l1 kj10 t138 l1 (l1.length : Int) (wrap64 (x7_10 - 1)) 0 (l0.length : Int) 0) = some (r1, r2) := by rw [if_neg (show ¬ (false = true) by decide)] at H; exact H
   clear H
   have H := H1
   clear H1
   have H' := Z0.mk H
   clear H
   go_wp2_with (first | (go_at_call 178; (with_reducible refine (bIsubtract.calls (pre := pre) (post := post) (oW := oW) (cF := cF) kj10 (fun k_ => some k_ = (.slice (some ⟨gW, oW, none⟩) l0.length co12 : Value).ownBlock) (.slice (some ⟨gW, oW, none⟩) l0.length co12) l0 _ _ l1 x7_10 false t138 w0 _ ?side1 ?side2 ?side3 ?side4 A22.out).mono ?_); (case side1 => repeat (first | (with_reducible first | exact HB.out | apply below_alloc | apply pw_below_drewN | apply below_drew1) | exact HB.out)); (case side2 => exact WR_tight rfl HO_0.out); (case side3 => exact Kd.C_kept_call HR1.out kqs (fun k_ hs_ => (fun e_ => (HO_0.out.1 k_ e_.symm)) hs_)); (case side4 => exact HC1.out); rintro e w25 ⟨rfl, hy0, hb, hkp⟩; have n0_ := Z0.mk (WR_reok rfl hy0 (fun k_ e_ => HO_0.out.1 k_ e_)); have n1_ := Z0.mk (Kept.then_ (S := (fun k_ => P0_ k_)) kqs hkp (fun k_ hs_ => (fun e_ => (HO_0.out.1 k_ e_.symm)) hs_)); have n2_ := Z0.mk (hb); clear HO_0; clear HK; clear HB; have HO_0 := n0_; have HK := n1_; have HB := n2_; clear n0_ n1_ n2_; clear hb hkp hy0) | (go_quiet (first | (go_at_call 178; (with_reducible refine (bIsubtract.calls (pre := pre) (post := post) (oW := oW) (cF := cF) kj10 (fun k_ => some k_ = (.slice (some ⟨gW, oW, none⟩) l0.length co12 : Value).ownBlock) (.slice (some ⟨gW, oW, none⟩) l0.length co12) l0 _ _ l1 x7_10 false t138 w0 _ ?side1 ?side2 ?side3 ?side4 A22.out).mono ?_); (case side1 => repeat (first | (with_reducible first | exact HB.out | apply below_alloc | apply pw_below_drewN | apply below_drew1) | exact HB.out)); (case side2 => exact WR_tight rfl HO_0.out); (case side3 => exact Kd.C_kept_call HR1.out kqs (fun k_ hs_ => (fun e_ => (HO_0.out.1 k_ e_.symm)) hs_)); (case side4 => exact HC1.out); rintro e w25 ⟨rfl, hy0, hb, hkp⟩; have n0_ := Z0.mk (WR_reok rfl hy0 (fun k_ e_ => HO_0.out.1 k_ e_)); have n1_ := Z0.mk (Kept.then_ (S := (fun k_ => P0_ k_)) kqs hkp (fun k_ hs_ => (fun e_ => (HO_0.out.1 k_ e_.symm)) hs_)); have n2_ := Z0.mk (hb); clear HO_0; clear HK; clear HB; have HO_0 := n0_; have HK := n1_; have HB := n2_; clear n0_ n1_ n2_; clear hb hkp hy0))))
   go_loopg [9, 79] kj10 (fun kq v9 v79 w' => ∃ (x0_2 : List Int) (x9_2 : Int) (x79_2 : Int), v9 = .int .i64 x9_2 ∧ v79 = .int .i64 x79_2 ∧ Z0 (bIestimate.l1 kq x0_2 l1 (l1.length : Int) (wrap64 (x7_10 - 1)) x9_2 (l0.length : Int) x79_2 = some (r1, r2)) ∧ Z0 (kq ≤ kj10) ∧ Z0 (WR pre post oW cF w' w0.heap.size (fun k_ => (P0_ k_ ∨ w.heap.size ≤ k_)) (.slice (some ⟨gW, oW, none⟩) l0.length co12) x0_2) ∧ Z0 (Kept w w' (fun k_ => P0_ k_)) ∧ Z0 (Below w0.heap.size w0 w'))
   case atStart => exact ⟨(t138), (0), (0), fs, fs, H', ⟨Nat.le_refl _⟩, ⟨by (with_reducible repeat (first | apply WR_alloc | apply WR_drewN | apply WR_drew)); exact HO_0.out⟩, ⟨kqs⟩, ⟨bqs⟩⟩
   case round =>
    clear H'
    try clear c1
    try clear p1
    try clear q1
    try clear hx1
    try clear c2
    try clear p2
    try clear c3
    try clear c3b0
    try clear c3b1
    try clear c4
    try clear c4b0
    try clear c4b1
    try clear c6
    try clear c6b0
    try clear p6
    try clear c7
    try clear c7b0
    try clear c8
    try clear c8b0
    try clear c9
    try clear c9b0
    try clear c9b1
    try clear c13
    try clear c13b0
    try clear p13
    try clear q13
    try clear hx13
    try clear c14
    try clear c15
    try clear c15b0
    try clear c16
    try clear c16b0
    try clear c17
    try clear c17b0
    try clear c18
    try clear c18b0
    try clear c20
    try clear c20b0
    try clear c21
    try clear c21b0
    try clear c23
    try clear hx130_0
    try clear hx131_0
    try clear hx132_0
    try clear hx133_0
    try clear hx134_0
    try clear hx135_0
    try clear hx136_0
    try clear p1
    try clear p13
    try clear p130
    try clear p131
    try clear p132
    try clear p133
    try clear p134
    try clear p135
    try clear p136
    try clear p2
    try clear p6
    try clear q1
    try clear q13
    try clear q130
    try clear q131
    try clear q132
    try clear q133
    try clear q134
    try clear q135
    try clear q136
    obtain ⟨x0_2, x9_2, x79_2, rfl, rfl, HA, HK2, HO_0, HK, HB⟩ := hrel
    have hl0_2 := (WR_reads' HO_0.out).1
    rw [hl0_2] at HO_0
    (try simp only [hl0_2])
    cases gk with
    | zero => exact absurd HA.out (by simp [bIestimate.l1])
    | succ k2 =>
     have H := HA.out
     clear HA
     simp only [bIestimate.l1] at H
     rcases jd H with ⟨c26, c26b0, H⟩ | ⟨c26, c26b0, H⟩
     ·(try (have c26b0_ := c26b0; rw [hl0_2] at c26b0_))
      clear c26
      obtain ⟨-, c27b0, H⟩ := gd H
      obtain ⟨c28, c28b0, H⟩ := gd H
      (try (have c28b0_ := c28b0; rw [hl0_2] at c28b0_))
      clear c28
      rcases jd H with ⟨c29, c29b0, H⟩ | ⟨c29, c29b0, H⟩
      ·(try (have c29b0_ := c29b0; rw [hl0_2] at c29b0_))
       clear c29
       obtain ⟨c30, c30b0, H⟩ := gd H
       (try (have c30b0_ := c30b0; rw [hl0_2] at c30b0_))
       clear c30
       generalize hy141 : (x0_2.set (x79_2 : Int).toNat (Int.tmod (wrap64 ((wrap64 (x9_2 + (rd x0_2 x79_2))) + (rd l1 x79_2))) 1000000000) : List Int) = y141 at H
       have Ny141 := Z0.mk hy141.symm
       clear hy141
       have H' := Z0.mk H
       clear H
       obtain ⟨ad139, e139, hx139_0, p139, q139⟩ := atI (WR_reads' HO_0.out).2.2 x79_2
       cases e139
       simp only [add_off] at hx139_0
       obtain ⟨ad140, e140, hx140_0, p140, q140⟩ := atI (Kd.C_kept_now HR1.out HK.out) x79_2
       obtain rfl : ad132 = ad140 := (by injection e140)
       have p31 : 0 ≤ (x79_2 : Int) := od
       have q31 : (x79_2 : Int) < ((x0_2.length : Int) : Int) := od
       obtain ⟨gb31, gl31, cl31, HG31⟩ := WR_form2 HO_0.out (by omega)
       have GB31 := Z0.mk gb31
       have GG31 := Z0.mk HG31
       clear gb31 gl31 HG31
       have HMgo31 := Z0.mk (show (P0_ gW ∨ w.heap.size ≤ gW) from (HO_0.out.1 _ rfl))
       obtain ⟨hx31_0, hf31_0⟩ := WR_celln 0 HO_0.out (x79_2 : Int) p31 q31
       replace p31 := eq_true p31
       replace q31 := eq_true q31
       have HP32 := WR_putg HO_0.out (x79_2 : Int) (by have h1_ := of_eq_true p31; have h2_ := of_eq_true q31; omega) (Int.tmod (wrap64 ((wrap64 (x9_2 + (rd x0_2 x79_2))) + (rd l1 x79_2))) 1000000000)
       go_wp2_with (first | ((with_reducible refine gate_store (t := 3) (p := 103) rfl ?_); (try (rw [drewN_self wr]; generalize hq_ : World.drewN wr _ = wr; replace HO_0 := Z0.mk (WR_at hq_ HO_0.out); replace HK := Z0.mk (kept_at hq_ HK.out); replace HB := Z0.mk (below_at hq_ HB.out); clear hq_; (try (have HP32 := WR_putg HO_0.out (x79_2 : Int) (by have h1_ := of_eq_true p31; have h2_ := of_eq_true q31; omega) (Int.tmod (wrap64 ((wrap64 (x9_2 + (rd x0_2 x79_2))) + (rd l1 x79_2))) 1000000000))))); refine store_event (t := 3) (p := 103) (v := ?vo_w33) (w1 := (wr.setCell ⟨gW, oW + (x79_2 : Int).toNat, none⟩ (.int .i64 (Int.tmod (wrap64 ((wrap64 (x9_2 + (rd x0_2 x79_2))) + (rd l1 x79_2))) 1000000000)))) ?hg ?ho ?hn ?hr ?_; (case ho => rfl); (case hg => rfl); (case hn => rfl); (case hr => first | (go_simp; done) | (go_simp; rfl)); intro w33 hw; have hg : wr.grownBy w33 (some gW) := (by rw [hw]; exact HP32.2); have hp_ : WR pre post oW cF w33 w0.heap.size (fun k_ => (P0_ k_ ∨ w.heap.size ≤ k_)) (.slice (some ⟨gW, oW, none⟩) x0_2.length co12) y141 := (by rw [hw, Ny141.out]; exact HP32.1); clear HP32; have n0_ := Z0.mk (hp_); have n1_ := Z0.mk ((by rw [hw]; exact below_set (HB.out) GB31.out : Below w0.heap.size w0 w33)); have n2_ := Z0.mk (Kept.of_grown (S := (fun k_ => P0_ k_)) hg kqs (fun k_ e_ => (HO_0.out.1 k_ e_))); clear HO_0; clear HB; clear HK; have HO_0 := n0_; have HB := n1_; have HK := n2_; clear n0_ n1_ n2_; clear hg hw hp_) | (go_quiet (fail)))
       (try simp only [← hl0_2])
       go_roundg k2
       case measure => have := HJ10.out; have := HK2.out; omega
       case rel => exact ⟨(y141), (wrap64 (Int.tdiv (wrap64 ((wrap64 (x9_2 + (rd x0_2 x79_2))) + (rd l1 x79_2))) 1000000000)), (wrap64 (x79_2 + 1)), fs, fs, H', ⟨by have := HJ10.out; have := HK2.out; omega⟩, ⟨by (try simp only [hl0_2]); (with_reducible repeat (first | apply WR_alloc | apply WR_drewN | apply WR_drew)); exact HO_0.out⟩, ⟨kqs⟩, ⟨bqs⟩⟩
      (try (have c29b0_ := c29b0; rw [hl0_2] at c29b0_))
      clear c29
      generalize hy142 : (x0_2.set (x79_2 : Int).toNat (Int.tmod (wrap64 (x9_2 + (rd x0_2 x79_2))) 1000000000) : List Int) = y142 at H
      have Ny142 := Z0.mk hy142.symm
      clear hy142
      have H' := Z0.mk H
      clear H
      obtain ⟨ad139, e139, hx139_0, p139, q139⟩ := atI (WR_reads' HO_0.out).2.2 x79_2
      cases e139
      simp only [add_off] at hx139_0
      have p34 : 0 ≤ (x79_2 : Int) := od
      have q34 : (x79_2 : Int) < ((x0_2.length : Int) : Int) := od
      obtain ⟨gb34, gl34, cl34, HG34⟩ := WR_form2 HO_0.out (by omega)
      have GB34 := Z0.mk gb34
      have GG34 := Z0.mk HG34
      clear gb34 gl34 HG34
      have HMgo34 := Z0.mk (show (P0_ gW ∨ w.heap.size ≤ gW) from (HO_0.out.1 _ rfl))
      obtain ⟨hx34_0, hf34_0⟩ := WR_celln 0 HO_0.out (x79_2 : Int) p34 q34
      replace p34 := eq_true p34
      replace q34 := eq_true q34
      have HP35 := WR_putg HO_0.out (x79_2 : Int) (by have h1_ := of_eq_true p34; have h2_ := of_eq_true q34; omega) (Int.tmod (wrap64 (x9_2 + (rd x0_2 x79_2))) 1000000000)
      go_wp2_with (first | ((with_reducible refine gate_store (t := 3) (p := 103) rfl ?_); (try (rw [drewN_self wr]; generalize hq_ : World.drewN wr _ = wr; replace HO_0 := Z0.mk (WR_at hq_ HO_0.out); replace HK := Z0.mk (kept_at hq_ HK.out); replace HB := Z0.mk (below_at hq_ HB.out); clear hq_; (try (have HP35 := WR_putg HO_0.out (x79_2 : Int) (by have h1_ := of_eq_true p34; have h2_ := of_eq_true q34; omega) (Int.tmod (wrap64 (x9_2 + (rd x0_2 x79_2))) 1000000000))))); refine store_event (t := 3) (p := 103) (v := ?vo_w36) (w1 := (wr.setCell ⟨gW, oW + (x79_2 : Int).toNat, none⟩ (.int .i64 (Int.tmod (wrap64 (x9_2 + (rd x0_2 x79_2))) 1000000000)))) ?hg ?ho ?hn ?hr ?_; (case ho => rfl); (case hg => rfl); (case hn => rfl); (case hr => first | (go_simp; done) | (go_simp; rfl)); intro w36 hw; have hg : wr.grownBy w36 (some gW) := (by rw [hw]; exact HP35.2); have hp_ : WR pre post oW cF w36 w0.heap.size (fun k_ => (P0_ k_ ∨ w.heap.size ≤ k_)) (.slice (some ⟨gW, oW, none⟩) x0_2.length co12) y142 := (by rw [hw, Ny142.out]; exact HP35.1); clear HP35; have n0_ := Z0.mk (hp_); have n1_ := Z0.mk ((by rw [hw]; exact below_set (HB.out) GB34.out : Below w0.heap.size w0 w36)); have n2_ := Z0.mk (Kept.of_grown (S := (fun k_ => P0_ k_)) hg kqs (fun k_ e_ => (HO_0.out.1 k_ e_))); clear HO_0; clear HB; clear HK; have HO_0 := n0_; have HB := n1_; have HK := n2_; clear n0_ n1_ n2_; clear hg hw hp_) | (go_quiet (fail)))
      (try simp only [← hl0_2])
      go_roundg k2
      case measure => have := HJ10.out; have := HK2.out; omega
      case rel => exact ⟨(y142), (wrap64 (Int.tdiv (wrap64 (x9_2 + (rd x0_2 x79_2))) 1000000000)), (wrap64 (x79_2 + 1)), fs, fs, H', ⟨by have := HJ10.out; have := HK2.out; omega⟩, ⟨by (try simp only [hl0_2]); (with_reducible repeat (first | apply WR_alloc | apply WR_drewN | apply WR_drew)); exact HO_0.out⟩, ⟨kqs⟩, ⟨bqs⟩⟩
     (try (have c26b0_ := c26b0; rw [hl0_2] at c26b0_))
     clear c26
     simp only [Option.some.injEq, Prod.mk.injEq] at H
     obtain ⟨rfl, rfl⟩ := H
     go_wp2
     repeat (go_quiet (fail); try go_wp2)
     go_ret
     exact ⟨by first | rfl | (simp [errW_none, errW_some] <;> rfl) | (simp only [← hji5, ← hji10]; first | rfl | (simp [errW_none, errW_some] <;> rfl)) | (simp [*, errW_none, errW_some] <;> rfl), (by first | exact (by (with_reducible repeat (first | apply WR_alloc | apply WR_drewN | apply WR_drew)); exact HO_0.out) | (simp only [hl0_2]; exact (by (with_reducible repeat (first | apply WR_alloc | apply WR_drewN | apply WR_drew)); exact HO_0.out))), bqs, kqs⟩
end Go.Proofs.YthnfajboebaajaaGreatDoor
