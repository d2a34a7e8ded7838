import Derived.Test.YtinpcbjjnlpblaaGreatDoorAG1
import Derived.Test.YtinpcbjjnlpblaaGreatDoorAD
import Derived.Test.YtinpcbjjnlpblaaGreatDoorAG4
import Derived.Test.YtinpcbjjnlpblaaGreatDoorAG7
import Derived.Test.YtinpcbjjnlpblaaGreatDoorAG8
import Derived.Deep.RegionHeld3
set_option maxHeartbeats 8000000
set_option maxRecDepth 100000
set_option linter.unusedVariables false
namespace Go.Proofs.YtinpcbjjnlpblaaGreatDoor
set_option linter.unusedVariables false
set_option linter.unusedSimpArgs false
open Go.RowKit Go.Proofs.WWords Go.Proofs.WLast Go.Proofs.WMore PA
theorem rAcalculate.calls (k : Nat) (a0 : Int) (a1 : ByteArray) (a2 : ByteArray) (r1 : ByteArray) (r2 : Int) (w : World) (hL : LaidW w) (h : rAcalculate.f k a0 a1 a2 = some (r1, r2)) :
    Calls Tryz.prog 28 #[.int .u8 a0, .string a1, .string a2] w fun e w' => e = .returned (.tuple #[.string r1, .int .i64 r2]) ∧ Below w.heap.size w w' := by
 have hu95 := Tryz.underlying63
 unfold rAcalculate.f at h
 split at h
 rotate_left
 split at h
 rotate_left
 split at h
 rotate_left
 split at h
 rotate_left
 ·cases h
 all_goals (
  rename_i e; subst e
  unfold calcF at h
  obtain ⟨⟨p, q, r, s, e1⟩, hp, h⟩ := Option.bind_eq_some_iff.mp h
  simp only at h
  by_cases c1 : e1 = 0
  rotate_left
  ·rw [if_neg c1] at h
   simp only [Option.some.injEq, Prod.mk.injEq] at h
   obtain ⟨rfl, rfl⟩ := h
   have c1b : (e1 != 0) = true := bne_iff_ne.mpr c1
   have c1c : (e1 == 0) = false := beq_eq_false_iff_ne.mpr c1
   go_enter Tryz.func28, Tryz.ntmps28
   go_wp2_with (first | ((with_reducible refine gc_ 36 rfl ?_); refine goB (w0 := w) (some 15) Tryz.func36 #[.string a1, .string a2] (Below.refl _ _) (rAnewPair.calls k a1 a2 p q r s e1 _ hL hp) ?_; intro w1 HB) | ((with_reducible refine gd_ 8 rfl ?_); refine bxE 8 #[.string (⟨#[]⟩ : ByteArray), .string (⟨#[]⟩ : ByteArray), .string (⟨#[]⟩ : ByteArray), .string (⟨#[]⟩ : ByteArray)] 63 ?_; intro gb hg wb hbox hbb; have hgl : w.heap.size ≤ gb := (by rw [hg]; exact HB.out.size); have HB2 := Z0.mk (below_step HB.out hbb); clear HB hg hbb; have HB := HB2; clear HB2; have hc0 : wb.cell? ⟨gb, 0, none⟩ = some (.string (⟨#[]⟩ : ByteArray)) := (blk_cell hbox 0).trans rfl; have hf0 := blk_frozen hbox 0; have hc1 : wb.cell? ⟨gb, 1, none⟩ = some (.string (⟨#[]⟩ : ByteArray)) := (blk_cell hbox 1).trans rfl; have hf1 := blk_frozen hbox 1; have hc2 : wb.cell? ⟨gb, 2, none⟩ = some (.string (⟨#[]⟩ : ByteArray)) := (blk_cell hbox 2).trans rfl; have hf2 := blk_frozen hbox 2; have hc3 : wb.cell? ⟨gb, 3, none⟩ = some (.string (⟨#[]⟩ : ByteArray)) := (blk_cell hbox 3).trans rfl; have hf3 := blk_frozen hbox 3))
   go_ret2
   exact ⟨rfl, below_set (below_set (below_set (below_set HB.out hgl) hgl) hgl) hgl⟩
  rw [if_pos c1] at h
  obtain ⟨⟨y1, y2, e2⟩, ho, h⟩ := Option.bind_eq_some_iff.mp h
  simp only at h
  have c1b : (e1 != 0) = false := bne_eq_false_iff_eq.mpr c1
  have c1c : (e1 == 0) = true := beq_iff_eq.mpr c1
  clear c1
  by_cases c2 : e2 = 0
  all_goals (
   first
    | (rw [if_pos c2] at h; have hw := h; have c2b : (e2 != 0) = false := bne_eq_false_iff_eq.mpr c2; have c2c : (e2 == 0) = true := beq_iff_eq.mpr c2)
    | (rw [if_neg c2] at h; simp only [Option.some.injEq, Prod.mk.injEq] at h; obtain ⟨rfl, rfl⟩ := h; have c2b : (e2 != 0) = true := bne_iff_ne.mpr c2; have c2c : (e2 == 0) = false := beq_eq_false_iff_ne.mpr c2)
   clear c2
   go_enter Tryz.func28, Tryz.ntmps28
   go_wp2_with (first | ((with_reducible refine gc_ 36 rfl ?_); refine goB (w0 := w) (some 15) Tryz.func36 #[.string a1, .string a2] (Below.refl _ _) (rAnewPair.calls k a1 a2 p q r s e1 _ hL hp) ?_; intro w1 HB) | ((with_reducible refine gd_ 8 rfl ?_); refine bxE 8 #[.string (⟨#[]⟩ : ByteArray), .string (⟨#[]⟩ : ByteArray), .string (⟨#[]⟩ : ByteArray), .string (⟨#[]⟩ : ByteArray)] 63 ?_; intro gb hg wb hbox hbb; have hgl : w.heap.size ≤ gb := (by rw [hg]; exact HB.out.size); have HB2 := Z0.mk (below_step HB.out hbb); clear HB hg hbb; have HB := HB2; clear HB2; have hc0 : wb.cell? ⟨gb, 0, none⟩ = some (.string (⟨#[]⟩ : ByteArray)) := (blk_cell hbox 0).trans rfl; have hf0 := blk_frozen hbox 0; have hc1 : wb.cell? ⟨gb, 1, none⟩ = some (.string (⟨#[]⟩ : ByteArray)) := (blk_cell hbox 1).trans rfl; have hf1 := blk_frozen hbox 1; have hc2 : wb.cell? ⟨gb, 2, none⟩ = some (.string (⟨#[]⟩ : ByteArray)) := (blk_cell hbox 2).trans rfl; have hf2 := blk_frozen hbox 2; have hc3 : wb.cell? ⟨gb, 3, none⟩ = some (.string (⟨#[]⟩ : ByteArray)) := (blk_cell hbox 3).trans rfl; have hf3 := blk_frozen hbox 3))
   obtain ⟨W, hW⟩ : ∃ W, ((((wb.setCell ⟨gb, 0, none⟩ (.string p)).setCell ⟨gb, 1, none⟩ (.string q)).setCell ⟨gb, 2, none⟩ (.string r)).setCell ⟨gb, 3, none⟩ (.string s)) = W := ⟨_, rfl⟩
   have hx : W.heap[gb]? = some (.cells #[.string p, .string q, .string r, .string s] 63 (0, 0)) := by
    rw [← hW]
    exact blk_put (cs := #[.string p, .string q, .string r, .string (⟨#[]⟩ : ByteArray)]) (blk_put (cs := #[.string p, .string q, .string (⟨#[]⟩ : ByteArray), .string (⟨#[]⟩ : ByteArray)]) (blk_put (cs := #[.string p, .string (⟨#[]⟩ : ByteArray), .string (⟨#[]⟩ : ByteArray), .string (⟨#[]⟩ : ByteArray)]) (blk_put hbox 0 _ rfl) 1 _ rfl) 2 _ rfl) 3 _ rfl
   have hBW : Below w.heap.size w W := by rw [← hW]; exact below_set (below_set (below_set (below_set HB.out hgl) hgl) hgl) hgl
   rw [hW]
   clear hW HB hbox
   have hxd : W.drew.heap[gb]? = some (.cells #[.string p, .string q, .string r, .string s] 63 (0, 0)) := hx
   have hBd : Below w.heap.size w W.drew := hBW.drew
   go_region_held3 (fun w' => w'.cell? ⟨gb, 0, none⟩ = some (.string p) ∧ w'.cell? ⟨gb, 1, none⟩ = some (.string q) ∧ w'.cell? ⟨gb, 2, none⟩ = some (.string r) ∧ w'.cell? ⟨gb, 3, none⟩ = some (.string s))
    (first | exact ⟨blk_cell hxd 0, blk_cell hxd 1, blk_cell hxd 2, blk_cell hxd 3⟩ | exact ⟨blk_cell hx2 0, blk_cell hx2 1, blk_cell hx2 2, blk_cell hx2 3⟩ | exact ⟨blk_cell hx3 0, blk_cell hx3 1, blk_cell hx3 2, blk_cell hx3 3⟩)
    (first
      | (go_at_call 70; refine (rops_calls _).mono ?_; rintro e w2 ⟨m, g1, g2, rfl, hm, hg1, hg2, hb2⟩
         have hx2 := (hb2.block gb (Array.getElem?_eq_some_iff.1 hxd).1).trans hxd
         have hB2 := below_step hBd hb2
         have hl43 := run_look m (ropsE g1 g2) 4 43 0 _ w2 hm rfl
         have hl45 := run_look m (ropsE g1 g2) 4 45 1 _ w2 hm rfl
         have hl42 := run_look m (ropsE g1 g2) 4 42 2 _ w2 hm rfl
         have hl47 := run_look m (ropsE g1 g2) 4 47 3 _ w2 hm rfl)
      | (go_at_call 144; refine (rAaddop.calls k p q r s y1 y2 e2 g1 w2 hg1 (hL.below hB2) ho).mono ?_; rintro e w3 ⟨rfl, hb3⟩
         have hx3 := (hb3.block gb (Array.getElem?_eq_some_iff.1 hx2).1).trans hx2
         have HB := Z0.mk (below_step hB2 hb3))
      | (go_at_call 144; refine (rAsubop.calls k p q r s y1 y2 e2 g2 w2 hg2 (hL.below hB2) ho).mono ?_; rintro e w3 ⟨rfl, hb3⟩
         have hx3 := (hb3.block gb (Array.getElem?_eq_some_iff.1 hx2).1).trans hx2
         have HB := Z0.mk (below_step hB2 hb3))
      | (go_at_call 115; refine (rAoperations_1.calls k p q r s y1 y2 e2 w2 (hL.below hB2) ho).mono ?_; rintro e w3 ⟨rfl, hb3⟩
         have hx3 := (hb3.block gb (Array.getElem?_eq_some_iff.1 hx2).1).trans hx2
         have HB := Z0.mk (below_step hB2 hb3))
      | (go_at_call 116; refine (rAoperations_2.calls k p q r s y1 y2 e2 w2 (hL.below hB2) ho).mono ?_; rintro e w3 ⟨rfl, hb3⟩
         have hx3 := (hb3.block gb (Array.getElem?_eq_some_iff.1 hx2).1).trans hx2
         have HB := Z0.mk (below_step hB2 hb3)))
   all_goals go_wp2_with (first | ((with_reducible refine gc_ 71 rfl ?_); refine goB (w0 := w) (some 35) Tryz.func71 #[.string y1, .string y2] HB.out (rAwhole.calls k y1 y2 r1 r2 _ (hL.below HB.out) hw) ?_; clear HB; intro w5 HB))
   go_ret2
   exact ⟨rfl, HB.out⟩))
end Go.Proofs.YtinpcbjjnlpblaaGreatDoor
namespace Go.Proofs.YtinpcbjjnlpblaaGreatDoor.PA
set_option linter.unusedVariables false
open Go.RowKit Go.Proofs.WWords Go.Proofs.WLast Go.Proofs.WMore
attribute [local go_sem] max2_int min2_int max_two min_two max_three min_three max_four min_four
set_option linter.unusedSimpArgs false
theorem rAAdd.calls (k : Nat) (a0 : ByteArray) (a1 : ByteArray) (r1 : ByteArray) (r2 : Int) (w : World) (hL : LaidW w) (h : rAAdd.f k a0 a1 = some (r1, r2)) :
  Calls Tryz.prog 8 #[.string a0, .string a1] w fun e w' => e = .returned (.tuple #[.string r1, .int .i64 r2]) ∧ Below w.heap.size w w' := by
 have HB := Z0.mk (Below.refl w.heap.size w)
 have H := h
 clear h
 unfold rAAdd.f at H
 obtain ⟨⟨t411, t412⟩, A3, H⟩ := bnd H
 try dsimp only at H
 simp only [Option.some.injEq, Prod.mk.injEq] at H
 obtain ⟨rfl, rfl⟩ := H
 go_enter Tryz.func8, Tryz.ntmps8
 go_wp2_with (first | ((with_reducible refine gc_ 28 rfl ?_); refine goB (some 8) Tryz.func28 #[.int .u8 43, .string a0, .string a1] bq (rAcalculate.calls k 43 a0 a1 t411 t412 _ (hL.below bq) A3.out) ?_; clear HB; intro w4 HB))
 go_ret2
 exact finE
theorem rFslash.calls (k : Nat) (a0 : ByteArray) (r : Int) (w : World) (h : rFslash.f k a0 = some r) :
  Calls Tryz.prog 79 #[.string a0] w fun e w' => e = .returned (.int .i64 r) ∧ Drawn0 w w' := by
 have H := h
 clear h
 unfold rFslash.f at H
 have H' := Z0.mk H
 clear H
 go_enter Tryz.func79, Tryz.ntmps79
 go_wp2
 go_loopg [3] k (fun kq v3 w' => ∃ (x3_1 : Int), v3 = .int .i64 x3_1 ∧ Z0 (rFslash.l0 kq a0 x3_1 = some r) ∧ Z0 (kq ≤ k) ∧ Drawn0 w w')
 case atStart => exact ⟨(0), fs, H', ⟨Nat.le_refl _⟩, by repeat (first | exact Drawn0.refl _ | apply Drawn0.step)⟩
 case round =>
  clear H'
  try clear c1
  obtain ⟨x3_1, rfl, HA, HK1, ⟨m1, rfl⟩⟩ := hrel
  cases gk with
  | zero => exact absurd HA.out (by simp [rFslash.l0])
  | succ k1 =>
   have H := HA.out
   clear HA
   simp only [rFslash.l0] at H
   rcases jd H with ⟨-, c2b0, H⟩ | ⟨-, c2b0, H⟩
   ·obtain ⟨-, c3b0, H⟩ := gd H
    rcases je H with ⟨-, c5b0, c5b1, H⟩ | ⟨c5, c5b0, c5b1, H⟩
    ·obtain rfl := Option.some.inj H
     obtain ⟨hx4, p4, q4⟩ := btA a0 x3_1
     go_wp2
     go_ret
     exact finD
    have H' := Z0.mk H
    clear H
    obtain ⟨hx4, p4, q4⟩ := btA a0 x3_1
    go_wp2
    go_roundg k1
    case measure => have := HK1.out; omega
    case rel => exact ⟨(wrap64 (x3_1 + 1)), fs, H', ⟨by have := HK1.out; omega⟩, by repeat (first | exact Drawn0.refl _ | apply Drawn0.step)⟩
   obtain rfl := Option.some.inj H
   go_wp2
   go_ret
   exact finD
theorem rFBottom.calls (k : Nat) (a0 : ByteArray) (r : ByteArray) (w : World) (h : rFBottom.f k a0 = some r) :
  Calls Tryz.prog 32 #[.string a0] w fun e w' => e = .returned (.string r) ∧ Drawn0 w w' := by
 have H := h
 clear h
 unfold rFBottom.f at H
 obtain ⟨t442, A2, H⟩ := bnd H
 rcases jh H with ⟨-, c3b0, H⟩ | ⟨-, c3b0, H⟩
 ·obtain ⟨ji4, hji4⟩ : ∃ j_ : Int, (wrap64 (t442 + 1)) = j_ := ⟨_, rfl⟩
  replace H : (if 0 ≤ (ji4) then (if (ji4) ≤ (a0.size : Int) then (some (a0.extract ((ji4) : Int).toNat a0.size)) else (none)) else (none)) = some r := by first | (rw [hji4] at H; exact H) | (simp only [hji4] at H ⊢; exact H)
  (try rw [hji4] at A2)
  have hji4w : (IntKind.i64.wrap (t442 + 1)) = ji4 := (i64_w _).trans hji4
  obtain ⟨-, c5b0, c5b1, H⟩ := gt H
  obtain ⟨-, c6b0, c6b1, H⟩ := gt H
  obtain rfl := Option.some.inj H
  go_enter Tryz.func32, Tryz.ntmps32
  go_wp2_with (first | ((with_reducible refine gc_ 79 rfl ?_); refine goD (some 5) Tryz.func79 #[.string a0] (rFslash.calls k a0 t442 _ A2.out) ?_; intro nd))
  go_ret
  exact ⟨by first | rfl | (simp; done) | (simp only [← hji4] <;> (first | rfl | simp)) | (simp [*]; done), by repeat (first | exact Drawn0.refl _ | apply Drawn0.step)⟩
 obtain rfl := Option.some.inj H
 go_enter Tryz.func32, Tryz.ntmps32
 go_wp2_with (first | ((with_reducible refine gc_ 79 rfl ?_); refine goD (some 5) Tryz.func79 #[.string a0] (rFslash.calls k a0 t442 _ A2.out) ?_; intro nd))
 go_ret
 exact finD
theorem rFTop.calls (k : Nat) (a0 : ByteArray) (r : ByteArray) (w : World) (h : rFTop.f k a0 = some r) :
  Calls Tryz.prog 31 #[.string a0] w fun e w' => e = .returned (.string r) ∧ Drawn0 w w' := by
 have H := h
 clear h
 unfold rFTop.f at H
 obtain ⟨t441, A2, H⟩ := bnd H
 rcases jh H with ⟨-, c3b0, H⟩ | ⟨-, c3b0, H⟩
 ·obtain ⟨-, c4b0, c4b1, H⟩ := gt H
  obtain ⟨-, c5b0, c5b1, H⟩ := gt H
  obtain rfl := Option.some.inj H
  go_enter Tryz.func31, Tryz.ntmps31
  go_wp2_with (first | ((with_reducible refine gc_ 79 rfl ?_); refine goD (some 5) Tryz.func79 #[.string a0] (rFslash.calls k a0 t441 _ A2.out) ?_; intro nd))
  go_ret
  exact finD
 obtain rfl := Option.some.inj H
 go_enter Tryz.func31, Tryz.ntmps31
 go_wp2_with (first | ((with_reducible refine gc_ 79 rfl ?_); refine goD (some 5) Tryz.func79 #[.string a0] (rFslash.calls k a0 t441 _ A2.out) ?_; intro nd))
 go_ret
 exact finD
theorem rFDigits.calls (k : Nat) (a0 : ByteArray) (r : Int) (w : World) (h : rFDigits.f k a0 = some r) :
  Calls Tryz.prog 51 #[.string a0] w fun e w' => e = .returned (.int .i64 r) ∧ Below w.heap.size w w' := by
 have HB := Z0.mk (Below.refl w.heap.size w)
 have H := h
 clear h
 unfold rFDigits.f at H
 obtain ⟨t649, A2, H⟩ := bnd H
 obtain ⟨t650, A3, H⟩ := bnd H
 obtain ⟨t651, A4, H⟩ := bnd H
 obtain ⟨t652, A5, H⟩ := bnd H
 obtain ⟨ji6, hji6⟩ : ∃ j_ : Int, (mx t650 t652) = j_ := ⟨_, rfl⟩
 replace H : (some ji6) = some r := by first | (rw [hji6] at H; exact H) | (simp only [hji6] at H ⊢; exact H)
 (try rw [hji6] at A2)
 (try rw [hji6] at A3)
 (try rw [hji6] at A4)
 (try rw [hji6] at A5)
 have hji6_ : (if t650 < t652 then t652 else t650) = ji6 := hji6
 obtain rfl := Option.some.inj H
 go_enter Tryz.func51, Tryz.ntmps51
 go_wp2_with (first | ((with_reducible refine gc_ 31 rfl ?_); refine goD (some 4) Tryz.func31 #[.string a0] (rFTop.calls k a0 t649 _ A2.out) ?_; intro nd) | ((with_reducible refine gc_ 72 rfl ?_); refine goD (some 5) Tryz.func72 #[.string t649] (rEDigits.calls t649 t650 _ A3.out) ?_; intro nd) | ((with_reducible refine gc_ 32 rfl ?_); refine goD (some 7) Tryz.func32 #[.string a0] (rFBottom.calls k a0 t651 _ A4.out) ?_; intro nd) | ((with_reducible refine gc_ 72 rfl ?_); refine goD (some 8) Tryz.func72 #[.string t651] (rEDigits.calls t651 t652 _ A5.out) ?_; intro nd))
 go_ret
 exact ⟨by first | rfl | (simp [errW_none, errW_some] <;> rfl) | (simp only [← hji6]; first | rfl | (simp [errW_none, errW_some] <;> rfl)) | (simp [*, errW_none, errW_some] <;> rfl), bqs⟩
theorem rEMagnitude.calls (a0 : ByteArray) (r : ByteArray) (w : World) (h : rEMagnitude.f a0 = some r) :
  Calls Tryz.prog 117 #[.string a0] w fun e w' => e = .returned (.string r) ∧ Drawn0 w w' := by
 have H := h
 clear h
 unfold rEMagnitude.f at H
 obtain ⟨t477, A2, H⟩ := bnd H
 by_cases c3 : t477 = true
 ·subst c3
  have H1 : (if 1 ≤ (a0.size : Int) then (some (a0.extract 1 a0.size)) else (none)) = some r := by rw [if_pos rfl] at H; exact H
  clear H
  have H := H1
  clear H1
  obtain ⟨-, c4b0, c4b1, H⟩ := gt H
  obtain rfl := Option.some.inj H
  go_enter Tryz.func117, Tryz.ntmps117
  go_wp2_with (first | ((with_reducible refine gc_ 78 rfl ?_); refine goD (some 4) Tryz.func78 #[.string a0] (rENegative.calls a0 true _ A2.out) ?_; intro nd))
  go_ret
  exact finD
 replace c3 := Bool.eq_false_iff.mpr c3
 subst c3
 have H1 : (some a0) = some r := by rw [if_neg (show ¬ (false = true) by decide)] at H; exact H
 clear H
 have H := H1
 clear H1
 obtain rfl := Option.some.inj H
 go_enter Tryz.func117, Tryz.ntmps117
 go_wp2_with (first | ((with_reducible refine gc_ 78 rfl ?_); refine goD (some 4) Tryz.func78 #[.string a0] (rENegative.calls a0 false _ A2.out) ?_; intro nd))
 go_ret
 exact finD
theorem rENegated.calls (a0 : ByteArray) (r : ByteArray) (w : World) (h : rENegated.f a0 = some r) :
  Calls Tryz.prog 81 #[.string a0] w fun e w' => e = .returned (.string r) ∧ Drawn0 w w' := by
 have H := h
 clear h
 unfold rENegated.f at H
 rcases je H with ⟨-, c2b0, c2b1, H⟩ | ⟨c2, c2b0, c2b1, H⟩
 ·obtain rfl := Option.some.inj H
  go_enter Tryz.func81, Tryz.ntmps81
  go_wp2
  go_ret
  exact finD
 obtain ⟨t517, A3, H⟩ := bnd H
 by_cases c4 : t517 = true
 ·subst c4
  have H1 : (if 1 ≤ (a0.size : Int) then (some (a0.extract 1 a0.size)) else (none)) = some r := by rw [if_pos rfl] at H; exact H
  clear H
  have H := H1
  clear H1
  obtain ⟨-, c5b0, c5b1, H⟩ := gt H
  obtain rfl := Option.some.inj H
  go_enter Tryz.func81, Tryz.ntmps81
  go_wp2_with (first | ((with_reducible refine gc_ 78 rfl ?_); refine goD (some 7) Tryz.func78 #[.string a0] (rENegative.calls a0 true _ A3.out) ?_; intro nd))
  go_ret
  exact finD
 replace c4 := Bool.eq_false_iff.mpr c4
 subst c4
 have H1 : (if 1 + a0.size ≤ 9223372036854775807 then (some ((⟨#[45]⟩ : ByteArray) ++ a0)) else (none)) = some r := by rw [if_neg (show ¬ (false = true) by decide)] at H; exact H
 clear H
 have H := H1
 clear H1
 obtain ⟨c6, c6b0, c6b1, H⟩ := gt H
 try have c6b2 : (9223372036854775807 < 1 + a0.size) = False := eq_false (Nat.not_lt.2 c6)
 obtain rfl := Option.some.inj H
 go_enter Tryz.func81, Tryz.ntmps81
 go_wp2_with (first | ((with_reducible refine gc_ 78 rfl ?_); refine goD (some 7) Tryz.func78 #[.string a0] (rENegative.calls a0 false _ A3.out) ?_; intro nd))
 go_ret
 exact finD
theorem rEWhole.calls (k : Nat) (a0 : Int) (r : ByteArray) (w : World) (h : rEWhole.f k a0 = some r) :
  Calls Tryz.prog 73 #[.int .i64 a0] w fun e w' => e = .returned (.string r) ∧ Below w.heap.size w w' := by
 have HB := Z0.mk (Below.refl w.heap.size w)
 have H := h
 clear h
 unfold rEWhole.f at H
 rcases je H with ⟨-, c2b0, c2b1, H⟩ | ⟨c2, c2b0, c2b1, H⟩
 ·obtain rfl := Option.some.inj H
  go_enter Tryz.func73, Tryz.ntmps73
  go_wp2
  go_ret
  exact finE
 have H' := Z0.mk H
 clear H
 go_enter Tryz.func73, Tryz.ntmps73
 go_wp2
 go_loopg [3, 4] k (fun kq v3 v4 w' => ∃ (x3_1 : ByteArray) (x4_1 : Int), v3 = .string x3_1 ∧ v4 = .int .i64 x4_1 ∧ Z0 (rEWhole.l0 kq a0 x3_1 x4_1 = some r) ∧ Z0 (kq ≤ k) ∧ Z0 (Below w.heap.size w w'))
 case atStart => exact ⟨((⟨#[]⟩ : ByteArray)), (a0), fs, fs, H', ⟨Nat.le_refl _⟩, ⟨bqs⟩⟩
 case round =>
  clear H'
  try clear c1
  try clear c2
  try clear c2b0
  try clear c2b1
  try clear p2
  obtain ⟨x3_1, x4_1, rfl, rfl, HA, HK1, HB⟩ := hrel
  cases gk with
  | zero => exact absurd HA.out (by simp [rEWhole.l0])
  | succ k1 =>
   have H := HA.out
   clear HA
   simp only [rEWhole.l0] at H
   rcases je H with ⟨-, c3b0, c3b1, H⟩ | ⟨c3, c3b0, c3b1, H⟩
   ·rcases jd H with ⟨-, c4b0, H⟩ | ⟨-, c4b0, H⟩
    ·obtain ⟨c5, c5b0, c5b1, H⟩ := gt H
     try have c5b2 : (9223372036854775807 < 1 + x3_1.size) = False := eq_false (Nat.not_lt.2 c5)
     obtain rfl := Option.some.inj H
     go_wp2
     go_ret
     exact finE
    obtain rfl := Option.some.inj H
    go_wp2
    go_ret
    exact finE
   obtain ⟨ji6, hji6⟩ : ∃ j_ : Int, (mx (Int.tmod x4_1 10) (wrap64 (-(Int.tmod x4_1 10)))) = j_ := ⟨_, rfl⟩
   replace H : (if 0 ≤ (ji6) then (if (ji6) ≤ (wrap64 ((ji6) + 1)) then (if (wrap64 ((ji6) + 1)) ≤ 10 then (if ((⟨#[48, 49, 50, 51, 52, 53, 54, 55, 56, 57]⟩ : ByteArray).extract ((ji6) : Int).toNat ((wrap64 ((ji6) + 1)) : Int).toNat).size + x3_1.size ≤ 9223372036854775807 then (rEWhole.l0 k1 a0 (((⟨#[48, 49, 50, 51, 52, 53, 54, 55, 56, 57]⟩ : ByteArray).extract ((ji6) : Int).toNat ((wrap64 ((ji6) + 1)) : Int).toNat) ++ x3_1) (wrap64 (Int.tdiv x4_1 10))) else (none)) else (none)) else (none)) else (none)) = some r := by first | (rw [hji6] at H; exact H) | (simp only [hji6] at H ⊢; exact H)
   have hji6_ : (if (Int.tmod x4_1 10) < (wrap64 (-(Int.tmod x4_1 10))) then (wrap64 (-(Int.tmod x4_1 10))) else (Int.tmod x4_1 10)) = ji6 := hji6
   obtain ⟨-, c7b0, c7b1, H⟩ := gt H
   obtain ⟨c8, c8b0, c8b1, H⟩ := gt H
   obtain ⟨c9, c9b0, c9b1, H⟩ := gt H
   obtain ⟨c10, c10b0, c10b1, H⟩ := gt H
   try have c10b2 : (9223372036854775807 < ((⟨#[48, 49, 50, 51, 52, 53, 54, 55, 56, 57]⟩ : ByteArray).extract ((ji6) : Int).toNat ((wrap64 ((ji6) + 1)) : Int).toNat).size + x3_1.size) = False := eq_false (Nat.not_lt.2 c10)
   have H' := Z0.mk H
   clear H
   go_wp2
   go_roundg k1
   case measure => have := HK1.out; omega
   case rel => exact ⟨(((⟨#[48, 49, 50, 51, 52, 53, 54, 55, 56, 57]⟩ : ByteArray).extract ((ji6) : Int).toNat ((wrap64 ((ji6) + 1)) : Int).toNat) ++ x3_1), (wrap64 (Int.tdiv x4_1 10)), (by first | rfl | (simp; done) | (simp only [← hji6] <;> (first | rfl | simp)) | (simp [*]; done)), fs, H', ⟨by have := HK1.out; omega⟩, ⟨bqs⟩⟩
theorem rEcut.calls (k : Nat) (P0_ : Nat → Prop) (A0 : Option Addr) (c0 : Nat) (l0 : List Int) (r : List Int) (w : World) (hs0 : Kd.V (Kd.int .i64) 3 w w.heap.size (fun k_ => P0_ k_) (.slice A0 l0.length c0) l0) (h : rEcut.f k l0 = some r) :
  Calls Tryz.prog 87 #[.slice A0 l0.length c0] w fun e w' => ∃ v0_ : Value, e = .returned (v0_) ∧ Kd.V (Kd.int .i64) 3 w' w.heap.size (fun k_ => (P0_ k_ ∨ w.heap.size ≤ k_)) v0_ r ∧ Below w.heap.size w w' := by
 have HO0 := Z0.mk (show Kd.V (Kd.int .i64) 3 w w.heap.size (fun k_ => (P0_ k_ ∨ w.heap.size ≤ k_)) (.slice A0 l0.length c0) l0 from Kd.V_mono hs0 (fun k_ hk => .inl hk))
 have HB := Z0.mk (Below.refl w.heap.size w)
 have H := h
 clear h
 unfold rEcut.f at H
 have H' := Z0.mk H
 clear H
 go_enter Tryz.func87, Tryz.ntmps87
 go_wp2
 go_loopg [3] k (fun kq v3 w' => ∃ (x3_1 : Int), v3 = .int .i64 x3_1 ∧ Z0 (rEcut.l0 kq l0 x3_1 = some r) ∧ Z0 (kq ≤ k) ∧ Z0 (Kd.V (Kd.int .i64) 3 w' w.heap.size (fun k_ => (P0_ k_ ∨ w.heap.size ≤ k_)) (.slice A0 l0.length c0) l0) ∧ Z0 (Below w.heap.size w w'))
 case atStart => exact ⟨((l0.length : Int)), fs, H', ⟨Nat.le_refl _⟩, ⟨vq HO0⟩, ⟨bqs⟩⟩
 case round =>
  clear H'
  try clear c1
  obtain ⟨x3_1, rfl, HA, HK1, HO_0, HB⟩ := hrel
  cases gk with
  | zero => exact absurd HA.out (by simp [rEcut.l0])
  | succ k1 =>
   have H := HA.out
   clear HA
   simp only [rEcut.l0] at H
   rcases jg H with ⟨-, c2b0, H⟩ | ⟨-, c2b0, H⟩
   ·obtain ⟨ji3, hji3⟩ : ∃ j_ : Int, (wrap64 (x3_1 - 1)) = j_ := ⟨_, rfl⟩
    replace H : (if 0 ≤ (ji3) then (if (ji3) < (l0.length : Int) then (if (rd l0 (ji3)) = 0 then (rEcut.l0 k1 l0 ji3) else (if 0 ≤ x3_1 then (if x3_1 ≤ (l0.length : Int) then (some (l0.take (x3_1 : Int).toNat)) else (none)) else (none))) else (none)) else (none)) = some r := by first | (rw [hji3] at H; exact H) | (simp only [hji3] at H ⊢; exact H)
    have hji3w : (IntKind.i64.wrap (x3_1 - 1)) = ji3 := (i64_w _).trans hji3
    obtain ⟨-, c4b0, H⟩ := gd H
    obtain ⟨-, c5b0, H⟩ := gd H
    rcases je H with ⟨-, c6b0, c6b1, H⟩ | ⟨c6, c6b0, c6b1, H⟩
    ·have H' := Z0.mk H
     clear H
     obtain ⟨ad451, e451, hx451_0, p451, q451⟩ := atI (Kd.V_reads' HO_0.out).2.2 (ji3)
     cases e451
     go_wp2
     go_roundg k1
     case measure => have := HK1.out; omega
     case rel => exact ⟨(ji3), (by first | rfl | (simp; done) | (simp only [← hji3] <;> (first | rfl | simp)) | (simp [*]; done)), H', ⟨by have := HK1.out; omega⟩, ⟨vq HO_0⟩, ⟨bqs⟩⟩
    obtain ⟨-, c7b0, c7b1, H⟩ := gt H
    obtain ⟨-, c8b0, c8b1, H⟩ := gt H
    generalize hy452 : (l0.take (x3_1 : Int).toNat : List Int) = y452 at H
    have Ny452 := Z0.mk hy452.symm
    clear hy452
    obtain rfl := Option.some.inj H
    obtain ⟨ad451, e451, hx451_0, p451, q451⟩ := atI (Kd.V_reads' HO_0.out).2.2 (ji3)
    cases e451
    have q9 : (x3_1 : Int) ≤ ((l0.length : Int) : Int) := od
    obtain ⟨i09, hi09, _, hsz9, _⟩ := info_parts info3
    have hroom9 : l0.length ≤ c0 := (Kd.V_reads' HO_0.out).2.1
    have hC9 : Kd.F (Kd.int .i64) _ _ (some ad451) l0.length l0 := (Kd.V_at (base := w.heap.size) HO_0.out).2.2
    have hcut9 := cut_to (P := Tryz.prog) 78 3 .i64 Tryz.underlying78 hi09 (some ad451) l0.length c0 x3_1 od q9 hroom9
    have hr9 := Kd.F_take (m := (x3_1 : Int).toNat) hC9 (by omega)
    have hy9 : y452.length = (x3_1 : Int).toNat := (by rw [Ny452.out, List.length_take]; omega)
    rw [← Ny452.out] at hr9
    rw [← hy9] at hcut9
    have HO456 := Z0.mk (show Kd.V (Kd.int .i64) 3 _ w.heap.size _ (.slice (some ad451) y452.length c0) y452 from Kd.V_mk (by omega) hr9)
    have HC456 := Z0.mk (show y452.length ≤ c0 from by omega)
    clear hr9 hC9 hroom9 hi09 hsz9
    have KY9 := Z0.mk hy9
    clear hy9
    replace q9 := eq_true q9
    go_wp2
    go_ret
    exact ⟨_, by first | rfl | (simp [errW_none, errW_some] <;> rfl) | (simp only [← hji3]; first | rfl | (simp [errW_none, errW_some] <;> rfl)) | (simp [*, errW_none, errW_some] <;> rfl), vq HO456, bqs⟩
   obtain ⟨-, c10b0, c10b1, H⟩ := gt H
   obtain ⟨-, c11b0, c11b1, H⟩ := gt H
   generalize hy457 : (l0.take (x3_1 : Int).toNat : List Int) = y457 at H
   have Ny457 := Z0.mk hy457.symm
   clear hy457
   obtain rfl := Option.some.inj H
   have q12 : (x3_1 : Int) ≤ ((l0.length : Int) : Int) := od
   obtain ⟨i012, hi012, _, hsz12, _⟩ := info_parts info3
   have hroom12 : l0.length ≤ c0 := (Kd.V_reads' HO_0.out).2.1
   have hC12 : Kd.F (Kd.int .i64) _ _ A0 l0.length l0 := (Kd.V_at (base := w.heap.size) HO_0.out).2.2
   have hcut12 := cut_to (P := Tryz.prog) 78 3 .i64 Tryz.underlying78 hi012 A0 l0.length c0 x3_1 od q12 hroom12
   have hr12 := Kd.F_take (m := (x3_1 : Int).toNat) hC12 (by omega)
   have hy12 : y457.length = (x3_1 : Int).toNat := (by rw [Ny457.out, List.length_take]; omega)
   rw [← Ny457.out] at hr12
   rw [← hy12] at hcut12
   have HO461 := Z0.mk (show Kd.V (Kd.int .i64) 3 _ w.heap.size _ (.slice A0 y457.length c0) y457 from Kd.V_mk (by omega) hr12)
   have HC461 := Z0.mk (show y457.length ≤ c0 from by omega)
   clear hr12 hC12 hroom12 hi012 hsz12
   have KY12 := Z0.mk hy12
   clear hy12
   replace q12 := eq_true q12
   go_wp2
   go_ret
   exact ⟨_, fe, vq HO461, bqs⟩
theorem rEdigits.calls (k : Nat) (a0 : ByteArray) (r : List Int) (w : World) (h : rEdigits.f k a0 = some r) :
  Calls Tryz.prog 77 #[.string a0] w fun e w' => ∃ v0_ : Value, e = .returned (v0_) ∧ Kd.R (Kd.int .i64) 3 w' w.heap.size (fun _ => True) v0_ r ∧ Below w.heap.size w w' := by
 have HB := Z0.mk (Below.refl w.heap.size w)
 have H := h
 clear h
 unfold rEdigits.f at H
 have H' := Z0.mk H
 clear H
 go_enter Tryz.func77, Tryz.ntmps77
 go_wp2
 go_loopg [3, 4] k (fun kq v3 v4 w' => ∃ (x3_1 : List Int) (x4_1 : Int), v4 = .int .i64 x4_1 ∧ Z0 (rEdigits.l0 kq a0 x3_1 x4_1 = some r) ∧ Z0 (kq ≤ k) ∧ Z0 (Kd.R (Kd.int .i64) 3 w' w.heap.size (fun _ => True) v3 x3_1) ∧ Z0 (Below w.heap.size w w'))
 case atStart => exact ⟨(([] : List Int)), (wrap64 ((a0.size : Int) - 1)), fs, H', ⟨Nat.le_refl _⟩, ⟨by first | exact Kd.R_nil _ _ _ _ _ | exact Kd.N_nil _ _ _ _ _ | exact Kd.V_nil _ _ _ _ _ | exact Kd.Q_nil _ _ _ _ _ | exact Kd.S_nil _ _ _ _ _⟩, ⟨bqs⟩⟩
 case round =>
  clear H'
  try clear c1
  obtain ⟨x3_1, x4_1, rfl, HA, HK1, HO_3, HB⟩ := hrel
  cases gk with
  | zero => exact absurd HA.out (by simp [rEdigits.l0])
  | succ k1 =>
   have H := HA.out
   clear HA
   simp only [rEdigits.l0] at H
   rcases jh H with ⟨-, c2b0, H⟩ | ⟨-, c2b0, H⟩
   ·obtain ⟨-, c3b0, H⟩ := gd H
    obtain ⟨-, c4b0, H⟩ := gd H
    rcases je H with ⟨-, c6b0, c6b1, H⟩ | ⟨c6, c6b0, c6b1, H⟩
    ·obtain rfl := Option.some.inj H
     obtain ⟨hx5, p5, q5⟩ := btA a0 x4_1
     go_wp2
     go_ret
     exact ⟨_, fe, rq HO_3, bqs⟩
    obtain ⟨c8, H⟩ := gn H
    have LMc8 := Z0.mk c8
    clear c8
    generalize hy444 : (x3_1 ++ [((bt a0 x4_1) - 48) % 256] : List Int) = y444 at H
    have Ny444 := Z0.mk hy444.symm
    clear hy444
    have H' := Z0.mk H
    clear H
    obtain ⟨hx5, p5, q5⟩ := btA a0 x4_1
    obtain ⟨hx7, p7, q7⟩ := btA a0 x4_1
    go_wp2_with (first | ((with_reducible refine gate_builtin (b := .append) (xs := #[.tmp 18, .tmp 24]) rfl ?_); at_builtin; refine Kd.R_append (Kd.int .i64) (w0 := w) w.heap.size rfl (.tmp 18) (.tmp 24) 78 3 (.int .i64 0) 8 rfl Tryz.underlying78 info3 rfl (by decide) (by omega) u3 x3_1 (((bt a0 x4_1) - 48) % 256) [.int .i64 (((bt a0 x4_1) - 48) % 256)] (fun _ => True) (fun _ => False) rfl rfl ?aP (fun _ hk => hk.elim) ?aF ?aO ?aB ?aS ?aL ?_; (case aP => exact rfl); (case aB => exact bqs); (case aF => exact (fun _ _ => trivial)); (case aO => exact (rq HO_3)); (case aS => exact (below_size bqs)); (case aL => have := LMc8.out; omega); intro v445 w9 ho hb hg hat; rw [← Ny444.out] at ho; have HO446 := Z0.mk (ho); replace HB := Z0.mk (hb); clear HO_3; clear ho hb hg hat))
    go_roundg k1
    case measure => have := HK1.out; omega
    case rel => exact ⟨(y444), (wrap64 (x4_1 - 1)), fs, H', ⟨by have := HK1.out; omega⟩, ⟨rq HO446⟩, ⟨bqs⟩⟩
   obtain rfl := Option.some.inj H
   go_wp2
   go_ret
   exact ⟨_, fe, rq HO_3, bqs⟩
theorem rEmade.calls (k : Nat) (A0 : Option Addr) (c0 : Nat) (l0 : List Int) (a1 : Bool) (r : ByteArray) (w : World) (hr0 : Kd.C (Kd.int .i64) w A0 l0.length l0) (hc0 : l0.length ≤ c0) (h : rEmade.f k l0 a1 = some r) :
  Calls Tryz.prog 75 #[.slice A0 l0.length c0, .bool a1] w fun e w' => e = .returned (.string r) ∧ Below w.heap.size w w' := by
 have HR0 := Z0.mk hr0
 have HC0 := Z0.mk hc0
 clear hr0 hc0
 have HB := Z0.mk (Below.refl w.heap.size w)
 have H := h
 clear h
 unfold rEmade.f at H
 obtain ⟨t479, A3, H⟩ := bnd H
 rcases je H with ⟨-, c4b0, c4b1, H⟩ | ⟨c4, c4b0, c4b1, H⟩
 ·obtain rfl := Option.some.inj H
  go_enter Tryz.func75, Tryz.ntmps75
  go_wp2_with (first | ((with_reducible refine gc_ 87 rfl ?_); refine gL 8 Tryz.func87 (rEcut.calls k (fun k_ => k_ < w.heap.size) _ _ l0 t479 _ ?side1 A3.out) ?_; (case side1 => exact Kd.V_mk HC0.out (Kd.F_below (Kd.C_F (Kd.heap_int .i64) HR0.out) bqs)); rintro _ w5 ⟨v480, rfl, ho0, hb⟩; refine ⟨_, rfl, ?_⟩; have HO481 := Z0.mk (Kd.V_lower (Kd.V_mono (ok' := fun k_ => True) ho0 (fun k_ hk_ => trivial)) (below_size bqs)); replace HB := fB HB hb; clear hb ho0; obtain ⟨Ao6, co6, eo6⟩ := Kd.V_slice HO481.out; subst eo6))
  go_ret
  exact finE
 have c4b2 : ¬ (t479 = []) := fun h_ => c4 (by rw [h_]; rfl)
 have HC7 := Z0.mk H
 clear H
 go_enter Tryz.func75, Tryz.ntmps75
 go_upto_if 12 with (first | ((with_reducible refine gc_ 87 rfl ?_); refine gL 8 Tryz.func87 (rEcut.calls k (fun k_ => k_ < w.heap.size) _ _ l0 t479 _ ?side1 A3.out) ?_; (case side1 => exact Kd.V_mk HC0.out (Kd.F_below (Kd.C_F (Kd.heap_int .i64) HR0.out) bqs)); rintro _ w8 ⟨v480, rfl, ho0, hb⟩; refine ⟨_, rfl, ?_⟩; have HO481 := Z0.mk (Kd.V_lower (Kd.V_mono (ok' := fun k_ => True) ho0 (fun k_ hk_ => trivial)) (below_size bqs)); replace HB := fB HB hb; clear hb ho0; obtain ⟨Ao9, co9, eo9⟩ := Kd.V_slice HO481.out; subst eo9))
 (try simp only [Act.put, List.setIfInBounds_toArray, List.set_cons_zero, List.set_cons_succ])
 go_cut [5] (fun v5 wc => ∃ (kq : Nat) (x5_6 : List Int), Z0 (rEmade.j0 kq t479 x5_6 = some r) ∧ Z0 (kq ≤ k) ∧ Z0 (Kd.V (Kd.int .i64) 3 wc w.heap.size (fun k_ => some k_ ≠ (v5 : Value).ownBlock) (.slice Ao9 t479.length co9) t479) ∧ Z0 (Kd.R (Kd.int .u8) 5 wc w.heap.size (fun _ => True) v5 x5_6) ∧ Z0 (Below w.heap.size w wc))
 case first =>
  have H := HC7.out
  clear HC7
  by_cases c10 : a1 = true
  ·subst c10
   have H1 : (if ([] : List Int).length < 140737488355328 then (rEmade.j0 k t479 (([] : List Int) ++ [45])) else (none)) = some r := by rw [if_pos rfl] at H; exact H
   clear H
   have H := H1
   clear H1
   obtain ⟨c11, H⟩ := gn H
   have LMc11 := Z0.mk c11
   clear c11
   generalize hy482 : (([] : List Int) ++ [45] : List Int) = y482 at H
   have Ny482 := Z0.mk hy482.symm
   clear hy482
   have H' := Z0.mk H
   clear H
   go_wp2_with (first | ((with_reducible refine gate_builtin (b := .append) (xs := #[.tmp 13, .tmp 14]) rfl ?_); at_builtin; refine Kd.R_append (Kd.int .u8) (w0 := w) w.heap.size rfl (.tmp 13) (.tmp 14) 55 5 (.int .u8 0) 1 rfl Tryz.underlying55 info5 rfl (by decide) (by omega) (.slice none 0 0) ([] : List Int) 45 [.int .u8 45] (fun _ => True) (fun _ => False) rfl rfl ?aP (fun _ hk => hk.elim) ?aF ?aO ?aB ?aS ?aL ?_; (case aP => exact rfl); (case aB => exact bqs); (case aF => exact (fun _ _ => trivial)); (case aO => exact ((Kd.R_nil _ _ _ _ (fun _ => True)))); (case aS => exact (below_size bqs)); (case aL => have := LMc11.out; omega); intro v483 w12 ho hb hg hat; rw [← Ny482.out] at ho; have HO484 := Z0.mk (ho); replace HO481 := Z0.mk (Kd.V_afterv (Kd.V_apart_nil (vq HO481)) hg hat); replace HB := Z0.mk (hb); clear ho hb hg hat))
   go_meet
   case rel => exact ⟨_, (y482), H', ⟨by first | omega | exact Nat.le_refl _⟩, ⟨by (with_reducible repeat (first | apply Kd.V_alloc | apply Kd.V_drewN | apply Kd.V_drew)); exact Kd.V_mono HO481.out (fun _ hk => hk.2)⟩, ⟨rq HO484⟩, ⟨bqs⟩⟩
  replace c10 := Bool.eq_false_iff.mpr c10
  subst c10
  have H1 : (rEmade.j0 k t479 ([] : List Int)) = some r := by rw [if_neg (show ¬ (false = true) by decide)] at H; exact H
  clear H
  have H := H1
  clear H1
  have H' := Z0.mk H
  clear H
  go_wp2
  go_meet
  case rel => exact ⟨_, (([] : List Int)), H', ⟨by first | omega | exact Nat.le_refl _⟩, ⟨by (with_reducible repeat (first | apply Kd.V_alloc | apply Kd.V_drewN | apply Kd.V_drew)); exact Kd.V_mono HO481.out (fun _ hk => (by simp [Value.ownBlock]))⟩, ⟨by first | exact Kd.R_nil _ _ _ _ _ | exact Kd.N_nil _ _ _ _ _ | exact Kd.V_nil _ _ _ _ _ | exact Kd.Q_nil _ _ _ _ _ | exact Kd.S_nil _ _ _ _ _⟩, ⟨bqs⟩⟩
 case rest =>
  clear HC7
  try clear c1
  try clear p2
  try clear c4
  try clear c4b0
  try clear c4b1
  try clear c4b2
  try clear c10
  try clear c11
  obtain ⟨kq, x5_6, HA, HJ6, HO_0, HO_5, HB⟩ := hcut
  cases kq with
  | zero => exact absurd HA.out (by simp [rEmade.j0])
  | succ kj6 =>
   have H := HA.out
   clear HA
   simp only [rEmade.j0] at H
   have H' := Z0.mk H
   clear H
   go_wp2
   go_loopg [5, 6] kj6 (fun kq v5 v6 w' => ∃ (x5_2 : List Int) (x6_2 : Int), v6 = .int .i64 x6_2 ∧ Z0 (rEmade.l0 kq t479 x5_2 x6_2 = some r) ∧ Z0 (kq ≤ kj6) ∧ Z0 (Kd.V (Kd.int .i64) 3 w' w.heap.size (fun k_ => some k_ ≠ (v5 : Value).ownBlock) (.slice Ao9 t479.length co9) t479) ∧ Z0 (Kd.R (Kd.int .u8) 5 w' w.heap.size (fun _ => True) v5 x5_2) ∧ Z0 (Below w.heap.size w w'))
   case atStart => exact ⟨(x5_6), (wrap64 ((t479.length : Int) - 1)), fs, H', ⟨Nat.le_refl _⟩, ⟨vq HO_0⟩, ⟨rq HO_5⟩, ⟨bqs⟩⟩
   case round =>
    clear H'
    try clear c1
    try clear p2
    try clear c4
    try clear c4b0
    try clear c4b1
    try clear c4b2
    try clear p6
    try clear c10
    try clear c11
    try clear p2
    obtain ⟨x5_2, x6_2, rfl, HA, HK2, HO_0, HO_5, HB⟩ := hrel
    cases gk with
    | zero => exact absurd HA.out (by simp [rEmade.l0])
    | succ k2 =>
     have H := HA.out
     clear HA
     simp only [rEmade.l0] at H
     rcases jh H with ⟨-, c13b0, H⟩ | ⟨-, c13b0, H⟩
     ·obtain ⟨-, c14b0, H⟩ := gd H
      obtain ⟨-, c15b0, H⟩ := gd H
      obtain ⟨c16, H⟩ := gn H
      have LMc16 := Z0.mk c16
      clear c16
      generalize hy486 : (x5_2 ++ [(wrap64 (48 + (rd t479 x6_2))) % 256] : List Int) = y486 at H
      have Ny486 := Z0.mk hy486.symm
      clear hy486
      have H' := Z0.mk H
      clear H
      obtain ⟨ad485, e485, hx485_0, p485, q485⟩ := atI (Kd.V_reads' HO_0.out).2.2 x6_2
      cases e485
      go_wp2_with (first | ((with_reducible refine gate_builtin (b := .append) (xs := #[.tmp 23, .tmp 30]) rfl ?_); at_builtin; refine Kd.R_append (Kd.int .u8) (w0 := w) w.heap.size rfl (.tmp 23) (.tmp 30) 55 5 (.int .u8 0) 1 rfl Tryz.underlying55 info5 rfl (by decide) (by omega) u5 x5_2 ((wrap64 (48 + (rd t479 x6_2))) % 256) [.int .u8 ((wrap64 (48 + (rd t479 x6_2))) % 256)] (fun _ => True) (fun _ => False) rfl rfl ?aP (fun _ hk => hk.elim) ?aF ?aO ?aB ?aS ?aL ?_; (case aP => exact rfl); (case aB => exact bqs); (case aF => exact (fun _ _ => trivial)); (case aO => exact (rq HO_5)); (case aS => exact (below_size bqs)); (case aL => have := LMc16.out; omega); intro v487 w17 ho hb hg hat; rw [← Ny486.out] at ho; have HO488 := Z0.mk (ho); replace HO_0 := Z0.mk (Kd.V_afterv (ok := (fun _ => True)) (by (with_reducible repeat (first | apply Kd.V_alloc | apply Kd.V_drewN | apply Kd.V_drew)); exact Kd.V_mono HO_0.out (fun _ hk => ⟨trivial, hk⟩)) hg hat); replace HB := Z0.mk (hb); clear HO_5; clear ho hb hg hat))
      go_roundg k2
      case measure => have := HJ6.out; have := HK2.out; omega
      case rel => exact ⟨(y486), (wrap64 (x6_2 - 1)), fs, H', ⟨by have := HJ6.out; have := HK2.out; omega⟩, ⟨by (with_reducible repeat (first | apply Kd.V_alloc | apply Kd.V_drewN | apply Kd.V_drew)); exact Kd.V_mono HO_0.out (fun _ hk => hk.2)⟩, ⟨rq HO488⟩, ⟨bqs⟩⟩
     obtain rfl := Option.some.inj H
     have hcv18 := own_string (P := Tryz.prog) Tryz.underlying55 Tryz.underlying5 Tryz.underlying26 (Kd.own_of_R HO_5.out)
     go_wp2
     go_ret
     exact finE
theorem rEat.calls (A0 : Option Addr) (c0 : Nat) (l0 : List Int) (a1 : Int) (r : Int) (w : World) (hr0 : Kd.C (Kd.int .i64) w A0 l0.length l0) (hc0 : l0.length ≤ c0) (h : rEat.f l0 a1 = some r) :
  Calls Tryz.prog 145 #[.slice A0 l0.length c0, .int .i64 a1] w fun e w' => e = .returned (.int .i64 r) ∧ Drawn0 w w' := by
 have HR0 := Z0.mk hr0
 have HC0 := Z0.mk hc0
 clear hr0 hc0
 have H := h
 clear h
 unfold rEat.f at H
 rcases jd H with ⟨-, c3b0, H⟩ | ⟨-, c3b0, H⟩
 ·obtain ⟨-, c4b0, H⟩ := gd H
  obtain rfl := Option.some.inj H
  obtain ⟨ad519, e519, hx519_0, p519, q519⟩ := atI HR0.out a1
  cases e519
  go_enter Tryz.func145, Tryz.ntmps145
  go_wp2
  go_ret
  exact finD
 obtain rfl := Option.some.inj H
 go_enter Tryz.func145, Tryz.ntmps145
 go_wp2
 go_ret
 exact finD
theorem rEminus.calls (k : Nat) (A0 : Option Addr) (c0 : Nat) (l0 : List Int) (A1 : Option Addr) (c1 : Nat) (l1 : List Int) (r : List Int) (w : World) (hr0 : Kd.C (Kd.int .i64) w A0 l0.length l0) (hc0 : l0.length ≤ c0) (hr1 : Kd.C (Kd.int .i64) w A1 l1.length l1) (hc1 : l1.length ≤ c1) (h : rEminus.f k l0 l1 = some r) :
  Calls Tryz.prog 123 #[.slice A0 l0.length c0, .slice A1 l1.length c1] w fun e w' => ∃ v0_ : Value, e = .returned (v0_) ∧ Kd.V (Kd.int .i64) 3 w' w.heap.size (fun k_ => (w.heap.size ≤ k_)) v0_ r ∧ Below w.heap.size w w' := by
 have HR0 := Z0.mk hr0
 have HC0 := Z0.mk hc0
 clear hr0 hc0
 have HR1 := Z0.mk hr1
 have HC1 := Z0.mk hc1
 clear hr1 hc1
 have HB := Z0.mk (Below.refl w.heap.size w)
 have H := h
 clear h
 unfold rEminus.f at H
 have H' := Z0.mk H
 clear H
 go_enter Tryz.func123, Tryz.ntmps123
 go_wp2
 repeat (go_quiet (fail); try go_wp2)
 go_loopg [5, 6, 7] k (fun kq v5 v6 v7 w' => ∃ (x5_1 : List Int) (x6_1 : Int) (x7_1 : Int), v6 = .int .i64 x6_1 ∧ v7 = .int .i64 x7_1 ∧ Z0 (rEminus.l0 kq l0 l1 x5_1 x6_1 x7_1 = some r) ∧ Z0 (kq ≤ k) ∧ Z0 (Kd.R (Kd.int .i64) 3 w' w.heap.size (fun k_ => (w.heap.size ≤ k_)) v5 x5_1) ∧ Z0 (Below w.heap.size w w'))
 case atStart => exact ⟨(([] : List Int)), (0), (0), fs, fs, H', ⟨Nat.le_refl _⟩, ⟨by first | exact Kd.R_nil _ _ _ _ _ | exact Kd.N_nil _ _ _ _ _ | exact Kd.V_nil _ _ _ _ _ | exact Kd.Q_nil _ _ _ _ _ | exact Kd.S_nil _ _ _ _ _⟩, ⟨bqs⟩⟩
 case round =>
  clear H'
  try clear c1
  try clear p2
  obtain ⟨x5_1, x6_1, x7_1, rfl, rfl, HA, HK1, HO_5, HB⟩ := hrel
  cases gk with
  | zero => exact absurd HA.out (by simp [rEminus.l0])
  | succ k1 =>
   have H := HA.out
   clear HA
   simp only [rEminus.l0] at H
   rcases jd H with ⟨-, c3b0, H⟩ | ⟨-, c3b0, H⟩
   ·obtain ⟨-, c4b0, H⟩ := gd H
    obtain ⟨t529, A5, H⟩ := bnd H
    rcases jd H with ⟨-, c6b0, H⟩ | ⟨-, c6b0, H⟩
    ·obtain ⟨c7, H⟩ := gn H
     have LMc7 := Z0.mk c7
     clear c7
     generalize hy530 : (x5_1 ++ [wrap64 ((wrap64 ((wrap64 ((rd l0 x7_1) - t529)) - x6_1)) + 10)] : List Int) = y530 at H
     have Ny530 := Z0.mk hy530.symm
     clear hy530
     have H' := Z0.mk H
     clear H
     obtain ⟨ad528, e528, hx528_0, p528, q528⟩ := atB HB HR0.out x7_1
     cases e528
     go_wp2_with (first | (go_at_call 145; (with_reducible refine (rEat.calls _ _ l1 x7_1 t529 _ ?side1 ?side2 A5.out).mono ?_); (case side1 => exact cq (Kd.C_below HR1.out HB.out)); (case side2 => exact HC1.out); rintro e w' ⟨rfl, ⟨nd, rfl⟩⟩; (try first | exact ⟨rfl, _, World.drewN_drewN _ _ _⟩ | exact ⟨rfl, _, Eq.trans (World.drewN_drewN _ _ _) (congrArg (World.drewN _) (Nat.add_assoc _ _ _))⟩)) | ((with_reducible refine gate_builtin (b := .append) (xs := #[.tmp 29, .tmp 31]) rfl ?_); at_builtin; refine Kd.R_append (Kd.int .i64) (w0 := w) w.heap.size rfl (.tmp 29) (.tmp 31) 78 3 (.int .i64 0) 8 rfl Tryz.underlying78 info3 rfl (by decide) (by omega) u5 x5_1 (wrap64 ((wrap64 ((wrap64 ((rd l0 x7_1) - t529)) - x6_1)) + 10)) [.int .i64 (wrap64 ((wrap64 ((wrap64 ((rd l0 x7_1) - t529)) - x6_1)) + 10))] (fun k_ => (w.heap.size ≤ k_)) (fun _ => False) rfl rfl ?aP (fun _ hk => hk.elim) ?aF ?aO ?aB ?aS ?aL ?_; (case aP => exact rfl); (case aB => exact bqs); (case aF => exact (fun k_ hk => (Nat.le_trans (below_size bqs) hk))); (case aO => exact (rq HO_5)); (case aS => exact (below_size bqs)); (case aL => have := LMc7.out; omega); intro v531 w8 ho hb hg hat; rw [← Ny530.out] at ho; have HO532 := Z0.mk (ho); replace HB := Z0.mk (hb); clear HO_5; clear ho hb hg hat) | (go_quiet (first | (go_at_call 145; (with_reducible refine (rEat.calls _ _ l1 x7_1 t529 _ ?side1 ?side2 A5.out).mono ?_); (case side1 => exact cq (Kd.C_below HR1.out HB.out)); (case side2 => exact HC1.out); rintro e w' ⟨rfl, ⟨nd, rfl⟩⟩; (try first | exact ⟨rfl, _, World.drewN_drewN _ _ _⟩ | exact ⟨rfl, _, Eq.trans (World.drewN_drewN _ _ _) (congrArg (World.drewN _) (Nat.add_assoc _ _ _))⟩)) | ((with_reducible refine gate_builtin (b := .append) (xs := #[.tmp 29, .tmp 31]) rfl ?_); at_builtin; refine Kd.R_append (Kd.int .i64) (w0 := w) w.heap.size rfl (.tmp 29) (.tmp 31) 78 3 (.int .i64 0) 8 rfl Tryz.underlying78 info3 rfl (by decide) (by omega) u5 x5_1 (wrap64 ((wrap64 ((wrap64 ((rd l0 x7_1) - t529)) - x6_1)) + 10)) [.int .i64 (wrap64 ((wrap64 ((wrap64 ((rd l0 x7_1) - t529)) - x6_1)) + 10))] (fun k_ => (w.heap.size ≤ k_)) (fun _ => False) rfl rfl ?aP (fun _ hk => hk.elim) ?aF ?aO ?aB ?aS ?aL ?_; (case aP => exact rfl); (case aB => exact bqs); (case aF => exact (fun k_ hk => (Nat.le_trans (below_size bqs) hk))); (case aO => exact (rq HO_5)); (case aS => exact (below_size bqs)); (case aL => have := LMc7.out; omega); intro v531 w8 ho hb hg hat; rw [← Ny530.out] at ho; have HO532 := Z0.mk (ho); replace HB := Z0.mk (hb); clear HO_5; clear ho hb hg hat))))
     go_roundg k1
     case measure => have := HK1.out; omega
     case rel => exact ⟨(y530), (1), (wrap64 (x7_1 + 1)), fs, fs, H', ⟨by have := HK1.out; omega⟩, ⟨rq HO532⟩, ⟨bqs⟩⟩
    obtain ⟨c9, H⟩ := gn H
    have LMc9 := Z0.mk c9
    clear c9
    generalize hy533 : (x5_1 ++ [wrap64 ((wrap64 ((rd l0 x7_1) - t529)) - x6_1)] : List Int) = y533 at H
    have Ny533 := Z0.mk hy533.symm
    clear hy533
    have H' := Z0.mk H
    clear H
    obtain ⟨ad528, e528, hx528_0, p528, q528⟩ := atB HB HR0.out x7_1
    cases e528
    go_wp2_with (first | (go_at_call 145; (with_reducible refine (rEat.calls _ _ l1 x7_1 t529 _ ?side1 ?side2 A5.out).mono ?_); (case side1 => exact cq (Kd.C_below HR1.out HB.out)); (case side2 => exact HC1.out); rintro e w' ⟨rfl, ⟨nd, rfl⟩⟩; (try first | exact ⟨rfl, _, World.drewN_drewN _ _ _⟩ | exact ⟨rfl, _, Eq.trans (World.drewN_drewN _ _ _) (congrArg (World.drewN _) (Nat.add_assoc _ _ _))⟩)) | ((with_reducible refine gate_builtin (b := .append) (xs := #[.tmp 29, .tmp 31]) rfl ?_); at_builtin; refine Kd.R_append (Kd.int .i64) (w0 := w) w.heap.size rfl (.tmp 29) (.tmp 31) 78 3 (.int .i64 0) 8 rfl Tryz.underlying78 info3 rfl (by decide) (by omega) u5 x5_1 (wrap64 ((wrap64 ((rd l0 x7_1) - t529)) - x6_1)) [.int .i64 (wrap64 ((wrap64 ((rd l0 x7_1) - t529)) - x6_1))] (fun k_ => (w.heap.size ≤ k_)) (fun _ => False) rfl rfl ?aP (fun _ hk => hk.elim) ?aF ?aO ?aB ?aS ?aL ?_; (case aP => exact rfl); (case aB => exact bqs); (case aF => exact (fun k_ hk => (Nat.le_trans (below_size bqs) hk))); (case aO => exact (rq HO_5)); (case aS => exact (below_size bqs)); (case aL => have := LMc9.out; omega); intro v534 w10 ho hb hg hat; rw [← Ny533.out] at ho; have HO535 := Z0.mk (ho); replace HB := Z0.mk (hb); clear HO_5; clear ho hb hg hat) | (go_quiet (first | (go_at_call 145; (with_reducible refine (rEat.calls _ _ l1 x7_1 t529 _ ?side1 ?side2 A5.out).mono ?_); (case side1 => exact cq (Kd.C_below HR1.out HB.out)); (case side2 => exact HC1.out); rintro e w' ⟨rfl, ⟨nd, rfl⟩⟩; (try first | exact ⟨rfl, _, World.drewN_drewN _ _ _⟩ | exact ⟨rfl, _, Eq.trans (World.drewN_drewN _ _ _) (congrArg (World.drewN _) (Nat.add_assoc _ _ _))⟩)) | ((with_reducible refine gate_builtin (b := .append) (xs := #[.tmp 29, .tmp 31]) rfl ?_); at_builtin; refine Kd.R_append (Kd.int .i64) (w0 := w) w.heap.size rfl (.tmp 29) (.tmp 31) 78 3 (.int .i64 0) 8 rfl Tryz.underlying78 info3 rfl (by decide) (by omega) u5 x5_1 (wrap64 ((wrap64 ((rd l0 x7_1) - t529)) - x6_1)) [.int .i64 (wrap64 ((wrap64 ((rd l0 x7_1) - t529)) - x6_1))] (fun k_ => (w.heap.size ≤ k_)) (fun _ => False) rfl rfl ?aP (fun _ hk => hk.elim) ?aF ?aO ?aB ?aS ?aL ?_; (case aP => exact rfl); (case aB => exact bqs); (case aF => exact (fun k_ hk => (Nat.le_trans (below_size bqs) hk))); (case aO => exact (rq HO_5)); (case aS => exact (below_size bqs)); (case aL => have := LMc9.out; omega); intro v534 w10 ho hb hg hat; rw [← Ny533.out] at ho; have HO535 := Z0.mk (ho); replace HB := Z0.mk (hb); clear HO_5; clear ho hb hg hat))))
    go_roundg k1
    case measure => have := HK1.out; omega
    case rel => exact ⟨(y533), (0), (wrap64 (x7_1 + 1)), fs, fs, H', ⟨by have := HK1.out; omega⟩, ⟨rq HO535⟩, ⟨bqs⟩⟩
   obtain ⟨t536, A11, H⟩ := bnd H
   obtain rfl := Option.some.inj H
   obtain ⟨Ao12, co12, eo12⟩ := Kd.R_slice HO_5.out
   subst eo12
   go_wp2_with (first | (go_at_call 87; (with_reducible refine (rEcut.calls k1 (fun k_ => some k_ = (.slice Ao12 x5_1.length co12 : Value).ownBlock) _ _ x5_1 t536 _ ?side1 A11.out).mono ?_); (case side1 => exact Kd.R_V (Kd.R_tight rfl (HO_5.out))); rintro e w13 ⟨v537, rfl, ho0, hb⟩; have HO538 := Z0.mk (Kd.V_lower (Kd.V_mono (ok' := fun k_ => (w.heap.size ≤ k_)) ho0 (fun k_ hk_ => Or.elim hk_ (fun hs_ => ((HO_5.out).1 k_ hs_.symm)) (fun hn_ => (Nat.le_trans (below_size bqs) hn_)))) (below_size bqs)); replace HO_5 := fR HO_5 hb; replace HB := fB HB hb; clear hb ho0) | (go_quiet (first | (go_at_call 87; (with_reducible refine (rEcut.calls k1 (fun k_ => some k_ = (.slice Ao12 x5_1.length co12 : Value).ownBlock) _ _ x5_1 t536 _ ?side1 A11.out).mono ?_); (case side1 => exact Kd.R_V (Kd.R_tight rfl (HO_5.out))); rintro e w13 ⟨v537, rfl, ho0, hb⟩; have HO538 := Z0.mk (Kd.V_lower (Kd.V_mono (ok' := fun k_ => (w.heap.size ≤ k_)) ho0 (fun k_ hk_ => Or.elim hk_ (fun hs_ => ((HO_5.out).1 k_ hs_.symm)) (fun hn_ => (Nat.le_trans (below_size bqs) hn_)))) (below_size bqs)); replace HO_5 := fR HO_5 hb; replace HB := fB HB hb; clear hb ho0))))
   go_ret
   exact ⟨_, fe, vq HO538, bqs⟩
theorem rEnumber.calls (k : Nat) (a0 : ByteArray) (r : Int) (w : World) (h : rEnumber.f k a0 = some r) :
  Calls Tryz.prog 74 #[.string a0] w fun e w' => e = .returned (.int .i64 r) ∧ Drawn0 w w' := by
 have H := h
 clear h
 unfold rEnumber.f at H
 have H' := Z0.mk H
 clear H
 go_enter Tryz.func74, Tryz.ntmps74
 go_wp2
 go_loopg [3, 4] k (fun kq v3 v4 w' => ∃ (x3_1 : Int) (x4_1 : Int), v3 = .int .i64 x3_1 ∧ v4 = .int .i64 x4_1 ∧ Z0 (rEnumber.l0 kq a0 x3_1 x4_1 = some r) ∧ Z0 (kq ≤ k) ∧ Drawn0 w w')
 case atStart => exact ⟨(0), (0), fs, fs, H', ⟨Nat.le_refl _⟩, by repeat (first | exact Drawn0.refl _ | apply Drawn0.step)⟩
 case round =>
  clear H'
  try clear c1
  obtain ⟨x3_1, x4_1, rfl, rfl, HA, HK1, ⟨m1, rfl⟩⟩ := hrel
  cases gk with
  | zero => exact absurd HA.out (by simp [rEnumber.l0])
  | succ k1 =>
   have H := HA.out
   clear HA
   simp only [rEnumber.l0] at H
   rcases jd H with ⟨-, c2b0, H⟩ | ⟨-, c2b0, H⟩
   ·obtain ⟨-, c3b0, H⟩ := gd H
    rcases je H with ⟨-, c5b0, c5b1, H⟩ | ⟨c5, c5b0, c5b1, H⟩
    ·have H' := Z0.mk H
     clear H
     obtain ⟨hx4, p4, q4⟩ := btA a0 x4_1
     go_wp2
     go_roundg k1
     case measure => have := HK1.out; omega
     case rel => exact ⟨(x3_1), (wrap64 (x4_1 + 1)), fs, fs, H', ⟨by have := HK1.out; omega⟩, by repeat (first | exact Drawn0.refl _ | apply Drawn0.step)⟩
    have H' := Z0.mk H
    clear H
    obtain ⟨hx4, p4, q4⟩ := btA a0 x4_1
    obtain ⟨hx6, p6, q6⟩ := btA a0 x4_1
    go_wp2
    go_roundg k1
    case measure => have := HK1.out; omega
    case rel => exact ⟨(wrap64 ((wrap64 (x3_1 * 10)) + (((bt a0 x4_1) - 48) % 256))), (wrap64 (x4_1 + 1)), fs, fs, H', ⟨by have := HK1.out; omega⟩, by repeat (first | exact Drawn0.refl _ | apply Drawn0.step)⟩
   obtain ⟨t478, A7, H⟩ := bnd H
   by_cases c8 : t478 = true
   ·subst c8
    have H1 : (some (wrap64 (-x3_1))) = some r := by rw [if_pos rfl] at H; exact H
    clear H
    have H := H1
    clear H1
    obtain rfl := Option.some.inj H
    go_wp2_with (first | ((with_reducible refine gc_ 78 rfl ?_); refine goD (some 24) Tryz.func78 #[.string a0] (rENegative.calls a0 true _ A7.out) ?_; intro nd))
    go_ret
    exact finD
   replace c8 := Bool.eq_false_iff.mpr c8
   subst c8
   have H1 : (some x3_1) = some r := by rw [if_neg (show ¬ (false = true) by decide)] at H; exact H
   clear H
   have H := H1
   clear H1
   obtain rfl := Option.some.inj H
   go_wp2_with (first | ((with_reducible refine gc_ 78 rfl ?_); refine goD (some 24) Tryz.func78 #[.string a0] (rENegative.calls a0 false _ A7.out) ?_; intro nd))
   go_ret
   exact finD
theorem rEorder.calls (k : Nat) (A0 : Option Addr) (c0 : Nat) (l0 : List Int) (A1 : Option Addr) (c1 : Nat) (l1 : List Int) (r : Int) (w : World) (hr0 : Kd.C (Kd.int .i64) w A0 l0.length l0) (hc0 : l0.length ≤ c0) (hr1 : Kd.C (Kd.int .i64) w A1 l1.length l1) (hc1 : l1.length ≤ c1) (h : rEorder.f k l0 l1 = some r) :
  Calls Tryz.prog 86 #[.slice A0 l0.length c0, .slice A1 l1.length c1] w fun e w' => e = .returned (.int .i64 r) ∧ Drawn0 w w' := by
 have HR0 := Z0.mk hr0
 have HC0 := Z0.mk hc0
 clear hr0 hc0
 have HR1 := Z0.mk hr1
 have HC1 := Z0.mk hc1
 clear hr1 hc1
 have H := h
 clear h
 unfold rEorder.f at H
 rcases je H with ⟨c3, c3b0, c3b1, H⟩ | ⟨c3, c3b0, c3b1, H⟩
 ·have c3b2 : (l0.length == l1.length) = true := by first | simpa using c3 | (simp at c3 ⊢; omega)
  clear c3
  have H' := Z0.mk H
  clear H
  go_enter Tryz.func86, Tryz.ntmps86
  go_wp2
  repeat (go_quiet (fail); try go_wp2)
  go_loopg [5] k (fun kq v5 w' => ∃ (x5_1 : Int), v5 = .int .i64 x5_1 ∧ Z0 (rEorder.l0 kq l0 l1 x5_1 = some r) ∧ Z0 (kq ≤ k) ∧ Drawn0 w w')
  case atStart => exact ⟨(wrap64 ((l0.length : Int) - 1)), fs, H', ⟨Nat.le_refl _⟩, by repeat (first | exact Drawn0.refl _ | apply Drawn0.step)⟩
  case round =>
   clear H'
   try clear c1
   try clear p2
   try clear c3
   try clear c3b0
   try clear c3b1
   try clear c3b2
   obtain ⟨x5_1, rfl, HA, HK1, ⟨m1, rfl⟩⟩ := hrel
   cases gk with
   | zero => exact absurd HA.out (by simp [rEorder.l0])
   | succ k1 =>
    have H := HA.out
    clear HA
    simp only [rEorder.l0] at H
    rcases jh H with ⟨-, c4b0, H⟩ | ⟨-, c4b0, H⟩
    ·obtain ⟨-, c5b0, H⟩ := gd H
     obtain ⟨-, c6b0, H⟩ := gd H
     obtain ⟨-, c7b0, H⟩ := gd H
     rcases je H with ⟨-, c8b0, c8b1, H⟩ | ⟨c8, c8b0, c8b1, H⟩
     ·have H' := Z0.mk H
      clear H
      obtain ⟨ad447, e447, hx447_0, p447, q447⟩ := atI HR0.out x5_1
      cases e447
      obtain ⟨ad448, e448, hx448_0, p448, q448⟩ := atI HR1.out x5_1
      cases e448
      go_wp2
      repeat (go_quiet (fail); try go_wp2)
      go_roundg k1
      case measure => have := HK1.out; omega
      case rel => exact ⟨(wrap64 (x5_1 - 1)), fs, H', ⟨by have := HK1.out; omega⟩, by repeat (first | exact Drawn0.refl _ | apply Drawn0.step)⟩
     rcases jd H with ⟨-, c9b0, H⟩ | ⟨-, c9b0, H⟩
     ·obtain rfl := Option.some.inj H
      obtain ⟨ad447, e447, hx447_0, p447, q447⟩ := atI HR0.out x5_1
      cases e447
      obtain ⟨ad448, e448, hx448_0, p448, q448⟩ := atI HR1.out x5_1
      cases e448
      obtain ⟨ad449, e449, hx449_0, p449, q449⟩ := atI HR0.out x5_1
      obtain rfl : ad447 = ad449 := (by injection e449)
      obtain ⟨ad450, e450, hx450_0, p450, q450⟩ := atI HR1.out x5_1
      obtain rfl : ad448 = ad450 := (by injection e450)
      go_wp2
      repeat (go_quiet (fail); try go_wp2)
      go_ret
      exact finD
     obtain rfl := Option.some.inj H
     obtain ⟨ad447, e447, hx447_0, p447, q447⟩ := atI HR0.out x5_1
     cases e447
     obtain ⟨ad448, e448, hx448_0, p448, q448⟩ := atI HR1.out x5_1
     cases e448
     obtain ⟨ad449, e449, hx449_0, p449, q449⟩ := atI HR0.out x5_1
     obtain rfl : ad447 = ad449 := (by injection e449)
     obtain ⟨ad450, e450, hx450_0, p450, q450⟩ := atI HR1.out x5_1
     obtain rfl : ad448 = ad450 := (by injection e450)
     go_wp2
     repeat (go_quiet (fail); try go_wp2)
     go_ret
     exact finD
    obtain rfl := Option.some.inj H
    go_wp2
    repeat (go_quiet (fail); try go_wp2)
    go_ret
    exact finD
 have c3b2 : (l0.length == l1.length) = false := by first | simpa using c3 | (simp at c3 ⊢; omega)
 rcases jd H with ⟨c10, c10b0, H⟩ | ⟨c10, c10b0, H⟩
 ·have c10b1 : decide (l0.length < l1.length) = true := decide_eq_true (Int.ofNat_lt.mp c10)
  clear c10
  obtain rfl := Option.some.inj H
  go_enter Tryz.func86, Tryz.ntmps86
  go_wp2
  repeat (go_quiet (fail); try go_wp2)
  go_ret
  exact finD
 have c10b1 : decide (l0.length < l1.length) = false := decide_eq_false (fun h => c10 (Int.ofNat_lt.mpr h))
 clear c10
 obtain rfl := Option.some.inj H
 go_enter Tryz.func86, Tryz.ntmps86
 go_wp2
 repeat (go_quiet (fail); try go_wp2)
 go_ret
 exact finD
theorem rEplus.calls (k : Nat) (A0 : Option Addr) (c0 : Nat) (l0 : List Int) (A1 : Option Addr) (c1 : Nat) (l1 : List Int) (r : List Int) (w : World) (hr0 : Kd.C (Kd.int .i64) w A0 l0.length l0) (hc0 : l0.length ≤ c0) (hr1 : Kd.C (Kd.int .i64) w A1 l1.length l1) (hc1 : l1.length ≤ c1) (h : rEplus.f k l0 l1 = some r) :
  Calls Tryz.prog 122 #[.slice A0 l0.length c0, .slice A1 l1.length c1] w fun e w' => ∃ v0_ : Value, e = .returned (v0_) ∧ Kd.V (Kd.int .i64) 3 w' w.heap.size (fun k_ => (w.heap.size ≤ k_)) v0_ r ∧ Below w.heap.size w w' := by
 have HR0 := Z0.mk hr0
 have HC0 := Z0.mk hc0
 clear hr0 hc0
 have HR1 := Z0.mk hr1
 have HC1 := Z0.mk hc1
 clear hr1 hc1
 have HB := Z0.mk (Below.refl w.heap.size w)
 have H := h
 clear h
 unfold rEplus.f at H
 have H' := Z0.mk H
 clear H
 go_enter Tryz.func122, Tryz.ntmps122
 go_wp2
 go_loopg [5, 6, 7] k (fun kq v5 v6 v7 w' => ∃ (x5_1 : List Int) (x6_1 : Int) (x7_1 : Int), v6 = .int .i64 x6_1 ∧ v7 = .int .i64 x7_1 ∧ Z0 (rEplus.l0 kq l0 l1 x5_1 x6_1 x7_1 = some r) ∧ Z0 (kq ≤ k) ∧ Z0 (Kd.R (Kd.int .i64) 3 w' w.heap.size (fun k_ => (w.heap.size ≤ k_)) v5 x5_1) ∧ Z0 (Below w.heap.size w w'))
 case atStart => exact ⟨(([] : List Int)), (0), (0), fs, fs, H', ⟨Nat.le_refl _⟩, ⟨by first | exact Kd.R_nil _ _ _ _ _ | exact Kd.N_nil _ _ _ _ _ | exact Kd.V_nil _ _ _ _ _ | exact Kd.Q_nil _ _ _ _ _ | exact Kd.S_nil _ _ _ _ _⟩, ⟨bqs⟩⟩
 case round =>
  clear H'
  try clear c1
  try clear p2
  obtain ⟨x5_1, x6_1, x7_1, rfl, rfl, HA, HK1, HO_5, HB⟩ := hrel
  cases gk with
  | zero => exact absurd HA.out (by simp [rEplus.l0])
  | succ k1 =>
   have H := HA.out
   clear HA
   simp only [rEplus.l0] at H
   obtain ⟨ji3, hji3⟩ : ∃ j_ : Int, (mx (l0.length : Int) (l1.length : Int)) = j_ := ⟨_, rfl⟩
   replace H : (if x7_1 < (wrap64 ((ji3) + 1)) then ((rEat.f l0 x7_1).bind fun t520 => ((rEat.f l1 x7_1).bind fun t521 => (if x5_1.length < 17592186044416 then (rEplus.l0 k1 l0 l1 (x5_1 ++ [Int.tmod (wrap64 (x6_1 + (wrap64 (t520 + t521)))) 10]) (wrap64 (Int.tdiv (wrap64 (x6_1 + (wrap64 (t520 + t521)))) 10)) (wrap64 (x7_1 + 1))) else (none)))) else ((rEcut.f k1 x5_1).bind fun t525 => (some t525))) = some r := by first | (rw [hji3] at H; exact H) | (simp only [hji3] at H ⊢; exact H)
   have hji3_ : (if (l0.length : Int) < (l1.length : Int) then (l1.length : Int) else (l0.length : Int)) = ji3 := hji3
   have hji3n : (if l0.length < l1.length then (l1.length : Int) else (l0.length : Int)) = ji3 := by have h := hji3_; simp only [Int.ofNat_lt] at h; exact h
   rcases jd H with ⟨-, c4b0, H⟩ | ⟨-, c4b0, H⟩
   ·obtain ⟨t520, A5, H⟩ := bnd H
    obtain ⟨t521, A6, H⟩ := bnd H
    obtain ⟨c7, H⟩ := gn H
    have LMc7 := Z0.mk c7
    clear c7
    generalize hy522 : (x5_1 ++ [Int.tmod (wrap64 (x6_1 + (wrap64 (t520 + t521)))) 10] : List Int) = y522 at H
    have Ny522 := Z0.mk hy522.symm
    clear hy522
    have H' := Z0.mk H
    clear H
    go_wp2_with (first | ((with_reducible refine gc_ 145 rfl ?_); refine goesL_ (some 21) rfl rfl Tryz.func145 (by kernel_rfl) rfl #[.slice A0 l0.length c0, .int .i64 x7_1] rfl (by (try simp only [List.map_toArray, List.map_cons, List.map_nil]); first | done | rfl | (simp only [List.length_drop, List.length_take]; rfl)) ?_; (with_reducible refine (rEat.calls _ _ l0 x7_1 t520 _ ?side1 ?side2 A5.out).mono ?_); (case side1 => exact cq (Kd.C_below HR0.out HB.out)); (case side2 => exact HC0.out); rintro e w' ⟨rfl, ⟨nd, rfl⟩⟩; refine ⟨_, rfl, ?_⟩) | ((with_reducible refine gc_ 145 rfl ?_); refine goesL_ (some 24) rfl rfl Tryz.func145 (by kernel_rfl) rfl #[.slice A1 l1.length c1, .int .i64 x7_1] rfl (by (try simp only [List.map_toArray, List.map_cons, List.map_nil]); first | done | rfl | (simp only [List.length_drop, List.length_take]; rfl)) ?_; (with_reducible refine (rEat.calls _ _ l1 x7_1 t521 _ ?side1 ?side2 A6.out).mono ?_); (case side1 => exact cq (Kd.C_below HR1.out bqs)); (case side2 => exact HC1.out); rintro e w' ⟨rfl, ⟨nd, rfl⟩⟩; refine ⟨_, rfl, ?_⟩) | ((with_reducible refine gate_builtin (b := .append) (xs := #[.tmp 27, .tmp 30]) rfl ?_); at_builtin; refine Kd.R_append (Kd.int .i64) (w0 := w) w.heap.size rfl (.tmp 27) (.tmp 30) 78 3 (.int .i64 0) 8 rfl Tryz.underlying78 info3 rfl (by decide) (by omega) u5 x5_1 (Int.tmod (wrap64 (x6_1 + (wrap64 (t520 + t521)))) 10) [.int .i64 (Int.tmod (wrap64 (x6_1 + (wrap64 (t520 + t521)))) 10)] (fun k_ => (w.heap.size ≤ k_)) (fun _ => False) rfl rfl ?aP (fun _ hk => hk.elim) ?aF ?aO ?aB ?aS ?aL ?_; (case aP => exact rfl); (case aB => exact bqs); (case aF => exact (fun k_ hk => (Nat.le_trans (below_size bqs) hk))); (case aO => exact (rq HO_5)); (case aS => exact (below_size bqs)); (case aL => have := LMc7.out; omega); intro v523 w8 ho hb hg hat; rw [← Ny522.out] at ho; have HO524 := Z0.mk (ho); replace HB := Z0.mk (hb); clear HO_5; clear ho hb hg hat))
    go_roundg k1
    case measure => have := HK1.out; omega
    case rel => exact ⟨(y522), (wrap64 (Int.tdiv (wrap64 (x6_1 + (wrap64 (t520 + t521)))) 10)), (wrap64 (x7_1 + 1)), fs, fs, H', ⟨by have := HK1.out; omega⟩, ⟨rq HO524⟩, ⟨bqs⟩⟩
   obtain ⟨t525, A9, H⟩ := bnd H
   obtain rfl := Option.some.inj H
   obtain ⟨Ao10, co10, eo10⟩ := Kd.R_slice HO_5.out
   subst eo10
   go_wp2_with (first | ((with_reducible refine gc_ 87 rfl ?_); refine gL 35 Tryz.func87 (rEcut.calls k1 (fun k_ => some k_ = (.slice Ao10 x5_1.length co10 : Value).ownBlock) _ _ x5_1 t525 _ ?side1 A9.out) ?_; (case side1 => exact Kd.R_V (Kd.R_tight rfl (HO_5.out))); rintro _ w11 ⟨v526, rfl, ho0, hb⟩; refine ⟨_, rfl, ?_⟩; have HO527 := Z0.mk (Kd.V_lower (Kd.V_mono (ok' := fun k_ => (w.heap.size ≤ k_)) ho0 (fun k_ hk_ => Or.elim hk_ (fun hs_ => ((HO_5.out).1 k_ hs_.symm)) (fun hn_ => (Nat.le_trans (below_size bqs) hn_)))) (below_size bqs)); replace HO_5 := fR HO_5 hb; replace HB := fB HB hb; clear hb ho0))
   go_ret
   exact ⟨_, by first | rfl | (simp [errW_none, errW_some] <;> rfl) | (simp only [← hji3]; first | rfl | (simp [errW_none, errW_some] <;> rfl)) | (simp [*, errW_none, errW_some] <;> rfl), vq HO527, bqs⟩
theorem rEshort.calls (a0 : ByteArray) (a1 : Int) (r : Bool) (w : World) (h : rEshort.f a0 a1 = some r) :
  Calls Tryz.prog 119 #[.string a0, .int .i64 a1] w fun e w' => e = .returned (.bool r) ∧ Drawn0 w w' := by
 have H := h
 clear h
 unfold rEshort.f at H
 obtain ⟨t518, A3, H⟩ := bnd H
 obtain rfl := Option.some.inj H
 go_enter Tryz.func119, Tryz.ntmps119
 go_wp2_with (first | ((with_reducible refine gc_ 72 rfl ?_); refine goD (some 6) Tryz.func72 #[.string a0] (rEDigits.calls a0 t518 _ A3.out) ?_; intro nd))
 go_ret
 exact finD
theorem rESum.calls (k : Nat) (a0 : ByteArray) (a1 : ByteArray) (r : ByteArray) (w : World) (h : rESum.f k a0 a1 = some r) :
  Calls Tryz.prog 84 #[.string a0, .string a1] w fun e w' => e = .returned (.string r) ∧ Below w.heap.size w w' := by
 have HB := Z0.mk (Below.refl w.heap.size w)
 have H := h
 clear h
 unfold rESum.f at H
 have HC3 := Z0.mk H
 clear H
 go_enter Tryz.func84, Tryz.ntmps84
 go_upto_region 1 with (fail)
 go_cut [12] (fun v12 wc => ∃ (kq : Nat) (x12_2 : Bool), v12 = .bool x12_2 ∧ Z0 (rESum.j0 kq a0 a1 x12_2 = some r) ∧ Z0 (kq ≤ k) ∧ Z0 (Below w.heap.size w wc))
 case first =>
  have H := HC3.out
  clear HC3
  obtain ⟨t539, A4, H⟩ := bnd H
  by_cases c5 : t539 = true
  ·subst c5
   have H1 : ((rEshort.f a1 17).bind fun t540 => (rESum.j0 k a0 a1 t540)) = some r := by rw [if_pos rfl] at H; exact H
   clear H
   have H := H1
   clear H1
   obtain ⟨t540, A6, H⟩ := bnd H
   have H' := Z0.mk H
   clear H
   go_wp2_with (first | ((with_reducible refine gc_ 119 rfl ?_); refine goD (some 8) Tryz.func119 #[.string a0, .int .i64 17] (rEshort.calls a0 17 true _ A4.out) ?_; intro nd) | (go_at_call 119; (with_reducible refine (rEshort.calls a1 17 t540 _ A6.out).mono ?_); rintro e w' ⟨rfl, ⟨nd, rfl⟩⟩))
   go_meet
   case rel => exact ⟨_, (t540), fs, H', ⟨by first | omega | exact Nat.le_refl _⟩, ⟨bqs⟩⟩
  replace c5 := Bool.eq_false_iff.mpr c5
  subst c5
  have H1 : (rESum.j0 k a0 a1 false) = some r := by rw [if_neg (show ¬ (false = true) by decide)] at H; exact H
  clear H
  have H := H1
  clear H1
  have H' := Z0.mk H
  clear H
  go_wp2_with (first | ((with_reducible refine gc_ 119 rfl ?_); refine goD (some 8) Tryz.func119 #[.string a0, .int .i64 17] (rEshort.calls a0 17 false _ A4.out) ?_; intro nd))
  go_meet
  case rel => exact ⟨_, (false), fs, H', ⟨by first | omega | exact Nat.le_refl _⟩, ⟨bqs⟩⟩
 case rest =>
  clear HC3
  try clear c1
  try clear p2
  try clear c5
  obtain ⟨kq, x12_2, rfl, HA, HJ2, HB⟩ := hcut
  cases kq with
  | zero => exact absurd HA.out (by simp [rESum.j0])
  | succ kj2 =>
   have H := HA.out
   clear HA
   simp only [rESum.j0] at H
   by_cases c7 : x12_2 = true
   ·subst c7
    have H1 : ((rEnumber.f kj2 a0).bind fun t541 => ((rEnumber.f kj2 a1).bind fun t542 => ((rEWhole.f kj2 (wrap64 (t541 + t542))).bind fun t543 => (some t543)))) = some r := by rw [if_pos rfl] at H; exact H
    clear H
    have H := H1
    clear H1
    obtain ⟨t541, A8, H⟩ := bnd H
    obtain ⟨t542, A9, H⟩ := bnd H
    obtain ⟨t543, A10, H⟩ := bnd H
    obtain rfl := Option.some.inj H
    go_wp2_with (first | ((with_reducible refine gc_ 74 rfl ?_); refine goD (some 14) Tryz.func74 #[.string a0] (rEnumber.calls kj2 a0 t541 _ A8.out) ?_; intro nd) | ((with_reducible refine gc_ 74 rfl ?_); refine goD (some 16) Tryz.func74 #[.string a1] (rEnumber.calls kj2 a1 t542 _ A9.out) ?_; intro nd) | ((with_reducible refine gc_ 73 rfl ?_); refine goB (some 18) Tryz.func73 #[.int .i64 (wrap64 (t541 + t542))] bq (rEWhole.calls kj2 (wrap64 (t541 + t542)) t543 _ A10.out) ?_; clear HB; intro w11 HB))
    go_ret
    exact finE
   replace c7 := Bool.eq_false_iff.mpr c7
   subst c7
   have H1 : ((rEdigits.f kj2 a0).bind fun t544 => ((rEdigits.f kj2 a1).bind fun t547 => ((rENegative.f a0).bind fun t550 => ((rENegative.f a1).bind fun t551 => (if (t550 == t551) = true then ((rEplus.f kj2 t544 t547).bind fun t552 => ((rENegative.f a0).bind fun t555 => ((rEmade.f kj2 t552 t555).bind fun t556 => (some t556)))) else ((rEcut.f kj2 t544).bind fun t557 => ((rEcut.f kj2 t547).bind fun t560 => ((rEorder.f kj2 t557 t560).bind fun t563 => (if t563 ≥ 0 then ((rEminus.f kj2 t544 t547).bind fun t564 => ((rENegative.f a0).bind fun t567 => ((rEmade.f kj2 t564 t567).bind fun t568 => (some t568)))) else ((rEminus.f kj2 t547 t544).bind fun t569 => ((rENegative.f a1).bind fun t572 => ((rEmade.f kj2 t569 t572).bind fun t573 => (some t573))))))))))))) = some r := by rw [if_neg (show ¬ (false = true) by decide)] at H; exact H
   clear H
   have H := H1
   clear H1
   obtain ⟨t544, A12, H⟩ := bnd H
   obtain ⟨t547, A13, H⟩ := bnd H
   obtain ⟨t550, A14, H⟩ := bnd H
   obtain ⟨t551, A15, H⟩ := bnd H
   rcases jn H with ⟨c16, H⟩ | ⟨c16, H⟩
   ·have c16b0 : (t550 == t551) = true := c16
    (try (have c16b1 : decide (t550 = t551) = true := by simpa using c16))
    (try (have c16b2 : (t550 == t551) = true := by simpa using c16))
    clear c16
    obtain ⟨t552, A17, H⟩ := bnd H
    obtain ⟨t555, A18, H⟩ := bnd H
    obtain ⟨t556, A19, H⟩ := bnd H
    obtain rfl := Option.some.inj H
    go_wp2_with (first | ((with_reducible refine gc_ 77 rfl ?_); refine gL 20 Tryz.func77 (rEdigits.calls _ _ _ _ A12.out) ?_; rintro _ w20 ⟨v545, rfl, ho0, hb⟩; refine ⟨_, rfl, ?_⟩; have HO546 := fN ho0; replace HB := fB HB hb; clear hb ho0) | ((with_reducible refine gc_ 77 rfl ?_); refine gL 22 Tryz.func77 (rEdigits.calls _ _ _ _ A13.out) ?_; rintro _ w21 ⟨v548, rfl, ho0, hb⟩; refine ⟨_, rfl, ?_⟩; have HO549 := Z0.mk (Kd.R_lower (Kd.R_new' ho0 (Kd.R_lt (rq HO546))) (below_size bqs)); replace HO546 := Z0.mk (Kd.R_elder' (rq HO546) (Kd.R_base ho0) hb); replace HB := fB HB hb; clear hb ho0) | ((with_reducible refine gc_ 78 rfl ?_); refine goD (some 24) Tryz.func78 #[.string a0] (rENegative.calls a0 t550 _ A14.out) ?_; intro nd) | ((with_reducible refine gc_ 78 rfl ?_); refine gL 26 Tryz.func78 (rENegative.calls _ _ _ A15.out) ?_; rintro _ w' ⟨rfl, ⟨nd, rfl⟩⟩; refine ⟨_, rfl, ?_⟩; obtain ⟨Ao22, co22, eo22⟩ := Kd.R_slice HO546.out; subst eo22; obtain ⟨Ao23, co23, eo23⟩ := Kd.R_slice HO549.out; subst eo23) | ((with_reducible refine gc_ 122 rfl ?_); refine gL 30 Tryz.func122 (rEplus.calls kj2 _ _ t544 _ _ t547 t552 _ ?side1 ?side2 ?side3 ?side4 A17.out) ?_; (case side1 => exact cq (Kd.R_reads' HO546.out).2.2); (case side2 => exact (Kd.R_reads' HO546.out).2.1); (case side3 => exact cq (Kd.R_reads' HO549.out).2.2); (case side4 => exact (Kd.R_reads' HO549.out).2.1); rintro _ w24 ⟨v553, rfl, ho0, hb⟩; refine ⟨_, rfl, ?_⟩; have HO554 := Z0.mk (Kd.V_lower (Kd.V_mono (ok' := fun k_ => some k_ ≠ (.slice Ao22 t544.length co22 : Value).ownBlock ∧ some k_ ≠ (.slice Ao23 t547.length co23 : Value).ownBlock) ho0 (fun k_ hk_ => ⟨(Kd.fresh' (Kd.R_lt (rq HO546)) k_ hk_), (Kd.fresh' (Kd.R_lt (rq HO549)) k_ hk_)⟩)) (below_size bqs)); replace HO546 := fR HO546 hb; replace HO549 := fR HO549 hb; replace HB := fB HB hb; clear hb ho0) | ((with_reducible refine gc_ 78 rfl ?_); refine gL 32 Tryz.func78 (rENegative.calls _ _ _ A18.out) ?_; rintro _ w' ⟨rfl, ⟨nd, rfl⟩⟩; refine ⟨_, rfl, ?_⟩; obtain ⟨Ao25, co25, eo25⟩ := Kd.V_slice HO554.out; subst eo25) | ((with_reducible refine gc_ 75 rfl ?_); refine gL 33 Tryz.func75 (rEmade.calls kj2 _ _ t552 t555 t556 _ ?side1 ?side2 A19.out) ?_; (case side1 => exact cq (Kd.V_reads' HO554.out).2.2); (case side2 => exact (Kd.V_reads' HO554.out).2.1); rintro _ w26 ⟨rfl, hb⟩; refine ⟨_, rfl, ?_⟩; replace HO546 := fR HO546 hb; replace HO549 := fR HO549 hb; replace HO554 := fV HO554 hb; replace HB := fB HB hb; clear hb))
    go_ret
    exact finE
   have c16b0 : (t550 == t551) = false := by simpa using c16
   (try (have c16b1 : decide (t550 = t551) = false := by simpa using c16))
   (try (have c16b2 : (t550 == t551) = false := by simpa using c16))
   (try (have c16b3 : ¬ (t550 = t551) := by simpa using c16))
   clear c16
   obtain ⟨t557, A27, H⟩ := bnd H
   obtain ⟨t560, A28, H⟩ := bnd H
   obtain ⟨t563, A29, H⟩ := bnd H
   rcases jh H with ⟨-, c30b0, H⟩ | ⟨-, c30b0, H⟩
   ·obtain ⟨t564, A31, H⟩ := bnd H
    obtain ⟨t567, A32, H⟩ := bnd H
    obtain ⟨t568, A33, H⟩ := bnd H
    obtain rfl := Option.some.inj H
    go_wp2_with (first | ((with_reducible refine gc_ 77 rfl ?_); refine gL 20 Tryz.func77 (rEdigits.calls _ _ _ _ A12.out) ?_; rintro _ w34 ⟨v545, rfl, ho0, hb⟩; refine ⟨_, rfl, ?_⟩; have HO546 := fN ho0; replace HB := fB HB hb; clear hb ho0) | ((with_reducible refine gc_ 77 rfl ?_); refine gL 22 Tryz.func77 (rEdigits.calls _ _ _ _ A13.out) ?_; rintro _ w35 ⟨v548, rfl, ho0, hb⟩; refine ⟨_, rfl, ?_⟩; have HO549 := Z0.mk (Kd.R_lower (Kd.R_new' ho0 (Kd.R_lt (rq HO546))) (below_size bqs)); replace HO546 := Z0.mk (Kd.R_elder' (rq HO546) (Kd.R_base ho0) hb); replace HB := fB HB hb; clear hb ho0) | ((with_reducible refine gc_ 78 rfl ?_); refine goD (some 24) Tryz.func78 #[.string a0] (rENegative.calls a0 t550 _ A14.out) ?_; intro nd) | ((with_reducible refine gc_ 78 rfl ?_); refine gL 26 Tryz.func78 (rENegative.calls _ _ _ A15.out) ?_; rintro _ w' ⟨rfl, ⟨nd, rfl⟩⟩; refine ⟨_, rfl, ?_⟩; obtain ⟨Ao36, co36, eo36⟩ := Kd.R_slice HO546.out; subst eo36) | ((with_reducible refine gc_ 87 rfl ?_); refine gL 35 Tryz.func87 (rEcut.calls kj2 (fun k_ => some k_ = (.slice Ao36 t544.length co36 : Value).ownBlock) _ _ t544 t557 _ ?side1 A27.out) ?_; (case side1 => exact Kd.R_V (Kd.R_tight rfl (HO546.out))); rintro _ w37 ⟨v558, rfl, ho0, hb⟩; refine ⟨_, rfl, ?_⟩; have HO559 := Z0.mk (Kd.V_lower (Kd.V_mono (ok' := fun k_ => some k_ ≠ (v548 : Value).ownBlock) ho0 (fun k_ hk_ => Or.elim hk_ (fun hs_ => ((HO546.out).1 k_ hs_.symm).2) (fun hn_ => (Kd.fresh' (Kd.R_lt (rq HO549)) k_ hn_)))) (below_size bqs)); replace HO546 := fR HO546 hb; replace HO549 := fR HO549 hb; replace HB := fB HB hb; clear hb ho0; obtain ⟨Ao38, co38, eo38⟩ := Kd.R_slice HO549.out; subst eo38) | ((with_reducible refine gc_ 87 rfl ?_); refine gL 37 Tryz.func87 (rEcut.calls kj2 (fun k_ => some k_ = (.slice Ao38 t547.length co38 : Value).ownBlock) _ _ t547 t560 _ ?side1 A28.out) ?_; (case side1 => exact Kd.R_V (Kd.R_tight rfl (HO549.out))); rintro _ w39 ⟨v561, rfl, ho0, hb⟩; refine ⟨_, rfl, ?_⟩; have HO562 := Z0.mk (Kd.V_lower (Kd.V_mono (ok' := fun k_ => some k_ ≠ (.slice Ao36 t544.length co36 : Value).ownBlock) ho0 (fun k_ hk_ => Or.elim hk_ (fun hs_ => ((HO549.out).1 k_ hs_.symm).2) (fun hn_ => (Kd.fresh' (Kd.R_lt (rq HO546)) k_ hn_)))) (below_size bqs)); replace HO546 := fR HO546 hb; replace HO549 := fR HO549 hb; replace HO559 := fV HO559 hb; replace HB := fB HB hb; clear hb ho0; obtain ⟨Ao40, co40, eo40⟩ := Kd.V_slice HO559.out; subst eo40; obtain ⟨Ao41, co41, eo41⟩ := Kd.V_slice HO562.out; subst eo41) | ((with_reducible refine gc_ 86 rfl ?_); refine goesL_ (some 38) rfl rfl Tryz.func86 (by kernel_rfl) rfl #[.slice Ao40 t557.length co40, .slice Ao41 t560.length co41] rfl (by (try simp only [List.map_toArray, List.map_cons, List.map_nil]); first | done | rfl | (simp only [List.length_drop, List.length_take]; rfl)) ?_; (with_reducible refine (rEorder.calls kj2 _ _ t557 _ _ t560 t563 _ ?side1 ?side2 ?side3 ?side4 A29.out).mono ?_); (case side1 => exact cq (Kd.V_reads' HO559.out).2.2); (case side2 => exact (Kd.V_reads' HO559.out).2.1); (case side3 => exact cq (Kd.V_reads' HO562.out).2.2); (case side4 => exact (Kd.V_reads' HO562.out).2.1); rintro e w' ⟨rfl, ⟨nd, rfl⟩⟩; refine ⟨_, rfl, ?_⟩) | ((with_reducible refine gc_ 123 rfl ?_); refine gL 42 Tryz.func123 (rEminus.calls kj2 _ _ t544 _ _ t547 t564 _ ?side1 ?side2 ?side3 ?side4 A31.out) ?_; (case side1 => exact cq (Kd.R_reads' HO546.out).2.2); (case side2 => exact (Kd.R_reads' HO546.out).2.1); (case side3 => exact cq (Kd.R_reads' HO549.out).2.2); (case side4 => exact (Kd.R_reads' HO549.out).2.1); rintro _ w42 ⟨v565, rfl, ho0, hb⟩; refine ⟨_, rfl, ?_⟩; have HO566 := Z0.mk (Kd.V_lower (Kd.V_mono (ok' := fun k_ => some k_ ≠ (.slice Ao36 t544.length co36 : Value).ownBlock ∧ some k_ ≠ (.slice Ao38 t547.length co38 : Value).ownBlock) ho0 (fun k_ hk_ => ⟨(Kd.fresh' (Kd.R_lt (rq HO546)) k_ hk_), (Kd.fresh' (Kd.R_lt (rq HO549)) k_ hk_)⟩)) (below_size bqs)); replace HO546 := fR HO546 hb; replace HO549 := fR HO549 hb; replace HO559 := fV HO559 hb; replace HO562 := fV HO562 hb; replace HB := fB HB hb; clear hb ho0) | ((with_reducible refine gc_ 78 rfl ?_); refine gL 44 Tryz.func78 (rENegative.calls _ _ _ A32.out) ?_; rintro _ w' ⟨rfl, ⟨nd, rfl⟩⟩; refine ⟨_, rfl, ?_⟩; obtain ⟨Ao43, co43, eo43⟩ := Kd.V_slice HO566.out; subst eo43) | ((with_reducible refine gc_ 75 rfl ?_); refine gL 45 Tryz.func75 (rEmade.calls kj2 _ _ t564 t567 t568 _ ?side1 ?side2 A33.out) ?_; (case side1 => exact cq (Kd.V_reads' HO566.out).2.2); (case side2 => exact (Kd.V_reads' HO566.out).2.1); rintro _ w44 ⟨rfl, hb⟩; refine ⟨_, rfl, ?_⟩; replace HO546 := fR HO546 hb; replace HO549 := fR HO549 hb; replace HO559 := fV HO559 hb; replace HO562 := fV HO562 hb; replace HO566 := fV HO566 hb; replace HB := fB HB hb; clear hb))
    go_ret
    exact finE
   obtain ⟨t569, A45, H⟩ := bnd H
   obtain ⟨t572, A46, H⟩ := bnd H
   obtain ⟨t573, A47, H⟩ := bnd H
   obtain rfl := Option.some.inj H
   go_wp2_with (first | ((with_reducible refine gc_ 77 rfl ?_); refine gL 20 Tryz.func77 (rEdigits.calls _ _ _ _ A12.out) ?_; rintro _ w48 ⟨v545, rfl, ho0, hb⟩; refine ⟨_, rfl, ?_⟩; have HO546 := fN ho0; replace HB := fB HB hb; clear hb ho0) | ((with_reducible refine gc_ 77 rfl ?_); refine gL 22 Tryz.func77 (rEdigits.calls _ _ _ _ A13.out) ?_; rintro _ w49 ⟨v548, rfl, ho0, hb⟩; refine ⟨_, rfl, ?_⟩; have HO549 := Z0.mk (Kd.R_lower (Kd.R_new' ho0 (Kd.R_lt (rq HO546))) (below_size bqs)); replace HO546 := Z0.mk (Kd.R_elder' (rq HO546) (Kd.R_base ho0) hb); replace HB := fB HB hb; clear hb ho0) | ((with_reducible refine gc_ 78 rfl ?_); refine goD (some 24) Tryz.func78 #[.string a0] (rENegative.calls a0 t550 _ A14.out) ?_; intro nd) | ((with_reducible refine gc_ 78 rfl ?_); refine gL 26 Tryz.func78 (rENegative.calls _ _ _ A15.out) ?_; rintro _ w' ⟨rfl, ⟨nd, rfl⟩⟩; refine ⟨_, rfl, ?_⟩; obtain ⟨Ao50, co50, eo50⟩ := Kd.R_slice HO546.out; subst eo50) | ((with_reducible refine gc_ 87 rfl ?_); refine gL 35 Tryz.func87 (rEcut.calls kj2 (fun k_ => some k_ = (.slice Ao50 t544.length co50 : Value).ownBlock) _ _ t544 t557 _ ?side1 A27.out) ?_; (case side1 => exact Kd.R_V (Kd.R_tight rfl (HO546.out))); rintro _ w51 ⟨v558, rfl, ho0, hb⟩; refine ⟨_, rfl, ?_⟩; have HO559 := Z0.mk (Kd.V_lower (Kd.V_mono (ok' := fun k_ => some k_ ≠ (v548 : Value).ownBlock) ho0 (fun k_ hk_ => Or.elim hk_ (fun hs_ => ((HO546.out).1 k_ hs_.symm).2) (fun hn_ => (Kd.fresh' (Kd.R_lt (rq HO549)) k_ hn_)))) (below_size bqs)); replace HO546 := fR HO546 hb; replace HO549 := fR HO549 hb; replace HB := fB HB hb; clear hb ho0; obtain ⟨Ao52, co52, eo52⟩ := Kd.R_slice HO549.out; subst eo52) | ((with_reducible refine gc_ 87 rfl ?_); refine gL 37 Tryz.func87 (rEcut.calls kj2 (fun k_ => some k_ = (.slice Ao52 t547.length co52 : Value).ownBlock) _ _ t547 t560 _ ?side1 A28.out) ?_; (case side1 => exact Kd.R_V (Kd.R_tight rfl (HO549.out))); rintro _ w53 ⟨v561, rfl, ho0, hb⟩; refine ⟨_, rfl, ?_⟩; have HO562 := Z0.mk (Kd.V_lower (Kd.V_mono (ok' := fun k_ => some k_ ≠ (.slice Ao50 t544.length co50 : Value).ownBlock) ho0 (fun k_ hk_ => Or.elim hk_ (fun hs_ => ((HO549.out).1 k_ hs_.symm).2) (fun hn_ => (Kd.fresh' (Kd.R_lt (rq HO546)) k_ hn_)))) (below_size bqs)); replace HO546 := fR HO546 hb; replace HO549 := fR HO549 hb; replace HO559 := fV HO559 hb; replace HB := fB HB hb; clear hb ho0; obtain ⟨Ao54, co54, eo54⟩ := Kd.V_slice HO559.out; subst eo54; obtain ⟨Ao55, co55, eo55⟩ := Kd.V_slice HO562.out; subst eo55) | ((with_reducible refine gc_ 86 rfl ?_); refine goesL_ (some 38) rfl rfl Tryz.func86 (by kernel_rfl) rfl #[.slice Ao54 t557.length co54, .slice Ao55 t560.length co55] rfl (by (try simp only [List.map_toArray, List.map_cons, List.map_nil]); first | done | rfl | (simp only [List.length_drop, List.length_take]; rfl)) ?_; (with_reducible refine (rEorder.calls kj2 _ _ t557 _ _ t560 t563 _ ?side1 ?side2 ?side3 ?side4 A29.out).mono ?_); (case side1 => exact cq (Kd.V_reads' HO559.out).2.2); (case side2 => exact (Kd.V_reads' HO559.out).2.1); (case side3 => exact cq (Kd.V_reads' HO562.out).2.2); (case side4 => exact (Kd.V_reads' HO562.out).2.1); rintro e w' ⟨rfl, ⟨nd, rfl⟩⟩; refine ⟨_, rfl, ?_⟩) | ((with_reducible refine gc_ 123 rfl ?_); refine gL 48 Tryz.func123 (rEminus.calls kj2 _ _ t547 _ _ t544 t569 _ ?side1 ?side2 ?side3 ?side4 A45.out) ?_; (case side1 => exact cq (Kd.R_reads' HO549.out).2.2); (case side2 => exact (Kd.R_reads' HO549.out).2.1); (case side3 => exact cq (Kd.R_reads' HO546.out).2.2); (case side4 => exact (Kd.R_reads' HO546.out).2.1); rintro _ w56 ⟨v570, rfl, ho0, hb⟩; refine ⟨_, rfl, ?_⟩; have HO571 := Z0.mk (Kd.V_lower (Kd.V_mono (ok' := fun k_ => some k_ ≠ (.slice Ao50 t544.length co50 : Value).ownBlock ∧ some k_ ≠ (.slice Ao52 t547.length co52 : Value).ownBlock) ho0 (fun k_ hk_ => ⟨(Kd.fresh' (Kd.R_lt (rq HO546)) k_ hk_), (Kd.fresh' (Kd.R_lt (rq HO549)) k_ hk_)⟩)) (below_size bqs)); replace HO546 := fR HO546 hb; replace HO549 := fR HO549 hb; replace HO559 := fV HO559 hb; replace HO562 := fV HO562 hb; replace HB := fB HB hb; clear hb ho0) | ((with_reducible refine gc_ 78 rfl ?_); refine gL 50 Tryz.func78 (rENegative.calls _ _ _ A46.out) ?_; rintro _ w' ⟨rfl, ⟨nd, rfl⟩⟩; refine ⟨_, rfl, ?_⟩; obtain ⟨Ao57, co57, eo57⟩ := Kd.V_slice HO571.out; subst eo57) | ((with_reducible refine gc_ 75 rfl ?_); refine gL 51 Tryz.func75 (rEmade.calls kj2 _ _ t569 t572 t573 _ ?side1 ?side2 A47.out) ?_; (case side1 => exact cq (Kd.V_reads' HO571.out).2.2); (case side2 => exact (Kd.V_reads' HO571.out).2.1); rintro _ w58 ⟨rfl, hb⟩; refine ⟨_, rfl, ?_⟩; replace HO546 := fR HO546 hb; replace HO549 := fR HO549 hb; replace HO559 := fV HO559 hb; replace HO562 := fV HO562 hb; replace HO571 := fV HO571 hb; replace HB := fB HB hb; clear hb))
   go_ret
   exact finE
theorem rEDiff.calls (k : Nat) (a0 : ByteArray) (a1 : ByteArray) (r : ByteArray) (w : World) (h : rEDiff.f k a0 a1 = some r) :
  Calls Tryz.prog 85 #[.string a0, .string a1] w fun e w' => e = .returned (.string r) ∧ Below w.heap.size w w' := by
 have HB := Z0.mk (Below.refl w.heap.size w)
 have H := h
 clear h
 unfold rEDiff.f at H
 obtain ⟨t574, A3, H⟩ := bnd H
 obtain ⟨t575, A4, H⟩ := bnd H
 obtain rfl := Option.some.inj H
 go_enter Tryz.func85, Tryz.ntmps85
 go_wp2_with (first | ((with_reducible refine gc_ 81 rfl ?_); refine goD (some 7) Tryz.func81 #[.string a1] (rENegated.calls a1 t574 _ A3.out) ?_; intro nd) | ((with_reducible refine gc_ 84 rfl ?_); refine goB (some 8) Tryz.func84 #[.string a0, .string t574] bq (rESum.calls k a0 t574 t575 _ A4.out) ?_; clear HB; intro w5 HB))
 go_ret
 exact finE
theorem rEfloor.calls (a0 : Int) (a1 : Int) (r : Int) (w : World) (h : rEfloor.f a0 a1 = some r) :
  Calls Tryz.prog 120 #[.int .i64 a0, .int .i64 a1] w fun e w' => e = .returned (.int .i64 r) ∧ Drawn0 w w' := by
 have H := h
 clear h
 unfold rEfloor.f at H
 obtain ⟨c3, c3b0, c3b1, H⟩ := fQ H
 rcases je H with ⟨-, c4b0, c4b1, H⟩ | ⟨c4, c4b0, c4b1, H⟩
 ·obtain rfl := Option.some.inj H
  go_enter Tryz.func120, Tryz.ntmps120
  go_wp2
  go_ret
  exact finD
 rcases jn H with ⟨c5, H⟩ | ⟨c5, H⟩
 ·have c5b0 : ((decide (a0 < 0)) != (decide (a1 < 0))) = true := c5
  (try (have c5b1 : decide ((decide (a0 < 0)) = (decide (a1 < 0))) = false := by simpa using c5))
  (try (have c5b2 : ((decide (a0 < 0)) == (decide (a1 < 0))) = false := by simpa using c5))
  (try (have c5b3 : ¬ ((decide (a0 < 0)) = (decide (a1 < 0))) := by simpa using c5))
  clear c5
  obtain rfl := Option.some.inj H
  go_enter Tryz.func120, Tryz.ntmps120
  go_wp2
  go_ret
  exact finD
 have c5b0 : ((decide (a0 < 0)) != (decide (a1 < 0))) = false := by simpa using c5
 (try (have c5b1 : decide ((decide (a0 < 0)) = (decide (a1 < 0))) = true := by simpa using c5))
 (try (have c5b2 : ((decide (a0 < 0)) == (decide (a1 < 0))) = true := by simpa using c5))
 clear c5
 obtain rfl := Option.some.inj H
 go_enter Tryz.func120, Tryz.ntmps120
 go_wp2
 go_ret
 exact finD
end Go.Proofs.YtinpcbjjnlpblaaGreatDoor.PA
