import Derived.Test.YtihbebbabjklkaaGreatDoorAG1
import Derived.Test.YtihbebbabjklkaaGreatDoorAD
import Derived.Test.YtihbebbabjklkaaGreatDoorAG4
import Derived.Test.YtihbebbabjklkaaGreatDoorAG3
import Derived.Deep.RegionHeld3
import Derived.Test.YtihbebbabjklkaaGreatDoorAP2
import Derived.Test.YtihbebbabjklkaaGreatDoorRows
import Derived.ProofKit
import Derived.OpenShut
import Derived.Lay
import Derived.LaidOnce
import Derived.SevenTiedAt
set_option maxHeartbeats 8000000
set_option maxRecDepth 100000
set_option linter.unusedVariables false
namespace Go.Proofs.YtihbebbabjklkaaGreatDoor.PA
set_option linter.unusedVariables false
open Go.RowKit Go.Proofs.WWords Go.Proofs.WLast Go.Proofs.WMore
attribute [local go_sem] max2_int min2_int max_two min_two max_three min_three max_four min_four
set_option linter.unusedSimpArgs false
theorem rAwhole.calls (k : Nat) (a0 : ByteArray) (a1 : ByteArray) (r1 : ByteArray) (r2 : Int) (w : World) (hL : LaidW w) (h : rAwhole.f k a0 a1 = some (r1, r2)) :
  Calls Tryz.prog 119 #[.string a0, .string a1] w fun e w' => e = .returned (.tuple #[.string r1, .int .i64 r2]) ∧ Below w.heap.size w w' := by
 have HB := Z0.mk (Below.refl w.heap.size w)
 have H := h
 clear h
 unfold rAwhole.f at H
 obtain ⟨⟨t352, t353⟩, A3, H⟩ := bnd H
 try dsimp only at H
 rcases je H with ⟨-, c4b0, c4b1, H⟩ | ⟨c4, c4b0, c4b1, H⟩
 ·obtain ⟨⟨t354, t355⟩, A5, H⟩ := bnd H
  try dsimp only at H
  have HC6 := Z0.mk H
  clear H
  go_enter Tryz.func119, Tryz.ntmps119
  go_upto_if 27 with (first | ((with_reducible refine gc_ 48 rfl ?_); refine goB (some 15) Tryz.func48 #[.string a0, .string a1] bq (bIGcd.calls k a0 a1 t352 t353 _ (hL.below bq) A3.out) ?_; clear HB; intro w7 HB) | ((with_reducible refine gc_ 55 rfl ?_); refine goB (some 23) Tryz.func55 #[.string a1] bq (bISign.calls k a1 t354 t355 _ A5.out) ?_; clear HB; intro w8 HB))
  (try simp only [Act.put, List.setIfInBounds_toArray, List.set_cons_zero, List.set_cons_succ])
  go_cut [6] (fun v6 wc => ∃ (kq : Nat) (x6_5 : ByteArray), v6 = .string x6_5 ∧ Z0 (rAwhole.j0 kq a0 a1 x6_5 = some (r1, r2)) ∧ Z0 (kq ≤ k) ∧ Z0 (Below w.heap.size w wc))
  case first =>
   have H := HC6.out
   clear HC6
   rcases jd H with ⟨-, c9b0, H⟩ | ⟨-, c9b0, H⟩
   ·(first | rw [c9b0] | (simp only [i64_w, i32_w]; rw [c9b0]) | skip)
    obtain ⟨⟨t356, t357⟩, A10, H⟩ := bnd H
    try dsimp only at H
    have H' := Z0.mk H
    clear H
    go_wp2_with (first | ((with_reducible refine gc_ 156 rfl ?_); refine goB (some 30) Tryz.func156 #[.string t352] bq (bINeg.calls k t352 t356 t357 _ (hL.below bq) A10.out) ?_; clear HB; intro w11 HB))
    go_meet
    case rel => exact ⟨_, (t356), fs, H', ⟨by first | omega | exact Nat.le_refl _⟩, ⟨bqs⟩⟩
   (first | rw [c9b0] | (simp only [i64_w, i32_w]; rw [c9b0]) | skip)
   have H' := Z0.mk H
   clear H
   go_wp2
   go_meet
   case rel => exact ⟨_, (t352), fs, H', ⟨by first | omega | exact Nat.le_refl _⟩, ⟨bqs⟩⟩
  case rest =>
   clear HC6
   try clear p2
   try clear c3
   try clear c4
   try clear c4b0
   try clear c4b1
   try clear c8
   try clear c9
   try clear c9b0
   obtain ⟨kq, x6_5, rfl, HA, HJ5, HB⟩ := hcut
   cases kq with
   | zero => exact absurd HA.out (by simp [rAwhole.j0])
   | succ kj5 =>
    have H := HA.out
    clear HA
    simp only [rAwhole.j0] at H
    obtain ⟨⟨t358, t359⟩, A12, H⟩ := bnd H
    try dsimp only at H
    rcases je H with ⟨-, c13b0, c13b1, H⟩ | ⟨c13, c13b0, c13b1, H⟩
    ·obtain ⟨⟨t360, t361⟩, A14, H⟩ := bnd H
     try dsimp only at H
     rcases je H with ⟨-, c15b0, c15b1, H⟩ | ⟨c15, c15b0, c15b1, H⟩
     ·rcases je H with ⟨-, c16b0, c16b1, H⟩ | ⟨c16, c16b0, c16b1, H⟩
      ·simp only [Option.some.injEq, Prod.mk.injEq] at H
       obtain ⟨rfl, rfl⟩ := H
       go_wp2_with (first | ((with_reducible refine gc_ 53 rfl ?_); refine goB (some 36) Tryz.func53 #[.string a0, .string x6_5] bq (bIQuo.calls kj5 a0 x6_5 t358 t359 _ (hL.below bq) A12.out) ?_; clear HB; intro w17 HB) | ((with_reducible refine gc_ 53 rfl ?_); refine goB (some 45) Tryz.func53 #[.string a1, .string x6_5] bq (bIQuo.calls kj5 a1 x6_5 t360 t361 _ (hL.below bq) A14.out) ?_; clear HB; intro w18 HB))
       go_ret2
       exact finE
      obtain ⟨c19, c19b0, c19b1, H⟩ := gt H
      try have c19b2 : (9223372036854775807 < t358.size + 1) = False := eq_false (Nat.not_lt.2 c19)
      obtain ⟨c20, c20b0, c20b1, H⟩ := gt H
      try have c20b2 : (9223372036854775807 < (t358 ++ (⟨#[47]⟩ : ByteArray)).size + t360.size) = False := eq_false (Nat.not_lt.2 c20)
      simp only [Option.some.injEq, Prod.mk.injEq] at H
      obtain ⟨rfl, rfl⟩ := H
      go_wp2_with (first | ((with_reducible refine gc_ 53 rfl ?_); refine goB (some 36) Tryz.func53 #[.string a0, .string x6_5] bq (bIQuo.calls kj5 a0 x6_5 t358 t359 _ (hL.below bq) A12.out) ?_; clear HB; intro w21 HB) | ((with_reducible refine gc_ 53 rfl ?_); refine goB (some 45) Tryz.func53 #[.string a1, .string x6_5] bq (bIQuo.calls kj5 a1 x6_5 t360 t361 _ (hL.below bq) A14.out) ?_; clear HB; intro w22 HB))
      go_ret2
      exact finE
     simp only [Option.some.injEq, Prod.mk.injEq] at H
     obtain ⟨rfl, rfl⟩ := H
     go_wp2_with (first | ((with_reducible refine gc_ 53 rfl ?_); refine goB (some 36) Tryz.func53 #[.string a0, .string x6_5] bq (bIQuo.calls kj5 a0 x6_5 t358 t359 _ (hL.below bq) A12.out) ?_; clear HB; intro w23 HB) | ((with_reducible refine gc_ 53 rfl ?_); refine goB (some 45) Tryz.func53 #[.string a1, .string x6_5] bq (bIQuo.calls kj5 a1 x6_5 t360 t361 _ (hL.below bq) A14.out) ?_; clear HB; intro w24 HB))
     go_ret2
     exact finE
    simp only [Option.some.injEq, Prod.mk.injEq] at H
    obtain ⟨rfl, rfl⟩ := H
    go_wp2_with (first | ((with_reducible refine gc_ 53 rfl ?_); refine goB (some 36) Tryz.func53 #[.string a0, .string x6_5] bq (bIQuo.calls kj5 a0 x6_5 t358 t359 _ (hL.below bq) A12.out) ?_; clear HB; intro w25 HB))
    go_ret2
    exact finE
 simp only [Option.some.injEq, Prod.mk.injEq] at H
 obtain ⟨rfl, rfl⟩ := H
 go_enter Tryz.func119, Tryz.ntmps119
 go_wp2_with (first | ((with_reducible refine gc_ 48 rfl ?_); refine goB (some 15) Tryz.func48 #[.string a0, .string a1] bq (bIGcd.calls k a0 a1 t352 t353 _ (hL.below bq) A3.out) ?_; clear HB; intro w26 HB))
 go_ret2
 exact finE
end Go.Proofs.YtihbebbabjklkaaGreatDoor.PA
namespace Go.Proofs.YtihbebbabjklkaaGreatDoor
set_option linter.unusedVariables false
set_option linter.unusedSimpArgs false
open Go.RowKit Go.Proofs.WWords Go.Proofs.WLast Go.Proofs.WMore PA
theorem rAcalculate.calls (k : Nat) (a0 : Int) (a1 : ByteArray) (a2 : ByteArray) (r1 : ByteArray) (r2 : Int) (w : World) (hL : LaidW w) (h : rAcalculate.f k a0 a1 a2 = some (r1, r2)) :
    Calls Tryz.prog 81 #[.int .u8 a0, .string a1, .string a2] w fun e w' => e = .returned (.tuple #[.string r1, .int .i64 r2]) ∧ Below w.heap.size w w' := by
 have hu95 := Tryz.underlying145
 unfold rAcalculate.f at h
 split at h
 rotate_left
 split at h
 rotate_left
 split at h
 rotate_left
 split at h
 rotate_left
 ·cases h
 all_goals (
  rename_i e; subst e
  unfold calcF at h
  obtain ⟨⟨p, q, r, s, e1⟩, hp, h⟩ := Option.bind_eq_some_iff.mp h
  simp only at h
  by_cases c1 : e1 = 0
  rotate_left
  ·rw [if_neg c1] at h
   simp only [Option.some.injEq, Prod.mk.injEq] at h
   obtain ⟨rfl, rfl⟩ := h
   have c1b : (e1 != 0) = true := bne_iff_ne.mpr c1
   have c1c : (e1 == 0) = false := beq_eq_false_iff_ne.mpr c1
   go_enter Tryz.func81, Tryz.ntmps81
   go_wp2_with (first | ((with_reducible refine gc_ 121 rfl ?_); refine goB (w0 := w) (some 15) Tryz.func121 #[.string a1, .string a2] (Below.refl _ _) (rAnewPair.calls k a1 a2 p q r s e1 _ hL hp) ?_; intro w1 HB) | ((with_reducible refine gd_ 8 rfl ?_); refine bxE 8 #[.string (⟨#[]⟩ : ByteArray), .string (⟨#[]⟩ : ByteArray), .string (⟨#[]⟩ : ByteArray), .string (⟨#[]⟩ : ByteArray)] 145 ?_; intro gb hg wb hbox hbb; have hgl : w.heap.size ≤ gb := (by rw [hg]; exact HB.out.size); have HB2 := Z0.mk (below_step HB.out hbb); clear HB hg hbb; have HB := HB2; clear HB2; have hc0 : wb.cell? ⟨gb, 0, none⟩ = some (.string (⟨#[]⟩ : ByteArray)) := (blk_cell hbox 0).trans rfl; have hf0 := blk_frozen hbox 0; have hc1 : wb.cell? ⟨gb, 1, none⟩ = some (.string (⟨#[]⟩ : ByteArray)) := (blk_cell hbox 1).trans rfl; have hf1 := blk_frozen hbox 1; have hc2 : wb.cell? ⟨gb, 2, none⟩ = some (.string (⟨#[]⟩ : ByteArray)) := (blk_cell hbox 2).trans rfl; have hf2 := blk_frozen hbox 2; have hc3 : wb.cell? ⟨gb, 3, none⟩ = some (.string (⟨#[]⟩ : ByteArray)) := (blk_cell hbox 3).trans rfl; have hf3 := blk_frozen hbox 3))
   go_ret2
   exact ⟨rfl, below_set (below_set (below_set (below_set HB.out hgl) hgl) hgl) hgl⟩
  rw [if_pos c1] at h
  obtain ⟨⟨y1, y2, e2⟩, ho, h⟩ := Option.bind_eq_some_iff.mp h
  simp only at h
  have c1b : (e1 != 0) = false := bne_eq_false_iff_eq.mpr c1
  have c1c : (e1 == 0) = true := beq_iff_eq.mpr c1
  clear c1
  by_cases c2 : e2 = 0
  all_goals (
   first
    | (rw [if_pos c2] at h; have hw := h; have c2b : (e2 != 0) = false := bne_eq_false_iff_eq.mpr c2; have c2c : (e2 == 0) = true := beq_iff_eq.mpr c2)
    | (rw [if_neg c2] at h; simp only [Option.some.injEq, Prod.mk.injEq] at h; obtain ⟨rfl, rfl⟩ := h; have c2b : (e2 != 0) = true := bne_iff_ne.mpr c2; have c2c : (e2 == 0) = false := beq_eq_false_iff_ne.mpr c2)
   clear c2
   go_enter Tryz.func81, Tryz.ntmps81
   go_wp2_with (first | ((with_reducible refine gc_ 121 rfl ?_); refine goB (w0 := w) (some 15) Tryz.func121 #[.string a1, .string a2] (Below.refl _ _) (rAnewPair.calls k a1 a2 p q r s e1 _ hL hp) ?_; intro w1 HB) | ((with_reducible refine gd_ 8 rfl ?_); refine bxE 8 #[.string (⟨#[]⟩ : ByteArray), .string (⟨#[]⟩ : ByteArray), .string (⟨#[]⟩ : ByteArray), .string (⟨#[]⟩ : ByteArray)] 145 ?_; intro gb hg wb hbox hbb; have hgl : w.heap.size ≤ gb := (by rw [hg]; exact HB.out.size); have HB2 := Z0.mk (below_step HB.out hbb); clear HB hg hbb; have HB := HB2; clear HB2; have hc0 : wb.cell? ⟨gb, 0, none⟩ = some (.string (⟨#[]⟩ : ByteArray)) := (blk_cell hbox 0).trans rfl; have hf0 := blk_frozen hbox 0; have hc1 : wb.cell? ⟨gb, 1, none⟩ = some (.string (⟨#[]⟩ : ByteArray)) := (blk_cell hbox 1).trans rfl; have hf1 := blk_frozen hbox 1; have hc2 : wb.cell? ⟨gb, 2, none⟩ = some (.string (⟨#[]⟩ : ByteArray)) := (blk_cell hbox 2).trans rfl; have hf2 := blk_frozen hbox 2; have hc3 : wb.cell? ⟨gb, 3, none⟩ = some (.string (⟨#[]⟩ : ByteArray)) := (blk_cell hbox 3).trans rfl; have hf3 := blk_frozen hbox 3))
   obtain ⟨W, hW⟩ : ∃ W, ((((wb.setCell ⟨gb, 0, none⟩ (.string p)).setCell ⟨gb, 1, none⟩ (.string q)).setCell ⟨gb, 2, none⟩ (.string r)).setCell ⟨gb, 3, none⟩ (.string s)) = W := ⟨_, rfl⟩
   have hx : W.heap[gb]? = some (.cells #[.string p, .string q, .string r, .string s] 145 (0, 0)) := by
    rw [← hW]
    exact blk_put (cs := #[.string p, .string q, .string r, .string (⟨#[]⟩ : ByteArray)]) (blk_put (cs := #[.string p, .string q, .string (⟨#[]⟩ : ByteArray), .string (⟨#[]⟩ : ByteArray)]) (blk_put (cs := #[.string p, .string (⟨#[]⟩ : ByteArray), .string (⟨#[]⟩ : ByteArray), .string (⟨#[]⟩ : ByteArray)]) (blk_put hbox 0 _ rfl) 1 _ rfl) 2 _ rfl) 3 _ rfl
   have hBW : Below w.heap.size w W := by rw [← hW]; exact below_set (below_set (below_set (below_set HB.out hgl) hgl) hgl) hgl
   rw [hW]
   clear hW HB hbox
   have hxd : W.drew.heap[gb]? = some (.cells #[.string p, .string q, .string r, .string s] 145 (0, 0)) := hx
   have hBd : Below w.heap.size w W.drew := hBW.drew
   go_region_held3 (fun w' => w'.cell? ⟨gb, 0, none⟩ = some (.string p) ∧ w'.cell? ⟨gb, 1, none⟩ = some (.string q) ∧ w'.cell? ⟨gb, 2, none⟩ = some (.string r) ∧ w'.cell? ⟨gb, 3, none⟩ = some (.string s))
    (first | exact ⟨blk_cell hxd 0, blk_cell hxd 1, blk_cell hxd 2, blk_cell hxd 3⟩ | exact ⟨blk_cell hx2 0, blk_cell hx2 1, blk_cell hx2 2, blk_cell hx2 3⟩ | exact ⟨blk_cell hx3 0, blk_cell hx3 1, blk_cell hx3 2, blk_cell hx3 3⟩)
    (first
      | (go_at_call 122; refine (rops_calls _).mono ?_; rintro e w2 ⟨m, g1, g2, rfl, hm, hg1, hg2, hb2⟩
         have hx2 := (hb2.block gb (Array.getElem?_eq_some_iff.1 hxd).1).trans hxd
         have hB2 := below_step hBd hb2
         have hl43 := run_look m (ropsE g1 g2) 4 43 0 _ w2 hm rfl
         have hl45 := run_look m (ropsE g1 g2) 4 45 1 _ w2 hm rfl
         have hl42 := run_look m (ropsE g1 g2) 4 42 2 _ w2 hm rfl
         have hl47 := run_look m (ropsE g1 g2) 4 47 3 _ w2 hm rfl)
      | (go_at_call 200; refine (rAaddop.calls k p q r s y1 y2 e2 g1 w2 hg1 (hL.below hB2) ho).mono ?_; rintro e w3 ⟨rfl, hb3⟩
         have hx3 := (hb3.block gb (Array.getElem?_eq_some_iff.1 hx2).1).trans hx2
         have HB := Z0.mk (below_step hB2 hb3))
      | (go_at_call 200; refine (rAsubop.calls k p q r s y1 y2 e2 g2 w2 hg2 (hL.below hB2) ho).mono ?_; rintro e w3 ⟨rfl, hb3⟩
         have hx3 := (hb3.block gb (Array.getElem?_eq_some_iff.1 hx2).1).trans hx2
         have HB := Z0.mk (below_step hB2 hb3))
      | (go_at_call 160; refine (rAoperations_1.calls k p q r s y1 y2 e2 w2 (hL.below hB2) ho).mono ?_; rintro e w3 ⟨rfl, hb3⟩
         have hx3 := (hb3.block gb (Array.getElem?_eq_some_iff.1 hx2).1).trans hx2
         have HB := Z0.mk (below_step hB2 hb3))
      | (go_at_call 162; refine (rAoperations_2.calls k p q r s y1 y2 e2 w2 (hL.below hB2) ho).mono ?_; rintro e w3 ⟨rfl, hb3⟩
         have hx3 := (hb3.block gb (Array.getElem?_eq_some_iff.1 hx2).1).trans hx2
         have HB := Z0.mk (below_step hB2 hb3)))
   all_goals go_wp2_with (first | ((with_reducible refine gc_ 119 rfl ?_); refine goB (w0 := w) (some 35) Tryz.func119 #[.string y1, .string y2] HB.out (rAwhole.calls k y1 y2 r1 r2 _ (hL.below HB.out) hw) ?_; clear HB; intro w5 HB))
   go_ret2
   exact ⟨rfl, HB.out⟩))
end Go.Proofs.YtihbebbabjklkaaGreatDoor
namespace Go.Proofs.YtihbebbabjklkaaGreatDoor.PA
set_option linter.unusedVariables false
open Go.RowKit Go.Proofs.WWords Go.Proofs.WLast Go.Proofs.WMore
attribute [local go_sem] max2_int min2_int max_two min_two max_three min_three max_four min_four
set_option linter.unusedSimpArgs false
theorem rAAdd.calls (k : Nat) (a0 : ByteArray) (a1 : ByteArray) (r1 : ByteArray) (r2 : Int) (w : World) (hL : LaidW w) (h : rAAdd.f k a0 a1 = some (r1, r2)) :
  Calls Tryz.prog 69 #[.string a0, .string a1] w fun e w' => e = .returned (.tuple #[.string r1, .int .i64 r2]) ∧ Below w.heap.size w w' := by
 have HB := Z0.mk (Below.refl w.heap.size w)
 have H := h
 clear h
 unfold rAAdd.f at H
 obtain ⟨⟨t411, t412⟩, A3, H⟩ := bnd H
 try dsimp only at H
 simp only [Option.some.injEq, Prod.mk.injEq] at H
 obtain ⟨rfl, rfl⟩ := H
 go_enter Tryz.func69, Tryz.ntmps69
 go_wp2_with (first | ((with_reducible refine gc_ 81 rfl ?_); refine goB (some 8) Tryz.func81 #[.int .u8 43, .string a0, .string a1] bq (rAcalculate.calls k 43 a0 a1 t411 t412 _ (hL.below bq) A3.out) ?_; clear HB; intro w4 HB))
 go_ret2
 exact finE
set_option linter.unusedVariables false
set_option linter.unusedSimpArgs false
instance : Ctr 110 (type_of% @strings_TrimPrefix.calls) := ⟨@strings_TrimPrefix.calls, _, Tryz.func110, by kernel_rfl, rfl⟩
instance : Ctr 135 (type_of% @strconv_Itoa.calls) := ⟨@strconv_Itoa.calls, _, Tryz.func135, by kernel_rfl, rfl⟩
theorem bIOf.calls (n : Int) (r : ByteArray) (w : World) (hL : LaidW w) (h : bIOf.f n = some r) :
  Calls Tryz.prog 99 #[.int .i64 n] w fun e w' => e = .returned (.string r) ∧ Below w.heap.size w w' := by
 have HB := Z0.mk (Below.refl w.heap.size w)
 unfold bIOf.f at h
 obtain ⟨s, A1, h⟩ := bnd h
 cases h
 go_enter Tryz.func99, Tryz.ntmps99
 go_wp2_with (refine cG rfl ?_; intro w' hb; replace HB := fB HB hb; clear hb)
 go_ret
 exact ⟨rfl, HB.out⟩
instance : Ctr 99 (type_of% @bIOf.calls) := ⟨@bIOf.calls, _, Tryz.func99, by kernel_rfl, rfl⟩
theorem bIAbs.calls (a0 r1 : ByteArray) (r2 : Int) (w : World) (h : bIAbs.f a0 = some (r1, r2)) :
  Calls Tryz.prog 52 #[.string a0] w fun e w' => e = .returned (.tuple #[.string r1, .int .i64 r2]) ∧ Below w.heap.size w w' := by
 have HB := Z0.mk (Below.refl w.heap.size w)
 unfold bIAbs.f at h
 obtain ⟨e, A1, h⟩ := bnd h
 go_enter Tryz.func52, Tryz.ntmps52
 rcases je h with ⟨-, e0, e1, h⟩ | ⟨-, e0, e1, h⟩
 · obtain ⟨s, A2, h⟩ := bnd h
   cases h
   go_wp2_with (refine cG rfl ?_; intro w' hb; replace HB := fB HB hb; clear hb)
   go_ret2
   exact ⟨rfl, HB.out⟩
 · cases h
   go_wp2_with (refine cG rfl ?_; intro w' hb; replace HB := fB HB hb; clear hb)
   go_ret2
   exact ⟨rfl, HB.out⟩
instance : Ctr 52 (type_of% @bIAbs.calls) := ⟨@bIAbs.calls, _, Tryz.func52, by kernel_rfl, rfl⟩
theorem lcm_ok (m n : Int) (w : World) (hL : LaidW w) (hm : Sv.nd m ≤ 4096) (hn : Sv.nd n ≤ 4096) (s : ByteArray) (x : Int) (hs : (s, x) = lim ((Nat.lcm m.natAbs n.natAbs : Nat) : Int)) :
  Calls Tryz.prog 49 #[.string (Sv.txt m), .string (Sv.txt n)] w fun e w' => e = .returned (.tuple #[.string s, .int .i64 x]) ∧ Below w.heap.size w w' := by
 have HB := Z0.mk (Below.refl w.heap.size w)
 obtain ⟨kp, Ap⟩ := (bi_pair m n hm hn).as
 have l1 := len_of_nd hm
 have l2 := len_of_nd hn
 have z1 := mag_len0 m.natAbs
 have z2 := mag_len0 n.natAbs
 have hu := Tryz.underlying122
 go_enter Tryz.func49, Tryz.ntmps49
 go_upto_region 2 with (refine cX rfl ?_; rintro _ w1 ⟨X0, c0, X1, c1, rfl, C0, hc0, C1, hc1, hb⟩; refine ⟨_, rfl, ?_⟩; replace HB := fB HB hb; clear hb)
 refine al2 ?_
 intro W hb B0 B1
 replace HB := fB HB hb
 replace C0 := Kd.C_below C0 hb
 replace C1 := Kd.C_below C1 hb
 clear hb
 obtain ⟨p0, p1, -, -⟩ := b2 B0
 obtain ⟨q0, q1, -, -⟩ := b2 B1
 have hz : ∀ N : Nat, (s, x) = lim ((N : Nat) : Int) → N = 0 → s = ⟨#[48]⟩ ∧ x = 0 := fun N h e => by
  subst e
  unfold lim at h
  rw [if_pos (by rw [show ((0 : Nat) : Int) = 0 from rfl]; exact Nat.le_trans (nd_lt10 (by decide)) (by decide))] at h
  injection h with h1 h2
  exact ⟨h1.trans r0, h2⟩
 by_cases h0 : m.natAbs = 0
 · obtain ⟨rfl, rfl⟩ := hz _ hs (by rw [h0, Nat.lcm_zero_left])
   have h3 : mag m.natAbs = [] := by rw [h0, mag_zero]
   clear h0 hs hz z1 l1 Ap
   rw [h3] at p1
   go_wp2
   go_ret2
   exact ⟨rfl, HB.out⟩
 have e0 : (((mag m.natAbs).length : Int) == 0) = false := by rw [beq_eq_false_iff_ne]; omega
 have e1 : (mag m.natAbs = []) = False := eq_false (mag_ne (by omega))
 by_cases h1 : n.natAbs = 0
 · obtain ⟨rfl, rfl⟩ := hz _ hs (by rw [h1, Nat.lcm_zero_right])
   have h3 : mag n.natAbs = [] := by rw [h1, mag_zero]
   clear h1 hs hz z2 l2 Ap
   rw [h3] at q1
   go_wp2
   go_ret2
   exact ⟨rfl, HB.out⟩
 have e2 : (((mag n.natAbs).length : Int) == 0) = false := by rw [beq_eq_false_iff_ne]; omega
 have e3 : (mag n.natAbs = []) = False := eq_false (mag_ne (by omega))
 have g0 : 0 < Nat.gcd m.natAbs n.natAbs := Nat.gcd_pos_of_pos_left _ (by omega)
 have g1 := Nat.le_trans (mag_mono (Nat.gcd_le_left n.natAbs (show 0 < m.natAbs by omega))) l1
 have g2 := Nat.le_trans (mag_mono (Nat.div_le_self m.natAbs (Nat.gcd m.natAbs n.natAbs))) l1
 obtain ⟨k1, A1⟩ := (bi_common m.natAbs n.natAbs (by omega) (by omega)).as
 obtain ⟨k2, A2⟩ := (bi_divide m.natAbs _ g0 (by omega) (by omega)).as
 obtain ⟨k3, A3⟩ := (bi_times (m.natAbs / Nat.gcd m.natAbs n.natAbs) n.natAbs (by omega)).as
 have hp := mag_mul_len2 (m.natAbs / Nat.gcd m.natAbs n.natAbs) n.natAbs
 have A4 := Z0.mk (bi_written false (m.natAbs / Nat.gcd m.natAbs n.natAbs * n.natAbs) (by omega))
 rw [if_neg (by decide), show m.natAbs / Nat.gcd m.natAbs n.natAbs * n.natAbs = Nat.lcm m.natAbs n.natAbs by rw [Nat.lcm, Nat.div_mul_right_comm (Nat.gcd_dvd_left _ _)], ← hs] at A4
 rw [show m.natAbs / Nat.gcd m.natAbs n.natAbs * n.natAbs = Nat.lcm m.natAbs n.natAbs by rw [Nat.lcm, Nat.div_mul_right_comm (Nat.gcd_dvd_left _ _)]] at A3
 go_wp2
 have hd := (Below.refl W.heap.size W).drew
 replace B0 := Z0.mk (blk_drew B0.out)
 replace B1 := Z0.mk (blk_drew B1.out)
 replace HB := fB HB hd
 replace C0 := Kd.C_drew C0
 replace C1 := Kd.C_drew C1
 go_region_held3 (fun w' => w'.cell? ⟨w1.heap.size, 1, none⟩ = some (.slice X0 (mag m.natAbs).length c0) ∧ w'.cell? ⟨w1.heap.size + 1, 1, none⟩ = some (.slice X1 (mag n.natAbs).length c1))
  (exact ⟨(b2 B0).2.1, (b2 B1).2.1⟩)
  (first
  | (go_at_call 105; refine (comC k1 _ _ _ _ _ _ _ _ C0 hc0 C1 hc1 A1.out).mono ?_; rintro _ w2 ⟨X2, c2, rfl, C2, hc2, hb⟩; replace B0 := fk B0 hb; replace B1 := fk B1 hb; replace HB := fB HB hb; replace C0 := Kd.C_below C0 hb; replace C1 := Kd.C_below C1 hb)
  | (go_at_call 104; refine (divC k2 _ _ _ _ _ _ _ _ _ C0 hc0 C2 hc2 A2.out).mono ?_; rintro _ w3 ⟨X3, c3, X4, c4, rfl, C3, hc3, -, -, hb⟩; replace B0 := fk B0 hb; replace B1 := fk B1 hb; replace HB := fB HB hb; replace C1 := Kd.C_below C1 hb))
 clear p0 p1 q0 q1
 obtain ⟨q0, q1, -, -⟩ := b2 B1
 all_goals go_wp2_with (first
  | ((with_reducible refine gc_ 107 rfl ?_); refine cX rfl ?_; rintro _ w4 ⟨v4, rfl, ho, hb⟩; refine ⟨_, rfl, ?_⟩; obtain ⟨X5, c5, rfl, hc5, C5⟩ := Kd.R_reads ho; replace HB := fB HB hb; clear hb)
  | (refine cG rfl ?_; intro w' hb; replace HB := fB HB hb; clear hb))
 go_ret2
 exact ⟨rfl, HB.out⟩
theorem put_put (a : Act) (d : Tmp) (x v : Value) : (a.put (some d) x).put (some d) v = a.put (some d) v := by
 unfold Act.put
 simp only [Array.setIfInBounds_setIfInBounds]
theorem put_ne {a : Act} {d e : Tmp} (h : d ≠ e) (x v : Value) : (a.put (some d) x).put (some e) v = (a.put (some e) v).put (some d) x := by
 unfold Act.put
 simp only
 rw [Array.setIfInBounds_comm _ _ h]
theorem as_put {a : Act} {d e : Tmp} {x y : Value} (h1 : a.tmps[d]? = some x) (h2 : a.tmps[e]? = some y) : (a.put (some d) x).put (some e) y = a := by
 have k : ∀ (l : Array Value) (i : Nat) (v : Value), l[i]? = some v → l.setIfInBounds i v = l := fun l i v h => by
  apply Array.ext_getElem?
  intro j
  rw [Array.getElem?_setIfInBounds]
  split
  · subst_vars
    split
    · exact h.symm
    · rename_i h'; rw [Array.getElem?_eq_none (by omega)]
  · rfl
 obtain ⟨t, ds⟩ := a
 unfold Act.put
 simp only at h1 h2 ⊢
 rw [k _ _ _ h1, k _ _ _ h2]
section
variable {P : Program} {ops : Array Oper} {Q : Exit → Act → World → Prop} {md : Region.Mode} {S : World → Prop} {ds : List Nat}
theorem wpOp_of {i : Nat} {oi : Oper} {a : Act} {w : World} {K : Act → World → Prop} (hi : ops[i]? = some oi) (h : if Region.wanted oi (yielded ops a.tmps) = true then Oper.wp P oi a w K Q else K (a.put oi.dst undef) w) : wpOp P ops Q i K a w := by
 unfold wpOp
 rw [hi]
 show if Region.wanted oi (yielded ops a.tmps) = true then _ else _
 split
 · rename_i hw; rw [if_pos hw] at h; exact .inl h
 · rename_i hw; rw [if_neg hw] at h; exact h
def pd (b : Bool) : Nat := if b = true then 0 else 1
def readyP (md : Region.Mode) (ops : Array Oper) (i p q : Nat) (b c : Bool) (l : Array Bool) : Bool :=
 (Region.ready md ops l).contains i && (Region.ready md ops l).all fun j => j == i || (j == p && !b) || (j == q && !c)
def ready0 (md : Region.Mode) (ops : Array Oper) (p q : Nat) (b c : Bool) (l : Array Bool) : Bool :=
 (Region.ready md ops l).any (fun _ => true) && (Region.ready md ops l).all fun j => (j == p && !b) || (j == q && !c)
structure AF2 (n0 : Nat) (ob : Obj) (b c : Bool) (x y : Value) (w : World) : Prop where
  p : b = true → ∃ g, x = .pointer (some ⟨g, 0, none⟩) ∧ n0 ≤ g ∧ w.heap[g]? = some ob
  q : c = true → ∃ g, y = .pointer (some ⟨g, 0, none⟩) ∧ n0 ≤ g ∧ w.heap[g]? = some ob
  ne : b = true → c = true → x ≠ y
  n : n0 ≤ w.heap.size
theorem AF2.on {n0 : Nat} {ob : Obj} {b c : Bool} {x y : Value} {w w' : World} (h : AF2 n0 ob b c x y w) (hb : Below w.heap.size w w') : AF2 n0 ob b c x y w' :=
 ⟨fun e => (by obtain ⟨g, e1, e2, e3⟩ := h.p e; exact ⟨g, e1, e2, (hb.block g (Array.getElem?_eq_some_iff.1 e3).1).trans e3⟩),
  fun e => (by obtain ⟨g, e1, e2, e3⟩ := h.q e; exact ⟨g, e1, e2, (hb.block g (Array.getElem?_eq_some_iff.1 e3).1).trans e3⟩), h.ne, Nat.le_trans h.n hb.size⟩
theorem AF2.start {n0 : Nat} {ob : Obj} {x y : Value} {w : World} (h : n0 ≤ w.heap.size) : AF2 n0 ob false false x y w := ⟨fun e => (by cases e), fun e => (by cases e), fun e => (by cases e), h⟩
theorem ptr_ne {g n : Nat} (h : g < n) : (Value.pointer (some ⟨g, 0, none⟩)) ≠ .pointer (some ⟨n, 0, none⟩) := fun e => by
 injection e with e; injection e with e; injection e with e; omega
theorem AF2.putp {n0 : Nat} {ob : Obj} {c : Bool} {x y : Value} {w : World} (h : AF2 n0 ob false c x y w) : AF2 n0 ob true c (.pointer (some ⟨w.heap.size, 0, none⟩)) y (w.alloc ob) := by
 have h' := h.on (below_alloc (Below.refl _ _) ob)
 refine ⟨fun _ => ⟨_, rfl, h.n, blk_new _ _⟩, h'.q, fun _ e => ?_, h'.n⟩
 obtain ⟨g, e1, -, e3⟩ := h.q e
 rw [e1]
 exact (ptr_ne (Array.getElem?_eq_some_iff.1 e3).1).symm
theorem AF2.putq {n0 : Nat} {ob : Obj} {b : Bool} {x y : Value} {w : World} (h : AF2 n0 ob b false x y w) : AF2 n0 ob b true x (.pointer (some ⟨w.heap.size, 0, none⟩)) (w.alloc ob) := by
 have h' := h.on (below_alloc (Below.refl _ _) ob)
 refine ⟨h'.p, fun _ => ⟨_, rfl, h.n, blk_new _ _⟩, fun e _ => ?_, h'.n⟩
 obtain ⟨g, e1, -, e3⟩ := h.p e
 rw [e1]
 exact ptr_ne (Array.getElem?_eq_some_iff.1 e3).1
section
variable {p q : Nat} {op oq : Oper} (dp dq : Tmp) (a0 : Act) (l : Bool → Bool → Array Bool) {n n0 : Nat} {ob : Obj} {B : World → Prop}
theorem pend2 (i : Nat) (p q : Nat) {op oq : Oper}
  (hi : ∀ b c x y w, AF2 n0 ob b c x y w → B w → wpOp P ops Q i (fun a' w' => (i ∉ ds → S w → S w') ∧ wpAnyLast P md ops Q S ds (n + pd b + pd c) ((l b c).setIfInBounds i true) a' w') ((a0.put (some dp) x).put (some dq) y) w)
  (hB : ∀ w w', B w → Below w.heap.size w w' → B w') (hS : ∀ w, B w → S w)
  (hop : ops[p]? = some op := by rfl) (hoq : ops[q]? = some oq := by rfl) (hne : dp ≠ dq := by decide)
  (hp : ∀ (a : Act) w, (execOp a.eval op).run P w = .ok (.value (.pointer (some ⟨w.heap.size, 0, none⟩))) (w.alloc ob) := by (intro a w; first | (go_simp; done) | (go_simp; rfl)))
  (hq : ∀ (a : Act) w, (execOp a.eval oq).run P w = .ok (.value (.pointer (some ⟨w.heap.size, 0, none⟩))) (w.alloc ob) := by (intro a w; first | (go_simp; done) | (go_simp; rfl)))
  (hr : ∀ b c, readyP md ops i p q b c (l b c) = true := by intro b c; cases b <;> cases c <;> kernel_rfl)
  (hlp : ∀ c, (l false c).setIfInBounds p true = l true c := by intro c; cases c <;> rfl)
  (hlq : ∀ b, (l b false).setIfInBounds q true = l b true := by intro c; cases c <;> rfl)
  (hdp : op.dst = some dp := by rfl) (hdq : oq.dst = some dq := by rfl)
  (hwp : ∀ a : Act, Region.wanted op (yielded ops a.tmps) = true := by intro a; rfl)
  (hwq : ∀ a : Act, Region.wanted oq (yielded ops a.tmps) = true := by intro a; rfl) :
  ∀ b c x y w, AF2 n0 ob b c x y w → B w → wpAnyLast P md ops Q S ds (n + 1 + pd b + pd c) (l b c) ((a0.put (some dp) x).put (some dq) y) w := by
 have key : ∀ m b c x y w, pd b + pd c = m → AF2 n0 ob b c x y w → B w → wpAnyLast P md ops Q S ds (n + pd b + pd c + 1) (l b c) ((a0.put (some dp) x).put (some dq) y) w := by
  intro m
  induction m with
  | zero =>
   intro b c x y w hm hJ hBw
   have h1 := hr b c
   simp only [readyP, Bool.and_eq_true, List.all_eq_true, List.contains_iff_mem, Bool.or_eq_true, beq_iff_eq] at h1
   refine ⟨fun h0 => (by rw [h0] at h1; cases h1.1), fun j hj => ?_⟩
   rcases h1.2 j hj with (rfl | ⟨-, hb⟩) | ⟨-, hc⟩
   · exact hi b c x y w hJ hBw
   · cases b with
     | true => cases hb
     | false => simp [pd] at hm
   · cases c with
     | true => cases hc
     | false => simp [pd] at hm
  | succ m ih =>
   intro b c x y w hm hJ hBw
   have h1 := hr b c
   simp only [readyP, Bool.and_eq_true, List.all_eq_true, List.contains_iff_mem, Bool.or_eq_true, beq_iff_eq] at h1
   refine ⟨fun h0 => (by rw [h0] at h1; cases h1.1), fun j hj => ?_⟩
   rcases h1.2 j hj with (rfl | ⟨rfl, hb⟩) | ⟨rfl, hc⟩
   · exact hi b c x y w hJ hBw
   · cases b with
     | true => cases hb
     | false =>
      have e2 := hB _ _ hBw (below_alloc (Below.refl _ _) ob)
      refine wpOp_of hop ?_
      rw [if_pos (hwp _)]
      unfold Oper.wp
      rw [hp, Oper.upon_value, hdp, put_ne hne.symm, put_put, hlp]
      refine ⟨fun _ _ => hS _ e2, ?_⟩
      have := ih true c _ y _ (by simp [pd] at hm ⊢; omega) hJ.putp e2
      have e : n + pd false + pd c = n + pd true + pd c + 1 := by simp [pd]; omega
      rw [e]; exact this
   · cases c with
     | true => cases hc
     | false =>
      have e2 := hB _ _ hBw (below_alloc (Below.refl _ _) ob)
      refine wpOp_of hoq ?_
      rw [if_pos (hwq _)]
      unfold Oper.wp
      rw [hq, Oper.upon_value, hdq, put_put, hlq]
      refine ⟨fun _ _ => hS _ e2, ?_⟩
      have := ih b true x _ _ (by simp [pd] at hm ⊢; omega) hJ.putq e2
      have e : n + pd b + pd false = n + pd b + pd true + 1 := by simp [pd]
      rw [e]; exact this
 intro b c x y w hJ hBw
 have := key _ b c x y w rfl hJ hBw
 have e : n + 1 + pd b + pd c = n + pd b + pd c + 1 := by omega
 rw [e]; exact this
theorem pend0 (p q : Nat) {op oq : Oper}
  (hi : ∀ x y w, AF2 n0 ob true true x y w → B w → wpAnyLast P md ops Q S ds n (l true true) ((a0.put (some dp) x).put (some dq) y) w)
  (hB : ∀ w w', B w → Below w.heap.size w w' → B w') (hS : ∀ w, B w → S w)
  (hop : ops[p]? = some op := by rfl) (hoq : ops[q]? = some oq := by rfl) (hne : dp ≠ dq := by decide)
  (hp : ∀ (a : Act) w, (execOp a.eval op).run P w = .ok (.value (.pointer (some ⟨w.heap.size, 0, none⟩))) (w.alloc ob) := by (intro a w; first | (go_simp; done) | (go_simp; rfl)))
  (hq : ∀ (a : Act) w, (execOp a.eval oq).run P w = .ok (.value (.pointer (some ⟨w.heap.size, 0, none⟩))) (w.alloc ob) := by (intro a w; first | (go_simp; done) | (go_simp; rfl)))
  (hr : ∀ b c, (b && c) = true ∨ ready0 md ops p q b c (l b c) = true := by intro b c; cases b <;> cases c <;> first | (left; rfl) | (right; kernel_rfl))
  (hlp : ∀ c, (l false c).setIfInBounds p true = l true c := by intro c; cases c <;> rfl)
  (hlq : ∀ b, (l b false).setIfInBounds q true = l b true := by intro c; cases c <;> rfl)
  (hdp : op.dst = some dp := by rfl) (hdq : oq.dst = some dq := by rfl)
  (hwp : ∀ a : Act, Region.wanted op (yielded ops a.tmps) = true := by intro a; rfl)
  (hwq : ∀ a : Act, Region.wanted oq (yielded ops a.tmps) = true := by intro a; rfl) :
  ∀ b c x y w, AF2 n0 ob b c x y w → B w → wpAnyLast P md ops Q S ds (n + pd b + pd c) (l b c) ((a0.put (some dp) x).put (some dq) y) w := by
 have key : ∀ m b c x y w, pd b + pd c = m → AF2 n0 ob b c x y w → B w → wpAnyLast P md ops Q S ds (n + pd b + pd c) (l b c) ((a0.put (some dp) x).put (some dq) y) w := by
  intro m
  induction m with
  | zero =>
   intro b c x y w hm hJ hBw
   cases b with
   | false => simp [pd] at hm
   | true =>
    cases c with
    | false => simp [pd] at hm
    | true => exact hi x y w hJ hBw
  | succ m ih =>
   intro b c x y w hm hJ hBw
   have h1 := hr b c
   rcases h1 with h1 | h1
   · simp only [Bool.and_eq_true] at h1
     obtain ⟨rfl, rfl⟩ := h1
     simp [pd] at hm
   have ef : n + pd b + pd c = n + m + 1 := by omega
   rw [ef]
   simp only [ready0, Bool.and_eq_true, List.any_eq_true, List.all_eq_true, Bool.or_eq_true, beq_iff_eq] at h1
   refine ⟨fun h0 => (by rw [h0] at h1; obtain ⟨⟨_, h, -⟩, -⟩ := h1; cases h), fun j hj => ?_⟩
   rcases h1.2 j hj with ⟨rfl, hb⟩ | ⟨rfl, hc⟩
   · cases b with
     | true => cases hb
     | false =>
      have e2 := hB _ _ hBw (below_alloc (Below.refl _ _) ob)
      refine wpOp_of hop ?_
      rw [if_pos (hwp _)]
      unfold Oper.wp
      rw [hp, Oper.upon_value, hdp, put_ne hne.symm, put_put, hlp]
      refine ⟨fun _ _ => hS _ e2, ?_⟩
      have hm' : pd true + pd c = m := by simp [pd] at hm ⊢; omega
      have := ih true c _ y _ hm' hJ.putp e2
      rw [Nat.add_assoc, hm'] at this; exact this
   · cases c with
     | true => cases hc
     | false =>
      have e2 := hB _ _ hBw (below_alloc (Below.refl _ _) ob)
      refine wpOp_of hoq ?_
      rw [if_pos (hwq _)]
      unfold Oper.wp
      rw [hq, Oper.upon_value, hdq, put_put, hlq]
      refine ⟨fun _ _ => hS _ e2, ?_⟩
      have hm' : pd b + pd true = m := by simp [pd] at hm ⊢; omega
      have := ih b true x _ _ hm' hJ.putq e2
      rw [Nat.add_assoc, hm'] at this; exact this
 intro b c x y w hJ hBw
 exact key _ b c x y w rfl hJ hBw
theorem pend2s {x y : Value} {w : World} (i : Nat) (p q : Nat) {op oq : Oper} {b c : Bool} (hAF : AF2 n0 ob b c x y w) (hBw : B w)
  (hi : ∀ b c x y w, AF2 n0 ob b c x y w → B w → wpOp P ops Q i (fun a' w' => (i ∉ ds → S w → S w') ∧ wpAnyLast P md ops Q S ds (n + pd b + pd c) ((l b c).setIfInBounds i true) a' w') ((a0.put (some dp) x).put (some dq) y) w)
  (hB : ∀ w w', B w → Below w.heap.size w w' → B w') (hS : ∀ w, B w → S w)
  (h1 : a0.tmps[dp]? = some x := by rfl) (h2 : a0.tmps[dq]? = some y := by rfl)
  (hop : ops[p]? = some op := by rfl) (hoq : ops[q]? = some oq := by rfl) (hne : dp ≠ dq := by decide)
  (hp : ∀ (a : Act) w, (execOp a.eval op).run P w = .ok (.value (.pointer (some ⟨w.heap.size, 0, none⟩))) (w.alloc ob) := by (intro a w; first | (go_simp; done) | (go_simp; rfl)))
  (hq : ∀ (a : Act) w, (execOp a.eval oq).run P w = .ok (.value (.pointer (some ⟨w.heap.size, 0, none⟩))) (w.alloc ob) := by (intro a w; first | (go_simp; done) | (go_simp; rfl)))
  (hr : ∀ b c, readyP md ops i p q b c (l b c) = true := by intro b c; cases b <;> cases c <;> kernel_rfl)
  (hlp : ∀ c, (l false c).setIfInBounds p true = l true c := by intro c; cases c <;> rfl)
  (hlq : ∀ b, (l b false).setIfInBounds q true = l b true := by intro c; cases c <;> rfl)
  (hdp : op.dst = some dp := by rfl) (hdq : oq.dst = some dq := by rfl)
  (hwp : ∀ a : Act, Region.wanted op (yielded ops a.tmps) = true := by intro a; rfl)
  (hwq : ∀ a : Act, Region.wanted oq (yielded ops a.tmps) = true := by intro a; rfl) : wpAnyLast P md ops Q S ds (n + 1 + pd b + pd c) (l b c) a0 w := by
 have := pend2 dp dq a0 l i p q hi hB hS hop hoq hne hp hq hr hlp hlq hdp hdq hwp hwq b c x y w hAF hBw
 rw [as_put h1 h2] at this
 exact this
theorem pend0s {x y : Value} {w : World} (p q : Nat) {op oq : Oper} {b c : Bool} (hAF : AF2 n0 ob b c x y w) (hBw : B w)
  (hi : ∀ x y w, AF2 n0 ob true true x y w → B w → wpAnyLast P md ops Q S ds n (l true true) ((a0.put (some dp) x).put (some dq) y) w)
  (hB : ∀ w w', B w → Below w.heap.size w w' → B w') (hS : ∀ w, B w → S w)
  (h1 : a0.tmps[dp]? = some x := by rfl) (h2 : a0.tmps[dq]? = some y := by rfl)
  (hop : ops[p]? = some op := by rfl) (hoq : ops[q]? = some oq := by rfl) (hne : dp ≠ dq := by decide)
  (hp : ∀ (a : Act) w, (execOp a.eval op).run P w = .ok (.value (.pointer (some ⟨w.heap.size, 0, none⟩))) (w.alloc ob) := by (intro a w; first | (go_simp; done) | (go_simp; rfl)))
  (hq : ∀ (a : Act) w, (execOp a.eval oq).run P w = .ok (.value (.pointer (some ⟨w.heap.size, 0, none⟩))) (w.alloc ob) := by (intro a w; first | (go_simp; done) | (go_simp; rfl)))
  (hr : ∀ b c, (b && c) = true ∨ ready0 md ops p q b c (l b c) = true := by intro b c; cases b <;> cases c <;> first | (left; rfl) | (right; kernel_rfl))
  (hlp : ∀ c, (l false c).setIfInBounds p true = l true c := by intro c; cases c <;> rfl)
  (hlq : ∀ b, (l b false).setIfInBounds q true = l b true := by intro c; cases c <;> rfl)
  (hdp : op.dst = some dp := by rfl) (hdq : oq.dst = some dq := by rfl)
  (hwp : ∀ a : Act, Region.wanted op (yielded ops a.tmps) = true := by intro a; rfl)
  (hwq : ∀ a : Act, Region.wanted oq (yielded ops a.tmps) = true := by intro a; rfl) : wpAnyLast P md ops Q S ds (n + pd b + pd c) (l b c) a0 w := by
 have := pend0 dp dq a0 l p q hi hB hS hop hoq hne hp hq hr hlp hlq hdp hdq hwp hwq b c x y w hAF hBw
 rw [as_put h1 h2] at this
 exact this
end
theorem pcl {X : Act → World → Prop} {oi : Oper} {a : Act} {w : World} (i : Nat) (d : Tmp) {f : FuncId} {ars : Array Operand} {ts : Array TypeId} {args : Array Value} {R : Ending → World → Prop} (hf : ∃ fn, P.funcs[f]? = some fn ∧ (fn.name == "runtime.NumGoroutine") = false ∧ fn.body.isSome = true) (hc : Calls P f args w R)
  (K : ∀ e w', R e w' → ∃ v, e = .returned v ∧ S w' ∧ X (a.put (some d) v) w')
  (hi : ops[i]? = some oi := by rfl) (hw : Region.wanted oi (yielded ops a.tmps) = true := by rfl) (hN : oi.dst = some d := by rfl) (hop : oi.op = .call { callee := .value (.func f), args := ars, argTypes := ts } := by rfl)
  (hargs : ars.map a.eval = args := by ((try simp only [List.map_toArray, List.map_cons, List.map_nil]); first | done | rfl)) : wpOp P ops Q i (fun a' w' => (i ∉ ds → S w → S w') ∧ X a' w') a w := by
 obtain ⟨fn, hf1, hf2, hf3⟩ := hf
 refine wpOp_of hi ?_
 refine goes_ hf1 hf2 hf3 args hw rfl hop hargs (hc.mono ?_)
 intro e w' h
 obtain ⟨v, e1, hS, hX⟩ := K e w' h
 refine ⟨v, e1, ?_⟩
 rw [hN]
 exact ⟨fun _ _ => hS, hX⟩
end
structure NB (w : World) (g : Nat) (b : Bool) (N : Nat) (A : Option Addr) (c : Nat) : Prop where
  B : w.heap[g]? = some (.cells #[.bool b, .slice A (mag N).length c] 122 (0, 0))
  C : Kd.C (Kd.int .i64) w A (mag N).length (mag N)
  h : (mag N).length ≤ c
section
variable {w w' : World} {g g' : Nat} {b b' : Bool} {N N' : Nat} {A A' : Option Addr} {c c' : Nat}
theorem NB.on (h : NB w g b N A c) (hb : Below w.heap.size w w') : NB w' g b N A c := ⟨blk_below h.B hb, Kd.C_below h.C hb, h.h⟩
theorem NB.far (h : NB w g b N A c) (h' : NB w g' b' N' A' c') (ne : g ≠ g') (x y : Value) : NB ((w.setCell ⟨g', 0, none⟩ x).setCell ⟨g', 1, none⟩ y) g b N A c :=
 ⟨blk_far (p := ⟨g', 1, none⟩) (blk_far (p := ⟨g', 0, none⟩) h.B ne _) ne _, C_set2 h.C h'.B, h.h⟩
theorem NB.put (h : NB w g b N A c) (hC : Kd.C (Kd.int .i64) w A' (mag N').length (mag N')) (h' : (mag N').length ≤ c') : NB ((w.setCell ⟨g, 0, none⟩ (.bool b')).setCell ⟨g, 1, none⟩ (.slice A' (mag N').length c')) g b' N' A' c' :=
 ⟨blk_put (blk_put h.B 0 _ rfl) 1 _ rfl, C_set2 hC h.B, h'⟩
theorem NB.cells (h : NB w g b N A c) : w.cell? ⟨g, 0, none⟩ = some (.bool b) ∧ w.cell? ⟨g, 1, none⟩ = some (.slice A (mag N).length c) ∧ w.frozen? ⟨g, 0, none⟩ = false ∧ w.frozen? ⟨g, 1, none⟩ = false := b2 ⟨h.B⟩
theorem bs2 {W : World} (h : Z0 (Below w.heap.size w W)) (hg : w.heap.size ≤ g) (x y : Value) : Z0 (Below w.heap.size w ((W.setCell ⟨g, 0, none⟩ x).setCell ⟨g, 1, none⟩ y)) := ⟨below_set (below_set h.out hg) hg⟩
theorem NB.new {A0 : Option Addr} {c0 : Nat} (hC : Kd.C (Kd.int .i64) w A (mag N).length (mag N)) (h : (mag N).length ≤ c) (hB : w.heap[g]? = some (.cells #[.bool b, .slice A (mag N).length c] 122 (0, 0))) : NB w g b N A c := ⟨hB, hC, h⟩
end
structure Euc (X Y : Nat) (r s p q : Int) : Prop where
  r0 : 0 ≤ r
  s0 : 0 ≤ s
  g : Int.gcd r s = Nat.gcd X Y
  i2 : (q.natAbs : Int) * r + p.natAbs * s = Y
  sg : (0 ≤ p ∧ q ≤ 0) ∨ (p ≤ 0 ∧ 0 ≤ q)
  d1 : (Y : Int) ∣ p * X - r
  d2 : (Y : Int) ∣ q * X - s
  rX : r ≤ X + Y
  sX : s ≤ X + Y
  pY : p.natAbs ≤ Y + 1
  qY : q.natAbs ≤ Y + 1
theorem Euc.init (X Y : Nat) : Euc X Y (sv false X) (sv false Y) (sv false 1) (sv false 0) := by
 have e : ∀ N, sv false N = (N : Int) := fun N => by unfold sv; rw [if_neg (by decide)]
 rw [e, e, e, e]
 exact ⟨by omega, by omega, rfl, by simp, .inl ⟨by omega, by omega⟩, by simp, by simp, by omega, by omega, by simp, by simp⟩
theorem Euc.step {X Y : Nat} {r s p q : Int} (h : Euc X Y r s p q) (hs : 0 < s) (k t : Int) (hk : k = r.fdiv s) (ht : t = r.fmod s) : Euc X Y s t q (p - k * q) := by
 obtain ⟨h1, h2, h3, h4, h5, h6, h7, h8, h9, h10, h11⟩ := h
 obtain ⟨R, rfl⟩ := Int.eq_ofNat_of_zero_le h1
 obtain ⟨S, rfl⟩ := Int.eq_ofNat_of_zero_le h2
 have hk' : k = ((R / S : Nat) : Int) := by rw [hk, Int.fdiv_eq_ediv_of_nonneg _ (by omega)]; rfl
 have ht' : t = ((R % S : Nat) : Int) := by rw [ht, Int.fmod_eq_emod_of_nonneg _ (by omega)]; rfl
 clear hk ht
 have hd := Nat.div_add_mod R S
 have hm := Nat.mod_lt R (show 0 < S by omega)
 generalize R / S = K at *
 have hg : Nat.gcd S (R % S) = Nat.gcd R S := by rw [Nat.gcd_comm R S, Nat.gcd_rec S R, Nat.gcd_comm]
 generalize hT : R % S = T at *
 subst hk' ht'
 have e1 : (p - (K : Int) * q).natAbs = p.natAbs + K * q.natAbs := by
  rcases h5 with ⟨a, b⟩ | ⟨a, b⟩
  · have : 0 ≤ (K : Int) * -q := Int.mul_nonneg (by omega) (by omega)
    rw [Int.mul_neg] at this
    have e : ((K * q.natAbs : Nat) : Int) = -((K : Int) * q) := by rw [Int.natCast_mul, Int.ofNat_natAbs_of_nonpos b, Int.mul_neg]
    omega
  · have : 0 ≤ (K : Int) * q := Int.mul_nonneg (by omega) (by omega)
    have e : ((K * q.natAbs : Nat) : Int) = (K : Int) * q := by rw [Int.natCast_mul, Int.natAbs_of_nonneg b]
    omega
 have e2 : (p.natAbs + K * q.natAbs) * S + q.natAbs * T = Y := by
  have h4' : q.natAbs * R + p.natAbs * S = Y := by omega
  rw [← h4', ← hd, Nat.add_mul, Nat.mul_add, show K * q.natAbs * S = q.natAbs * (S * K) by rw [Nat.mul_comm K, Nat.mul_assoc, Nat.mul_comm K]]
  omega
 have e3 : (p.natAbs + K * q.natAbs) ≤ (p.natAbs + K * q.natAbs) * S := Nat.le_mul_of_pos_right _ (by omega)
 have e4 : ((S * K : Nat) : Int) = (K : Int) * S := by rw [Int.natCast_mul, Int.mul_comm]
 refine ⟨by omega, by omega, ?_, ?_, ?_, h7, ?_, h9, by omega, h11, by rw [e1]; omega⟩
 · show Nat.gcd S T = _
   rw [hg]; exact h3
 · rw [e1]; omega
 · rcases h5 with ⟨a, b⟩ | ⟨a, b⟩
   · have : 0 ≤ (K : Int) * -q := Int.mul_nonneg (by omega) (by omega)
     rw [Int.mul_neg] at this
     omega
   · have : 0 ≤ (K : Int) * q := Int.mul_nonneg (by omega) (by omega)
     omega
 · have e5 : (p - (K : Int) * q) * X - T = (p * X - R) - K * (q * X - S) := by
    rw [Int.sub_mul, Int.mul_sub, Int.mul_assoc]
    omega
   rw [e5]
   exact Int.dvd_sub h6 (Int.dvd_mul_of_dvd_right h7)
section
variable {P : Program} {ops : Array Oper} {Q : Exit → Act → World → Prop} {md : Region.Mode} {S : World → Prop} {ds : List Nat} {oi : Oper} {fuel : Nat} {l : Array Bool} {a a' : Act} {w w1 : World} {v : Value}
theorem tk (i : Nat) (d : Tmp) (hS : S w) (h : wpAnyLast P md ops Q S ds fuel (l.setIfInBounds i true) a' w) (hi : ops[i]? = some oi := by rfl) (hN : oi.dst = some d := by rfl) (hc : takeB md ops ds l (l.setIfInBounds i true) i = true := by kernel_rfl)
  (hQ : ∀ c a w, Q (.panic c) (a.put oi.dst v) w → Q (.panic c) a w := by exact fun _ _ _ h => h)
  (hy : YieldsIf P ops S oi v a := by (refine Or.inl ⟨by rfl, ?_⟩; intro w' hs; (try dsimp only at hs); go_split_ands; go_simp; with_reducible rfl))
  (ha : a.put (some d) v = a' := by ((simp only [Act.put, List.setIfInBounds_toArray, List.set_cons_zero, List.set_cons_succ]); rfl))
  : wpAnyLast P md ops Q S ds (fuel + 1) l a w :=
 take_ _ hi hN hc hQ hy hS ha h
theorem tp (i : Nat) (d : Tmp) (h : wpAnyLast P md ops Q S ds fuel (l.setIfInBounds i true) a' w) (hi : ops[i]? = some oi := by rfl) (hN : oi.dst = some d := by rfl) (hc : anyB md ops l (l.setIfInBounds i true) i = true := by kernel_rfl)
  (hQ : ∀ c a w, Q (.panic c) (a.put oi.dst v) w → Q (.panic c) a w := by exact fun _ _ _ h => h)
  (hy : Yields P ops oi v a := by (refine Or.inl ⟨by rfl, ?_⟩; intro w'; go_simp; with_reducible rfl))
  (ha : a.put (some d) v = a' := by ((simp only [Act.put, List.setIfInBounds_toArray, List.set_cons_zero, List.set_cons_succ]); rfl))
  : wpAnyLast P md ops Q S ds (fuel + 1) l a w :=
 pure_ _ hi hN hc hQ hy ha h
theorem stL (i : Nat) (h : wpAnyLast P md ops Q S ds fuel (l.setIfInBounds i true) a w1) (hi : ops[i]? = some oi := by rfl) (hc : readyB md ops l (l.setIfInBounds i true) i = true := by kernel_rfl) (hd : i ∈ ds := by decide) (hw : Region.wanted oi (yielded ops a.tmps) = true := by rfl) (hN : oi.dst = none := by rfl)
  (hrun : (execOp a.eval oi).run P w = .ok .skip w1 := by (go_simp; rfl)) : wpAnyLast P md ops Q S ds (fuel + 1) l a w := by
 simp only [readyB, Bool.and_eq_true, beq_iff_eq] at hc
 refine wpAnyLast_all hc.1 (by simp) fun j hj => ?_
 rw [List.mem_singleton] at hj
 subst hj
 unfold wpOp
 simp only [hi, hw, if_true]
 refine .inl ?_
 unfold Oper.wp
 rw [hrun]
 refine ⟨fun h => absurd hd h, ?_⟩
 show wpAnyLast P md ops Q S ds fuel _ (a.put oi.dst undef) w1
 rw [hN]
 exact h
theorem stK (i : Nat) (hS : S w1) (h : wpAnyLast P md ops Q S ds fuel (l.setIfInBounds i true) a w1) (hi : ops[i]? = some oi := by rfl) (hc : readyB md ops l (l.setIfInBounds i true) i = true := by kernel_rfl) (hw : Region.wanted oi (yielded ops a.tmps) = true := by rfl) (hN : oi.dst = none := by rfl)
  (hrun : (execOp a.eval oi).run P w = .ok .skip w1 := by (go_simp; rfl)) : wpAnyLast P md ops Q S ds (fuel + 1) l a w := by
 simp only [readyB, Bool.and_eq_true, beq_iff_eq] at hc
 refine wpAnyLast_all hc.1 (by simp) fun j hj => ?_
 rw [List.mem_singleton] at hj
 subst hj
 unfold wpOp
 simp only [hi, hw, if_true]
 refine .inl ?_
 unfold Oper.wp
 rw [hrun]
 refine ⟨fun _ _ => hS, ?_⟩
 show wpAnyLast P md ops Q S ds fuel _ (a.put oi.dst undef) w1
 rw [hN]
 exact h
theorem cl (i : Nat) (d : Tmp) {f : FuncId} {ars : Array Operand} {ts : Array TypeId} {args : Array Value} {R : Ending → World → Prop} (hf : ∃ fn, Tryz.prog.funcs[f]? = some fn ∧ (fn.name == "runtime.NumGoroutine") = false ∧ fn.body.isSome = true) (hc : Calls Tryz.prog f args w R)
  (K : ∀ e w', R e w' → ∃ v, e = .returned v ∧ S w' ∧ ∃ a', a.put (some d) v = a' ∧ wpAnyLast Tryz.prog md ops Q S ds fuel (l.setIfInBounds i true) a' w')
  (hi : ops[i]? = some oi := by rfl) (hr : readyB md ops l (l.setIfInBounds i true) i = true := by kernel_rfl) (hd : i ∉ ds := by decide) (hw : Region.wanted oi (yielded ops a.tmps) = true := by rfl) (hN : oi.dst = some d := by rfl) (hop : oi.op = .call { callee := .value (.func f), args := ars, argTypes := ts } := by rfl)
  (hargs : ars.map a.eval = args := by ((try simp only [List.map_toArray, List.map_cons, List.map_nil]); first | done | rfl)) : wpAnyLast Tryz.prog md ops Q S ds (fuel + 1) l a w := by
 obtain ⟨fn, hf1, hf2, hf3⟩ := hf
 refine one_ _ hi hN hr hd fun K' hK => ?_
 refine goes_ hf1 hf2 hf3 args hw hN hop hargs (hc.mono ?_)
 intro e w' h
 obtain ⟨v, e1, hS, a', rfl, h⟩ := K e w' h
 exact ⟨v, e1, hK.out _ _ hS fun _ => h⟩
end
theorem al2d {p : World → Prop} {W : World} {x y : Obj} (h : ∀ W', Below W.heap.size W W' → Z0 (W'.heap[W.heap.size]? = some x) → Z0 (W'.heap[W.heap.size + 1]? = some y) → p W') : p ((W.alloc x).alloc y).drew :=
 h _ (below_drew1 (below_alloc (below_alloc (Below.refl _ _) _) _)) ⟨blk_drew (blk_alloc (blk_new _ _) _)⟩ ⟨blk_drew (by have := blk_new (W.alloc x) y; rwa [show (W.alloc x).heap.size = W.heap.size + 1 from Array.size_push ..] at this)⟩
theorem bez_fin (m n p R Z u : Int) (hR : R * Z = n.natAbs) (hRm : R ∣ m) (hd : (n.natAbs : Int) ∣ p * m - R) (hu : u = p.fmod Z) : u * m + (R - m * u).fdiv n * n = R := by
 have h : n ∣ R - m * u := by
  obtain ⟨c, hc⟩ := hRm
  have e : R - m * u = -(p * m - R) + n.natAbs * (c * p.fdiv Z) := by
   rw [hu, Int.fmod_def, ← hR, Int.mul_sub, show m * (Z * p.fdiv Z) = R * Z * (c * p.fdiv Z) by rw [hc]; simp only [Int.mul_assoc, Int.mul_comm, Int.mul_left_comm], Int.mul_comm m p]
   omega
  rw [e]
  exact Int.dvd_add (Int.dvd_neg.2 (Int.dvd_trans (Int.dvd_natAbs_self) hd)) (Int.dvd_mul_of_dvd_left (Int.dvd_natAbs_self))
 rw [Int.fdiv_mul_cancel h, Int.mul_comm u m]
 omega
theorem bez_ok (m n : Int) (w : World) (hL : LaidW w) (hm : Sv.nd m ≤ 400) (hn : Sv.nd n ≤ 400) :
  Calls Tryz.prog 46 #[.string (Sv.txt m), .string (Sv.txt n)] w fun e w' => ∃ u v : Int, e = .returned (.tuple #[.string (Sv.txt (Int.gcd m n)), .string (Sv.txt u), .string (Sv.txt v), .int .i64 0]) ∧ u * m + v * n = Int.gcd m n ∧ Sv.nd u ≤ 400 ∧ Sv.nd v ≤ 1300 ∧ Below w.heap.size w w' := by
 have HB := Z0.mk (Below.refl w.heap.size w)
 obtain ⟨kp, Ap⟩ := (bi_pair m n (by omega) (by omega)).as
 have l1 := Nat.le_trans (mag_len_nd m) hm
 have l2 := Nat.le_trans (mag_len_nd n) hn
 have hu := Tryz.underlying122
 go_enter Tryz.func46, Tryz.ntmps46
 go_upto_region 2 with (refine cX rfl ?_; rintro _ w1 ⟨X0, c0, X1, c1, rfl, C0, hc0, C1, hc1, hb⟩; refine ⟨_, rfl, ?_⟩; replace HB := fB HB hb; clear hb)
 have HB0 := HB
 refine al2 ?_
 intro W hb B0 B1
 replace HB := fB HB hb
 have N8 : NB W w1.heap.size _ _ _ _ := ⟨B0.out, Kd.C_below C0 hb, hc0⟩
 have N9 : NB W (w1.heap.size + 1) _ _ _ _ := ⟨B1.out, Kd.C_below C1 hb, hc1⟩
 have G8 : w.heap.size ≤ w1.heap.size := below_size HB0.out
 clear hb B0 B1 C0 C1 HB0
 obtain ⟨p0, p1, -, -⟩ := N8.cells
 obtain ⟨q0, q1, -, -⟩ := N9.cells
 by_cases h1 : n = 0
 · subst h1
   have h3 : mag (0 : Int).natAbs = [] := mag_zero
   rw [h3] at q1
   obtain ⟨s1, E1⟩ : ∃ s, Z0 (bIsign.f (decide (m < 0)) (mag m.natAbs) = some s ∧ s = m.sign) := ⟨_, ⟨bi_sign (decide (m < 0)) m.natAbs, by rw [sv_of]⟩⟩
   have E2 := Z0.mk E1.out.1
   have E3 : Z0 (bInumber_text.f false (mag m.natAbs) = some (Sv.txt (Int.gcd m 0))) := ⟨by rw [Int.gcd_zero_right]; exact bi_text false m.natAbs (by omega)⟩
   have q : m.sign = -1 ∨ m.sign = 0 ∨ m.sign = 1 := by
    rcases Int.lt_trichotomy m 0 with h | h | h
    · exact .inl (Int.sign_eq_neg_one_of_neg h)
    · exact .inr (.inl (by rw [h]; rfl))
    · exact .inr (.inr (Int.sign_eq_one_of_pos h))
   have E4 := Z0.mk (bi_Of s1 (by have := E1.out.2; omega) (by have := E1.out.2; omega))
   have D8 := N8.C
   have d8 := N8.h
   go_wp2_with (refine cG rfl ?_; intro w' hb; (try replace D8 := Kd.C_below D8 hb); replace N8 := N8.on hb; replace HB := fB HB hb; clear hb p0 p1; obtain ⟨p0, p1, -, -⟩ := N8.cells)
   refine bodyPost_ret (results_list (rs := [.tmp 4, .tmp 5, .tmp 6, .tmp 7]) rfl (by simp) (.tmp (.tmp (.tmp (.tmp .nil))))) rfl ?_
   have e5 := E1.out.2
   refine ⟨m.sign, 0, by rw [← e5, Int.gcd_zero_right, show Sv.txt 0 = ⟨#[48]⟩ from r0]; rfl, ?_, ?_, ?_, HB.out⟩
   · rw [Int.gcd_zero_right, Int.mul_zero, Int.add_zero]; exact Int.sign_mul_self m
   · exact Nat.le_trans (nd_lt10 (by omega)) (by decide)
   · exact Nat.le_trans (nd_lt10 (by decide)) (by decide)
 have hlen : ∀ N : Nat, N ≤ m.natAbs + n.natAbs + 1 → (mag N).length ≤ 402 := fun N h => by
  have h1 := mag_add_len m.natAbs n.natAbs 400 l1 l2
  have h2 := mag_add_len (m.natAbs + n.natAbs) 1 401 h1 (by rw [mag_one (by decide) (by decide)]; decide)
  exact Nat.le_trans (mag_mono h) h2
 have e2 : (((mag n.natAbs).length : Int) == 0) = false := by have := mag_len0 n.natAbs; rw [beq_eq_false_iff_ne]; omega
 have e3 : (mag n.natAbs = []) = False := eq_false (mag_ne (by omega))
 go_upto_region 7 with (fail)
 go_cut [12, 13] (fun v12 v13 wc => ∃ g12 g13 : Nat, v12 = .pointer (some ⟨g12, 0, none⟩) ∧ v13 = .pointer (some ⟨g13, 0, none⟩) ∧ g12 ≠ g13 ∧ W.heap.size ≤ g12 ∧ W.heap.size ≤ g13 ∧ NB wc g12 false m.natAbs X0 c0 ∧ NB wc g13 false n.natAbs X1 c1 ∧ Below W.heap.size W wc)
 case first =>
  go_region_held3 (fun w' => w'.cell? ⟨w1.heap.size, 1, none⟩ = some (.slice X0 (mag m.natAbs).length c0) ∧ w'.cell? ⟨w1.heap.size + 1, 1, none⟩ = some (.slice X1 (mag n.natAbs).length c1))
   (exact ⟨pw_cell_below (by with_reducible repeat (first | exact Below.refl _ _ | apply below_alloc | apply below_drew1)) p1, pw_cell_below (by with_reducible repeat (first | exact Below.refl _ _ | apply below_alloc | apply below_drew1)) q1⟩)
   (fail)
  · refine al2d ?_
    intro W2 hb E0 E1
    go_wp2
    go_meet
    case rel => exact ⟨_, _, rfl, rfl, by omega, by omega, by omega, ⟨E0.out, Kd.C_below N8.C hb, N8.h⟩, ⟨E1.out, Kd.C_below N9.C hb, N9.h⟩, hb⟩
  · refine al2d ?_
    intro W2 hb E0 E1
    go_wp2
    go_meet
    case rel => exact ⟨_, _, rfl, rfl, by omega, by omega, by omega, ⟨E1.out, Kd.C_below N8.C hb, N8.h⟩, ⟨E0.out, Kd.C_below N9.C hb, N9.h⟩, hb⟩
 clear p0 p1 q0 q1
 obtain ⟨g12, g13, rfl, rfl, n23, le12, le13, N12, N13, hb⟩ := hcut
 have b8 : w1.heap.size + 1 < W.heap.size := blk_lt N9.B
 replace HB := fB HB hb
 replace N8 := N8.on hb
 replace N9 := N9.on hb
 clear hb
 go_wp2_with ((with_reducible refine gd_ 52 rfl ?_); refine litR (Kd.int .i64) [1] [.int .i64 1] (Kd.reps_scalar [1]) ?_; intro v3 w3 hb HO; obtain ⟨X3, c3, rfl, hc3, C3⟩ := Kd.R_reads HO.out; replace HB := fB HB hb; replace N8 := N8.on hb; replace N9 := N9.on hb; replace N12 := N12.on hb; replace N13 := N13.on hb; clear hb HO)
 refine al2 ?_
 intro W4 hb E0 E1
 have m1 : mag 1 = [1] := mag_one (by decide) (by decide)
 have N14 : NB W4 w3.heap.size false 1 X3 c3 := ⟨by rw [m1]; exact E0.out, by rw [m1]; exact Kd.C_below C3 hb, by rw [m1]; exact hc3⟩
 have N15 : NB W4 (w3.heap.size + 1) false 0 none 0 := ⟨by rw [mag_zero]; exact E1.out, by rw [mag_zero]; exact Kd.C_nil _ _, by rw [mag_zero]; exact Nat.le_refl _⟩
 have b12 := blk_lt N12.B
 have b13 := blk_lt N13.B
 replace HB := fB HB hb
 replace N8 := N8.on hb
 replace N9 := N9.on hb
 replace N12 := N12.on hb
 replace N13 := N13.on hb
 clear hb E0 E1 C3 hc3 m1
 generalize hg14 : w3.heap.size = g14 at *
 generalize hg8 : w1.heap.size = g8 at *
 clear hg14 hg8
 go_loopg [16] (n.natAbs + 1) (fun kq v16 wr => ∃ (br bs bb bn : Bool) (R S P Q : Nat) (Ar As Ab An : Option Addr) (cr cs cb cn : Nat), NB wr g8 (decide (m < 0)) m.natAbs X0 c0 ∧ NB wr (g8 + 1) (decide (n < 0)) n.natAbs X1 c1 ∧ NB wr g12 br R Ar cr ∧ NB wr g13 bs S As cs ∧ NB wr g14 bb P Ab cb ∧ NB wr (g14 + 1) bn Q An cn ∧ Euc m.natAbs n.natAbs (sv br R) (sv bs S) (sv bb P) (sv bn Q) ∧ S < kq ∧ Z0 (Below w.heap.size w wr))
 case atStart => exact ⟨_, _, _, _, _, _, _, _, _, _, _, _, _, _, _, _, N8, N9, N12, N13, N14, N15, Euc.init _ _, by omega, HB⟩
 clear N8 N9 N12 N13 N14 N15 HB
 obtain ⟨br, bs, bb, bn, R, S, P, Q, Ar, As, Ab, An, cr, cs, cb, cn, N8, N9, N12, N13, N14, N15, EU, hS, HB⟩ := hrel
 have hR := hlen R (by have := EU.rX; have := EU.r0; have := sv_abs br R; omega)
 have hSl := hlen S (by have := EU.sX; have := EU.s0; have := sv_abs bs S; omega)
 have hP := hlen P (by have := EU.pY; have := sv_abs bb P; omega)
 have hQ := hlen Q (by have := EU.qY; have := sv_abs bn Q; omega)
 cases gk with
 | zero => omega
 | succ k1 =>
 obtain ⟨s0, s1, -, -⟩ := N13.cells
 by_cases hs : S = 0
 · subst hs
   have s2 : sv bs 0 = 0 := by unfold sv; split <;> rfl
   rw [s2] at EU
   rw [mag_zero] at s1
   go_upto_region 13 with (fail)
   have hRg : Z0 (R = Int.gcd m n) := ⟨by
    have h1 := EU.g
    have h2 := sv_abs br R
    rw [Int.gcd_zero_right, h2] at h1
    exact h1⟩
   have hR0 : 0 < R := by rw [hRg.out]; exact Int.gcd_pos_of_ne_zero_right _ h1
   have hRn : R ≤ n.natAbs := by rw [hRg.out]; exact Nat.gcd_le_right _ (by omega)
   have hZ0 : 0 < n.natAbs / R := Nat.div_pos hRn hR0
   have hZl := hlen (n.natAbs / R) (by have := Nat.div_le_self n.natAbs R; omega)
   obtain ⟨kd, Ed⟩ := (bi_divide n.natAbs R hR0 (by omega) (by omega)).as
   obtain ⟨b14, hb14⟩ : ∃ b14 : Bool, Z0 (b14 = (if m < 0 then !bb else bb)) := ⟨_, ⟨rfl⟩⟩
   have hsR : Z0 (sv br R = (R : Int)) := ⟨by have := EU.r0; have := sv_abs br R; omega⟩
   have hd14 : Z0 ((n.natAbs : Int) ∣ sv b14 P * m - R) := ⟨by
    have h := EU.d1
    rw [hsR.out] at h
    have e : sv b14 P * m = sv bb P * (m.natAbs : Int) := by
     rw [hb14.out]
     by_cases hm0 : m < 0
     · rw [if_pos hm0, sv_not, Int.ofNat_natAbs_of_nonpos (by omega), Int.neg_mul, Int.mul_neg]
     · rw [if_neg hm0, Int.natAbs_of_nonneg (by omega)]
    rw [e]; exact h⟩
   obtain ⟨bw, Kw, bu, U, Eu, -, hU, -, hUlt⟩ := bi_quotient b14 P false (n.natAbs / R) hZ0 (by omega) (by omega)
   obtain ⟨ku, Eu⟩ := Eu.as
   replace hU := Z0.mk hU
   have hUl := hlen U (by have := Nat.div_le_self n.natAbs R; omega)
   obtain ⟨k5, E5⟩ := (bi_product (decide (m < 0)) m.natAbs bu U (by omega) (by omega)).as
   have hmU := mag_mul_len2 m.natAbs U
   obtain ⟨b6, V6, E6, h6⟩ := bi_sum br R (!(decide (m < 0) != bu)) (m.natAbs * U) (by omega) (by omega)
   obtain ⟨k6, E6⟩ := E6.as
   have hV6 : (mag V6).length ≤ 1000 := by
    have e1 := mag_add_len R (m.natAbs * U) 802 (by omega) (by omega)
    have e2 : V6 ≤ R + m.natAbs * U := by
     have := sv_abs b6 V6
     have := sv_abs br R
     have := sv_abs (!(decide (m < 0) != bu)) (m.natAbs * U)
     omega
    have := mag_mono e2
    omega
   obtain ⟨bv, V, b7, V7, E7, h7, -, hV, -⟩ := bi_quotient b6 V6 (decide (n < 0)) n.natAbs (by omega) (by omega) (by omega)
   obtain ⟨k7, E7⟩ := E7.as
   replace h6 := Z0.mk h6
   replace h7 := Z0.mk h7
   have hVl := Nat.le_trans (mag_mono hV) (mag_add_len V6 1 1000 hV6 (by rw [mag_one (by decide) (by decide)]; decide))
   obtain ⟨p0, p1, -, -⟩ := N8.cells
   obtain ⟨p4, p5, s4, s5⟩ := N14.cells
   go_upto_if 75 with (fail)
   go_cut [] (fun wc => NB wc g8 (decide (m < 0)) m.natAbs X0 c0 ∧ NB wc (g8 + 1) (decide (n < 0)) n.natAbs X1 c1 ∧ NB wc g12 br R Ar cr ∧ NB wc g14 b14 P Ab cb ∧ Z0 (Below w.heap.size w wc))
   case first =>
    by_cases hm0 : m < 0
    · have em : decide (m < 0) = true := decide_eq_true hm0
      replace hb14 := Z0.mk (hb14.out.trans (if_pos hm0))
      go_wp2_with (refine cG rfl ?_; intro w' hb; replace N8 := N8.on hb; replace N9 := N9.on hb; replace N12 := N12.on hb; replace N14 := N14.on hb; replace HB := fB HB hb; clear hb p0 p1 p4 p5 s4 s5; obtain ⟨p4, p5, s4, s5⟩ := N14.cells)
      go_meet
      case rel => exact ⟨N8.far N14 (by omega) _ _, N9.far N14 (by omega) _ _, N12.far N14 (by omega) _ _, by rw [hb14.out]; exact N14.put N14.C N14.h, bs2 HB (show w.heap.size ≤ g14 by omega) _ _⟩
    · have em : decide (m < 0) = false := decide_eq_false hm0
      replace hb14 := Z0.mk (hb14.out.trans (if_neg hm0))
      go_wp2
      go_meet
      case rel => exact ⟨N8, N9, N12, by rw [hb14.out]; exact N14, HB⟩
   case rest =>
     clear p0 p1 p4 p5 s4 s5 N8 N9 N12 N14 HB
     obtain ⟨N8, N9, N12, N14, HB⟩ := hcut
     obtain ⟨p0, p1, -, -⟩ := N9.cells
     obtain ⟨p2, p3, -, -⟩ := N12.cells
     have D9 := N9.C
     have D12 := N12.C
     have d9 := N9.h
     have d12 := N12.h
     go_upto_region 16 with (refine cX rfl ?_; rintro _ w21 ⟨A21, c21, _, _, rfl, C21, hc21, -, -, hb⟩; refine ⟨_, rfl, ?_⟩; replace N8 := N8.on hb; replace N9 := N9.on hb; replace N12 := N12.on hb; replace N14 := N14.on hb; replace HB := fB HB hb; clear hb)
     clear p0 p1 p2 p3 D9 D12 d9 d12
     obtain ⟨p4, p5, -, -⟩ := N14.cells
     have D14 := N14.C
     have d14 := N14.h
     go_upto_region 17 with (refine cX rfl ?_; rintro _ w22 ⟨A22, c22, A23, c23, rfl, C22, hc22, C23, hc23, hb⟩; refine ⟨_, rfl, ?_⟩; replace N8 := N8.on hb; replace N9 := N9.on hb; replace N12 := N12.on hb; replace HB := fB HB hb; clear hb)
     clear p4 p5 D14 d14 N14 C21 hc21
     refine al2 ?_
     intro W23 hb E0 E1
     have N21 : NB W23 (w22.heap.size + 1) bu U A23 c23 := ⟨E1.out, Kd.C_below C23 hb, hc23⟩
     have x8 := blk_lt N8.B
     have x9 := blk_lt N9.B
     have x12 := blk_lt N12.B
     replace N8 := N8.on hb
     replace N9 := N9.on hb
     replace N12 := N12.on hb
     replace HB := fB HB hb
     clear hb E0 E1 C22 C23 hc22 hc23
     generalize w22.heap.size + 1 = g21 at *
     go_wp2
     have hd := (Below.refl W23.heap.size W23).drew
     obtain ⟨p0, p1, -, -⟩ := N8.cells
     obtain ⟨p2, p3, -, -⟩ := N9.cells
     obtain ⟨p4, p5, -, -⟩ := N12.cells
     obtain ⟨p6, p7, -, -⟩ := N21.cells
     go_cut [22] (fun v22 wc => ∃ g22 A c, v22 = .pointer (some ⟨g22, 0, none⟩) ∧ NB wc g22 bv V A c ∧ NB wc g12 br R Ar cr ∧ NB wc g21 bu U A23 c23 ∧ Z0 (Below w.heap.size w wc))
     case first =>
      have hBon : ∀ u u', (NB u g8 (decide (m < 0)) m.natAbs X0 c0 ∧ NB u (g8 + 1) (decide (n < 0)) n.natAbs X1 c1 ∧ NB u g12 br R Ar cr ∧ NB u g21 bu U A23 c23 ∧ Below w.heap.size w u) → Below u.heap.size u u' → (NB u' g8 (decide (m < 0)) m.natAbs X0 c0 ∧ NB u' (g8 + 1) (decide (n < 0)) n.natAbs X1 c1 ∧ NB u' g12 br R Ar cr ∧ NB u' g21 bu U A23 c23 ∧ Below w.heap.size w u') := fun u u' h hb => ⟨h.1.on hb, h.2.1.on hb, h.2.2.1.on hb, h.2.2.2.1.on hb, below_step h.2.2.2.2 hb⟩
      replace N8 := N8.on hd
      replace N9 := N9.on hd
      replace N12 := N12.on hd
      replace N21 := N21.on hd
      replace HB := fB HB hd
      have y12 := blk_lt N12.B
      have y21 := blk_lt N21.B
      have yw := below_size HB.out
      refine start_ (n := 15) (S := fun w' => (w'.cell? ⟨g12, 0, none⟩ = some (.bool br) ∧ w'.cell? ⟨g12, 1, none⟩ = some (.slice Ar (mag R).length cr)) ∧ (w'.cell? ⟨g8, 0, none⟩ = some (.bool (decide (m < 0))) ∧ w'.cell? ⟨g8, 1, none⟩ = some (.slice X0 (mag m.natAbs).length c0)) ∧ (w'.cell? ⟨g21, 0, none⟩ = some (.bool bu) ∧ w'.cell? ⟨g21, 1, none⟩ = some (.slice A23 (mag U).length c23)) ∧ w'.cell? ⟨g8 + 1, 0, none⟩ = some (.bool (decide (n < 0))) ∧ w'.cell? ⟨g8 + 1, 1, none⟩ = some (.slice X1 (mag n.natAbs).length c1)) (ds := [13, 14]) _ (by kernel_rfl) rfl rfl ⟨⟨N12.cells.1, N12.cells.2.1⟩, ⟨N8.cells.1, N8.cells.2.1⟩, ⟨N21.cells.1, N21.cells.2.1⟩, N9.cells.1, N9.cells.2.1⟩ (fun hHeld => ?_)
      refine tk 0 94 (by exact hHeld) ?_
      refine tk 1 95 (by exact hHeld) ?_
      refine tk 2 96 (by exact hHeld) ?_
      refine tk 6 100 (by exact hHeld) ?_
      clear hHeld p0 p1 p2 p3 p4 p5 p6 p7
      obtain ⟨S_, hS_⟩ : ∃ S_ : World → Prop, S_ = (fun w' => (w'.cell? ⟨g12, 0, none⟩ = some (.bool br) ∧ w'.cell? ⟨g12, 1, none⟩ = some (.slice Ar (mag R).length cr)) ∧ (w'.cell? ⟨g8, 0, none⟩ = some (.bool (decide (m < 0))) ∧ w'.cell? ⟨g8, 1, none⟩ = some (.slice X0 (mag m.natAbs).length c0)) ∧ (w'.cell? ⟨g21, 0, none⟩ = some (.bool bu) ∧ w'.cell? ⟨g21, 1, none⟩ = some (.slice A23 (mag U).length c23)) ∧ w'.cell? ⟨g8 + 1, 0, none⟩ = some (.bool (decide (n < 0))) ∧ w'.cell? ⟨g8 + 1, 1, none⟩ = some (.slice X1 (mag n.natAbs).length c1)) := ⟨_, rfl⟩
      have hBS : ∀ u, (NB u g8 (decide (m < 0)) m.natAbs X0 c0 ∧ NB u (g8 + 1) (decide (n < 0)) n.natAbs X1 c1 ∧ NB u g12 br R Ar cr ∧ NB u g21 bu U A23 c23 ∧ Below w.heap.size w u) → S_ u := fun u h => by rw [hS_]; exact ⟨⟨h.2.2.1.cells.1, h.2.2.1.cells.2.1⟩, ⟨h.1.cells.1, h.1.cells.2.1⟩, ⟨h.2.2.2.1.cells.1, h.2.2.2.1.cells.2.1⟩, h.2.1.cells.1, h.2.1.cells.2.1⟩
      rw [← hS_]
      clear hS_
      refine pend2s 22 23 _ (fun b c => #[true, true, true, false, false, false, true, false, false, false, false, b, c, false, false]) (n := 8) (n0 := W23.drew.heap.size) (ob := .cells #[.bool false, .slice none 0 0] 122) (b := false) (c := false) 3 11 12 (AF2.start (Nat.le_refl _)) ⟨N8, N9, N12, N21, HB.out⟩ (fun b3 c3 x3 y3 w3 hAF hB3 => ?_) hBon hBS
      clear N8 N9 N12 N21 HB
      obtain ⟨N8, N9, N12, N21, HB⟩ := id hB3
      refine pcl 3 97 ⟨_, Tryz.func103, by kernel_rfl, rfl⟩ (bIproduct.calls k5 _ _ _ (mag m.natAbs) bu _ _ (mag U) _ _ _ N8.C N8.h N21.C N21.h E5.out) ?_
      rintro _ wa ⟨va, rfl, ho, hb⟩
      obtain ⟨Aa, ca, rfl, hca, Ca⟩ := Kd.R_reads ho
      replace hB3 := hBon _ _ hB3 hb
      replace hAF := hAF.on hb
      refine ⟨_, rfl, hBS _ hB3, ?_⟩
      clear N8 N9 N12 N21 HB hb ho
      have hBon4 := fun u u' (h : _ ∧ Kd.C (Kd.int .i64) u Aa (mag (m.natAbs * U)).length (mag (m.natAbs * U))) (hb : Below u.heap.size u u') => And.intro (hBon u u' h.1 hb) (Kd.C_below h.2 hb)
      simp only [Act.put, List.setIfInBounds_toArray, List.set_cons_zero, List.set_cons_succ]
      refine pend2s 22 23 _ (fun b c => #[true, true, true, true, false, false, true, false, false, false, false, b, c, false, false]) (n := 7) (b := b3) (c := c3) 4 11 12 hAF ⟨hB3, Ca⟩ (fun b4 c4 x4 y4 w4 hAF4 hB4 => ?_) hBon4 (fun u h => hBS u h.1)
      clear hAF hB3 Ca
      refine pcl 4 98 ⟨_, Tryz.func102, by kernel_rfl, rfl⟩ (neg_ok _ Aa _ ca _) ?_
      rintro _ wb ⟨rfl, hb⟩
      replace hB4 := hBon4 _ _ hB4 hb
      replace hAF4 := hAF4.on hb
      refine ⟨_, rfl, hBS _ hB4.1, ?_⟩
      clear hb
      simp only [Act.put, List.setIfInBounds_toArray, List.set_cons_zero, List.set_cons_succ]
      refine pend2s 22 23 _ (fun b c => #[true, true, true, true, true, false, true, false, false, false, false, b, c, false, false]) (n := 6) (b := b4) (c := c4) 5 11 12 hAF4 hB4 (fun b5 c5 x5 y5 w5 hAF5 hB5 => ?_) hBon4 (fun u h => hBS u h.1)
      clear hAF4 hB4
      obtain ⟨⟨N8, N9, N12, N21, HB⟩, Ca⟩ := id hB5
      refine pcl 5 99 ⟨_, Tryz.func101, by kernel_rfl, rfl⟩ (bIsum.calls k6 br _ _ (mag R) _ _ _ (mag (m.natAbs * U)) _ _ _ N12.C N12.h Ca hca E6.out) ?_
      rintro _ wc ⟨vc, rfl, ho, hb⟩
      obtain ⟨Ac, cc, rfl, hcc, Cc⟩ := Kd.R_reads ho
      replace hB5 := hBon _ _ hB5.1 hb
      replace hAF5 := hAF5.on hb
      refine ⟨_, rfl, hBS _ hB5, ?_⟩
      clear N8 N9 N12 N21 HB Ca hb ho hBon4
      have hBon5 := fun u u' (h : _ ∧ Kd.C (Kd.int .i64) u Ac (mag V6).length (mag V6)) (hb : Below u.heap.size u u') => And.intro (hBon u u' h.1 hb) (Kd.C_below h.2 hb)
      simp only [Act.put, List.setIfInBounds_toArray, List.set_cons_zero, List.set_cons_succ]
      refine pend2s 22 23 _ (fun b c => #[true, true, true, true, true, true, true, false, false, false, false, b, c, false, false]) (n := 5) (b := b5) (c := c5) 7 11 12 hAF5 ⟨hB5, Cc⟩ (fun b6 c6 x6 y6 w6 hAF6 hB6 => ?_) hBon5 (fun u h => hBS u h.1)
      clear hAF5 hB5 Cc
      obtain ⟨⟨N8, N9, N12, N21, HB⟩, Cc⟩ := id hB6
      refine pcl 7 101 ⟨_, Tryz.func100, by kernel_rfl, rfl⟩ (quoC k7 _ _ _ (mag V6) _ _ _ (mag n.natAbs) _ _ _ _ _ Cc hcc N9.C N9.h E7.out) ?_
      rintro _ wd ⟨Ad, cd, Ae, ce, rfl, Cd, hcd, Ce, hce, hb⟩
      replace hB6 := hBon _ _ hB6.1 hb
      replace hAF6 := hAF6.on hb
      refine ⟨_, rfl, hBS _ hB6, ?_⟩
      clear N8 N9 N12 N21 HB Cc hb hBon5
      have hBon6 := fun u u' (h : (_ ∧ Kd.C (Kd.int .i64) u Ad (mag V).length (mag V)) ∧ Kd.C (Kd.int .i64) u Ae (mag V7).length (mag V7)) (hb : Below u.heap.size u u') => And.intro (And.intro (hBon u u' h.1.1 hb) (Kd.C_below h.1.2 hb)) (Kd.C_below h.2 hb)
      simp only [Act.put, List.setIfInBounds_toArray, List.set_cons_zero, List.set_cons_succ]
      rw [show 5 + pd b6 + pd c6 = 4 + pd b6 + pd c6 + 1 by omega]
      refine tk 8 93 (hBS _ hB6) ?_ (hc := by (clear hAF6; cases b6 <;> cases c6 <;> kernel_rfl))
      rw [show 4 + pd b6 + pd c6 = 3 + pd b6 + pd c6 + 1 by omega]
      refine tk 9 102 (hBS _ hB6) ?_ (hc := by (clear hAF6; cases b6 <;> cases c6 <;> kernel_rfl))
      rw [show 3 + pd b6 + pd c6 = 2 + pd b6 + pd c6 + 1 by omega]
      refine tp 10 103 ?_ (hc := by (clear hAF6; cases b6 <;> cases c6 <;> kernel_rfl))
      refine pend0s 22 23 _ (fun b c => #[true, true, true, true, true, true, true, true, true, true, true, b, c, false, false]) (n := 2) (b := b6) (c := c6) 11 12 hAF6 ⟨⟨hB6, Cd⟩, Ce⟩ (fun x y u hAFu hBu => ?_) hBon6 (fun u h => hBS u h.1.1)
      clear hAF6 hB6 Cd Ce
      obtain ⟨⟨⟨N8, N9, N12, N21, hbu⟩, Cd⟩, Ce⟩ := hBu
      obtain ⟨ga, rfl, hga, Ba⟩ := hAFu.p rfl
      obtain ⟨gb, rfl, hgb, Bb⟩ := hAFu.q rfl
      have nab : ga ≠ gb := fun e => hAFu.ne rfl rfl (by rw [e])
      have nba := nab.symm
      have Na : NB u ga false 0 none 0 := ⟨by rw [mag_zero]; exact Ba, by rw [mag_zero]; exact Kd.C_nil _ _, by rw [mag_zero]; exact Nat.le_refl _⟩
      have Nb : NB u gb false 0 none 0 := ⟨by rw [mag_zero]; exact Bb, by rw [mag_zero]; exact Kd.C_nil _ _, by rw [mag_zero]; exact Nat.le_refl _⟩
      obtain ⟨p0, p1, q0, q1⟩ := Na.cells
      obtain ⟨p2, p3, q2, q3⟩ := Nb.cells
      simp only [Act.put, List.setIfInBounds_toArray, List.set_cons_zero, List.set_cons_succ]
      refine stL 13 ?_
      refine stL 14 ?_
      refine done_ (by kernel_rfl) ?_
      go_wp2
      have Mb := Nb.far Na nba (.bool bv) (.slice Ad (mag V).length cd)
      go_meet
      case rel => exact ⟨ga, Ad, cd, rfl, (Na.put Cd hcd).far Mb nab _ _, (N12.far Na (by omega) _ _).far Mb (by omega) _ _, (N21.far Na (by omega) _ _).far Mb (by omega) _ _, bs2 (bs2 ⟨hbu⟩ (by omega) _ _) (by omega) _ _⟩
     case rest =>
      obtain ⟨g22, A, c, rfl, N22, N12, N21, HB⟩ := hcut
      clear p0 p1 p2 p3 p4 p5 p6 p7 hd
      obtain ⟨k8, E8⟩ : ∃ s, Z0 (bInumber_text.f br (mag R) = some s ∧ s = Sv.txt (Int.gcd m n)) := ⟨_, ⟨bi_text br R (by omega), by
       rw [← hRg.out]; exact congrArg Sv.txt hsR.out⟩⟩
      have E9 : Z0 (bInumber_text.f bu (mag U) = some (Sv.txt (sv bu U))) := ⟨bi_text bu U (by omega)⟩
      have E10 : Z0 (bInumber_text.f bv (mag V) = some (Sv.txt (sv bv V))) := ⟨bi_text bv V (by omega)⟩
      obtain ⟨p0, p1, -, -⟩ := N12.cells
      obtain ⟨p2, p3, -, -⟩ := N21.cells
      obtain ⟨p4, p5, -, -⟩ := N22.cells
      go_wp2
      have hd := (Below.refl wc.heap.size wc).drew
      replace N12 := N12.on hd
      replace N21 := N21.on hd
      replace N22 := N22.on hd
      replace HB := fB HB hd
      go_region_held3 (fun w' => (w'.cell? ⟨g12, 0, none⟩ = some (.bool br) ∧ w'.cell? ⟨g12, 1, none⟩ = some (.slice Ar (mag R).length cr)) ∧ (w'.cell? ⟨g21, 0, none⟩ = some (.bool bu) ∧ w'.cell? ⟨g21, 1, none⟩ = some (.slice A23 (mag U).length c23)) ∧ w'.cell? ⟨g22, 0, none⟩ = some (.bool bv) ∧ w'.cell? ⟨g22, 1, none⟩ = some (.slice A (mag V).length c))
       (exact ⟨⟨N12.cells.1, N12.cells.2.1⟩, ⟨N21.cells.1, N21.cells.2.1⟩, N22.cells.1, N22.cells.2.1⟩)
       (first
       | (go_at_call 98; (with_reducible first | refine (bInumber_text.calls br _ _ (mag R) _ _ (hL.below HB.out) N12.C N12.h E8.out.1).mono ?_ | refine (bInumber_text.calls bu _ _ (mag U) _ _ (hL.below HB.out) N21.C N21.h E9.out).mono ?_ | refine (bInumber_text.calls bv _ _ (mag V) _ _ (hL.below HB.out) N22.C N22.h E10.out).mono ?_); rintro _ w' ⟨rfl, hb'⟩; replace N12 := N12.on hb'; replace N21 := N21.on hb'; replace N22 := N22.on hb'; replace HB := fB HB hb'))
      all_goals go_wp2
      refine bodyPost_ret (results_list (rs := [.tmp 4, .tmp 5, .tmp 6, .tmp 7]) rfl (by simp) (.tmp (.tmp (.tmp (.tmp .nil))))) rfl ?_
      refine ⟨sv bu U, sv bv V, by rw [← E8.out.2]; rfl, ?_, ?_, ?_, HB.out⟩
      · have e1 : sv b6 V6 = (R : Int) - m * sv bu U := by rw [h6.out, sv_not, sv_mul, sv_of, hsR.out]; omega
        have e2 := h7.out
        rw [sv_of, e1] at e2
        rw [e2, ← hRg.out]
        refine bez_fin m n (sv b14 P) R (n.natAbs / R : Nat) (sv bu U) ?_ ?_ hd14.out (by rw [hU.out]; rfl)
        · rw [← Int.natCast_mul, Nat.mul_div_cancel' (by rw [hRg.out]; exact Nat.gcd_dvd_right _ _)]
        · rw [hRg.out]; exact Int.gcd_dvd_left ..
      · have e1 := sv_abs bu U
        have e2 : Sv.nd n ≤ 400 := hn
        rw [Sv.nd_le_iff (by decide)] at e2 ⊢
        have := Nat.div_le_self n.natAbs R
        omega
      · have e1 := sv_abs bv V
        have e2 := sv_abs b6 V6
        have e3 := sv_abs br R
        have e4 := sv_abs (!(decide (m < 0) != bu)) (m.natAbs * U)
        have e5 := h6.out
        have e6 : V ≤ R + m.natAbs * U + 1 := by omega
        have f1 : Sv.nd (sv bv V) ≤ Sv.nd ((R : Int) + (m.natAbs : Int) * U + 1) := nd_mono (by rw [e1]; omega)
        have f2 := nd_add ((R : Int) + (m.natAbs : Int) * U) 1
        have f3 := nd_add (R : Int) ((m.natAbs : Int) * U)
        have f4 := nd_mul (m.natAbs : Int) (U : Int)
        have f5 : Sv.nd (R : Int) ≤ Sv.nd n := nd_mono (by omega)
        have f6 : Sv.nd (U : Int) ≤ Sv.nd n := nd_mono (by have := Nat.div_le_self n.natAbs R; omega)
        have f7 := Sv.nd_natAbs m
        have f8 : Sv.nd 1 ≤ 1 := nd_lt10 (by decide)
        omega
 have f1 : decide (0 < ((mag S).length : Int)) = true := by have := mag_len0 S; exact decide_eq_true (by omega)
 have f2 : decide (0 < (mag S).length) = true := by have := mag_len0 S; exact decide_eq_true (by omega)
 obtain ⟨r0', r1', -, -⟩ := N12.cells
 obtain ⟨bq, K, b17, R', Eq, hq, hr, hKR, hlt⟩ := bi_quotient br R bs S (by omega) (by omega) (by omega)
 obtain ⟨kq, Eq⟩ := Eq.as
 have C12 := N12.C
 have C13 := N13.C
 have h12 := N12.h
 have h13 := N13.h
 go_upto_region 11 with ((with_reducible refine gc_ 100 rfl ?_); refine cX rfl ?_; rintro _ w5 ⟨Y0, e0, Y1, e1, rfl, D0, he0, D1, he1, hb⟩; refine ⟨_, rfl, ?_⟩; replace HB := fB HB hb; replace N8 := N8.on hb; replace N9 := N9.on hb; replace N12 := N12.on hb; replace N13 := N13.on hb; replace N14 := N14.on hb; replace N15 := N15.on hb; clear hb)
 clear C12 C13 s0 s1 r0' r1' f1 f2
 refine al2 ?_
 intro W6 hb E0 E1
 have N16 : NB W6 w5.heap.size bq K Y0 e0 := ⟨E0.out, Kd.C_below D0 hb, he0⟩
 have N17 : NB W6 (w5.heap.size + 1) b17 R' Y1 e1 := ⟨E1.out, Kd.C_below D1 hb, he1⟩
 have x12 := blk_lt N12.B
 have x13 := blk_lt N13.B
 have x14 := blk_lt N14.B
 have x15 := blk_lt N15.B
 replace HB := fB HB hb
 replace N8 := N8.on hb
 replace N9 := N9.on hb
 replace N12 := N12.on hb
 replace N13 := N13.on hb
 replace N14 := N14.on hb
 replace N15 := N15.on hb
 clear hb E0 E1 D0 D1 he0 he1 h12 h13
 generalize hg16 : w5.heap.size = g16 at *
 clear hg16
 obtain ⟨p0, p1, q0, q1⟩ := N12.cells
 obtain ⟨p2, p3, q2, q3⟩ := N13.cells
 obtain ⟨p4, p5, -, -⟩ := N17.cells
 refine start_ (n := 4) (S := fun w' => w'.cell? ⟨g13, 0, none⟩ = some (.bool bs) ∧ w'.cell? ⟨g13, 1, none⟩ = some (.slice As (mag S).length cs) ∧ w'.cell? ⟨g16 + 1, 0, none⟩ = some (.bool b17) ∧ w'.cell? ⟨g16 + 1, 1, none⟩ = some (.slice Y1 (mag R').length e1)) (ds := [3]) _ (by kernel_rfl) rfl rfl ⟨p2, p3, p4, p5⟩ (fun hHeld => ?_)
 refine tk 0 65 (by exact hHeld) ?_
 refine tk 1 66 (by exact hHeld) ?_
 have n32 : g13 ≠ g12 := n23.symm
 have n72 : g16 + 1 ≠ g12 := by omega
 refine stK 2 ?_ ?_
 · exact ⟨keep2 p2 n32, keep2 p3 n32, keep2 p4 n72, keep2 p5 n72⟩
 refine stL 3 ?_
 refine done_ (by kernel_rfl) ?_
 have M12 := N12.put (b' := bs) N13.C N13.h
 have M13 := N13.far N12 n32 (.bool bs) (.slice As (mag S).length cs)
 have M17 := N17.far N12 n72 (.bool bs) (.slice As (mag S).length cs)
 have M8 := N8.far N12 (by omega) (.bool bs) (.slice As (mag S).length cs)
 have M9 := N9.far N12 (by omega) (.bool bs) (.slice As (mag S).length cs)
 have M14 := N14.far N12 (by omega) (.bool bs) (.slice As (mag S).length cs)
 have M15 := N15.far N12 (by omega) (.bool bs) (.slice As (mag S).length cs)
 have M16 := N16.far N12 (by omega) (.bool bs) (.slice As (mag S).length cs)
 clear N8 N9 N12 N13 N14 N15 N16 N17 p0 p1 p2 p3 p4 p5 q0 q1 q2 q3 hHeld
 have N13 := M13.put (b' := b17) M17.C M17.h
 have N8 := M8.far M13 (by omega) (.bool b17) (.slice Y1 (mag R').length e1)
 have N9 := M9.far M13 (by omega) (.bool b17) (.slice Y1 (mag R').length e1)
 have N12 := M12.far M13 (by omega) (.bool b17) (.slice Y1 (mag R').length e1)
 have N14 := M14.far M13 (by omega) (.bool b17) (.slice Y1 (mag R').length e1)
 have N15 := M15.far M13 (by omega) (.bool b17) (.slice Y1 (mag R').length e1)
 have N16 := M16.far M13 (by omega) (.bool b17) (.slice Y1 (mag R').length e1)
 replace HB := bs2 (bs2 HB (show w.heap.size ≤ g12 by omega) (.bool bs) (.slice As (mag S).length cs)) (show w.heap.size ≤ g13 by omega) (.bool b17) (.slice Y1 (mag R').length e1)
 clear M8 M9 M12 M13 M14 M15 M16 M17
 generalize hW : ((((W6.setCell ⟨g12, 0, none⟩ (.bool bs)).setCell ⟨g12, 1, none⟩ (.slice As (mag S).length cs)).setCell ⟨g13, 0, none⟩ (.bool b17)).setCell ⟨g13, 1, none⟩ (.slice Y1 (mag R').length e1)) = W7 at *
 have z16 : g16 < W7.heap.size := blk_lt N16.B
 clear hW
 replace N8 := N8.on (Below.refl _ W7).drew
 replace N9 := N9.on (Below.refl _ W7).drew
 replace N12 := N12.on (Below.refl _ W7).drew
 replace N13 := N13.on (Below.refl _ W7).drew
 replace N14 := N14.on (Below.refl _ W7).drew
 replace N15 := N15.on (Below.refl _ W7).drew
 replace N16 := N16.on (Below.refl _ W7).drew
 replace HB := fB HB (Below.refl _ W7).drew
 generalize W7.drew = W8 at *
 go_wp2
 obtain ⟨p0, p1, q0, q1⟩ := N14.cells
 obtain ⟨p2, p3, q2, q3⟩ := N15.cells
 obtain ⟨p4, p5, -, -⟩ := N16.cells
 have hK := hlen K (by have := EU.rX; have := EU.r0; have := sv_abs br R; omega)
 obtain ⟨k3, E3⟩ := (bi_product bq K bn Q (by omega) (by omega)).as
 have hKQ := mag_mul_len2 K Q
 obtain ⟨b18, Q', E4, hQ'⟩ := bi_sum bb P (!(bq != bn)) (K * Q) (by omega) (by omega)
 obtain ⟨k4, E4⟩ := E4.as
 have hd := (Below.refl W8.heap.size W8).drew
 refine start_ (n := 9) (S := fun w' => (w'.cell? ⟨g14, 0, none⟩ = some (.bool bb) ∧ w'.cell? ⟨g14, 1, none⟩ = some (.slice Ab (mag P).length cb)) ∧ (w'.cell? ⟨g14 + 1, 0, none⟩ = some (.bool bn) ∧ w'.cell? ⟨g14 + 1, 1, none⟩ = some (.slice An (mag Q).length cn)) ∧ w'.cell? ⟨g16, 0, none⟩ = some (.bool bq) ∧ w'.cell? ⟨g16, 1, none⟩ = some (.slice Y0 (mag K).length e0)) (ds := [7, 8]) _ (by kernel_rfl) rfl rfl ⟨⟨p0, p1⟩, ⟨p2, p3⟩, p4, p5⟩ (fun hHeld => ?_)
 refine tk 0 67 (by exact hHeld) ?_
 refine tk 1 68 (by exact hHeld) ?_
 refine tk 2 69 (by exact hHeld) ?_
 refine tk 3 70 (by exact hHeld) ?_
 clear hHeld
 replace N8 := N8.on hd
 replace N9 := N9.on hd
 replace N12 := N12.on hd
 replace N13 := N13.on hd
 replace N14 := N14.on hd
 replace N15 := N15.on hd
 replace N16 := N16.on hd
 replace HB := fB HB hd
 refine cl 4 71 ⟨_, Tryz.func103, by kernel_rfl, rfl⟩ (bIproduct.calls k3 bq _ _ (mag K) bn _ _ (mag Q) _ _ _ N16.C N16.h N15.C N15.h E3.out) ?_
 rintro _ w9 ⟨v9, rfl, ho, hb⟩
 obtain ⟨A9, c9, rfl, hc9, C9⟩ := Kd.R_reads ho
 replace N8 := N8.on hb
 replace N9 := N9.on hb
 replace N12 := N12.on hb
 replace N13 := N13.on hb
 replace N14 := N14.on hb
 replace N15 := N15.on hb
 replace N16 := N16.on hb
 replace HB := fB HB hb
 refine ⟨_, rfl, ⟨⟨N14.cells.1, N14.cells.2.1⟩, ⟨N15.cells.1, N15.cells.2.1⟩, N16.cells.1, N16.cells.2.1⟩, _, (by (simp only [Act.put, List.setIfInBounds_toArray, List.set_cons_zero, List.set_cons_succ]); rfl), ?_⟩
 refine cl 5 72 ⟨_, Tryz.func102, by kernel_rfl, rfl⟩ (neg_ok (bq != bn) A9 (mag (K * Q)).length c9 _) ?_
 rintro _ w10 ⟨rfl, hb⟩
 replace C9 := Kd.C_below C9 hb
 replace N8 := N8.on hb
 replace N9 := N9.on hb
 replace N12 := N12.on hb
 replace N13 := N13.on hb
 replace N14 := N14.on hb
 replace N15 := N15.on hb
 replace N16 := N16.on hb
 replace HB := fB HB hb
 refine ⟨_, rfl, ⟨⟨N14.cells.1, N14.cells.2.1⟩, ⟨N15.cells.1, N15.cells.2.1⟩, N16.cells.1, N16.cells.2.1⟩, _, (by (simp only [Act.put, List.setIfInBounds_toArray, List.set_cons_zero, List.set_cons_succ]); rfl), ?_⟩
 refine cl 6 73 ⟨_, Tryz.func101, by kernel_rfl, rfl⟩ (bIsum.calls k4 bb _ _ (mag P) (!(bq != bn)) _ _ (mag (K * Q)) _ _ _ N14.C N14.h C9 hc9 E4.out) ?_
 rintro _ w11 ⟨v11, rfl, ho, hb⟩
 obtain ⟨A11, c11, rfl, hc11, C11⟩ := Kd.R_reads ho
 replace N8 := N8.on hb
 replace N9 := N9.on hb
 replace N12 := N12.on hb
 replace N13 := N13.on hb
 replace N14 := N14.on hb
 replace N15 := N15.on hb
 replace N16 := N16.on hb
 replace HB := fB HB hb
 refine ⟨_, rfl, ⟨⟨N14.cells.1, N14.cells.2.1⟩, ⟨N15.cells.1, N15.cells.2.1⟩, N16.cells.1, N16.cells.2.1⟩, _, (by (simp only [Act.put, List.setIfInBounds_toArray, List.set_cons_zero, List.set_cons_succ]); rfl), ?_⟩
 clear p0 p1 p2 p3 p4 p5 q0 q1 q2 q3
 obtain ⟨p0, p1, q0, q1⟩ := N14.cells
 obtain ⟨p2, p3, q2, q3⟩ := N15.cells
 have n45 : g14 ≠ g14 + 1 := by omega
 have n54 : g14 + 1 ≠ g14 := by omega
 refine stL 7 ?_
 refine stL 8 ?_
 refine done_ (by kernel_rfl) ?_
 go_wp2
 have M14 := N14.put (b' := bn) N15.C N15.h
 have M15 := N15.far N14 n54 (.bool bn) (.slice An (mag Q).length cn)
 have M8 := N8.far N14 (by omega) (.bool bn) (.slice An (mag Q).length cn)
 have M9 := N9.far N14 (by omega) (.bool bn) (.slice An (mag Q).length cn)
 have M12 := N12.far N14 (by omega) (.bool bn) (.slice An (mag Q).length cn)
 have M13 := N13.far N14 (by omega) (.bool bn) (.slice An (mag Q).length cn)
 have L15 := M15.put (b' := b18) (C_set2 (x := .bool bn) (y := .slice An (mag Q).length cn) C11 N14.B) hc11
 have EU' := EU.step (by have := EU.s0; have := sv_abs bs S; omega) _ _ hq hr
 rw [← sv_mul, ← Int.add_neg_eq_sub, ← sv_not, ← hQ'] at EU'
 go_roundg k1
 case measure => omega
 case rel => exact ⟨bs, b17, bn, b18, S, R', Q, Q', As, Y1, An, A11, cs, e1, cn, c11, M8.far M15 (by omega) _ _, M9.far M15 (by omega) _ _, M12.far M15 (by omega) _ _, M13.far M15 (by omega) _ _, M14.far M15 n45 _ _, L15, EU', by omega, bs2 (bs2 HB (by omega) _ _) (by omega) _ _⟩
end Go.Proofs.YtihbebbabjklkaaGreatDoor.PA
namespace Go.Proofs.YtihbebbabjklkaaGreatDoor.Rb
set_option linter.unusedVariables false
open Go.ChangeShapes Go.WideShapes Go.ChangeAt Go.RowKit
theorem and_ {a b : Bool} (h : a = true) (k : b = true) : (a && b) = true := by rw [h, k]; rfl
theorem own : ownKnob Tryz.prog.godebug = none := by kernel_rfl
abbrev laid : List (String × DataW Unit) := Rows.linearSubstitutesRow.laid
theorem shaped (os : Os) (args : Array Value) : ((World.laidAll Tryz.prog os laid).forCall (fun _ _ => 0) ⟨#[], args, []⟩).Shaped Tryz.checked.prog := World.shaped_of_ZipB (by kernel_rfl) (by kernel_rfl)
theorem met (os : Os) (args : Array Value) : laidMetH Tryz.prog laid ((World.laidAll Tryz.prog os laid).forCall (fun _ _ => 0) ⟨#[], args, []⟩).memory := by
 rw [MakeChecks.laidMetH_plain _ _ _ (by kernel_rfl)]
 exact laidMet_laidAll _ (by kernel_rfl) (by kernel_rfl)
theorem gPow : Tryz.prog.globalNamed "internal/strconv.uint64pow10" = some 1 := by kernel_rfl
theorem tPow : (Tryz.prog.globals[1]?).map (·.type) = some 248 := by kernel_rfl
theorem dPow : (Rows.laid_internal_strconv_uint64pow10 : DataW Unit) = Lib.tabData .u64 Lib.pow10Tab := rfl
theorem of_laid {W : World} (h : laidMetH Tryz.prog laid W) : LaidW W := by
 rw [MakeChecks.laidMetH_plain _ _ _ (by kernel_rfl)] at h
 obtain ⟨_, ⟨_, _, _, _, _, _, _, _, _, _, ⟨_, _, _, _, _, _, _, _, _, _, ⟨g', t', cs, fuel, p, q, hg', ht', hvar, hd, _⟩, _⟩, _⟩, _⟩ := h
 obtain rfl := Option.some.inj (gPow.symm.trans hg')
 obtain rfl := Option.some.inj (tPow.symm.trans ht')
 unfold LaidW Lib.TabIs
 rw [hvar, ← Lib.cells_of_tab Tryz.underlying248 Tryz.underlying217 (by kernel_rfl) (by kernel_rfl) (dPow ▸ hd)]
end Go.Proofs.YtihbebbabjklkaaGreatDoor.Rb
