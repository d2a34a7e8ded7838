import Derived.Test.YthnfajboebaajaaGreatDoorAG1
import Derived.Test.YthnfajboebaajaaGreatDoorAD
import Derived.Test.YthnfajboebaajaaGreatDoorAG9
import Derived.Test.YthnfajboebaajaaGreatDoorAG10
import Derived.Test.YthnfajboebaajaaGreatDoorAG7
import Derived.Test.YthnfajboebaajaaGreatDoorRows
import Derived.ProofKit
import Derived.OpenShut
import Derived.Lay
import Derived.LaidOnce
import Derived.SevenTiedAt
set_option maxHeartbeats 8000000
set_option maxRecDepth 100000
set_option linter.unusedVariables false
namespace Go.Proofs.YthnfajboebaajaaGreatDoor.PA
open Go.RowKit Go.Proofs.YthnfajboebaajaaGreatDoorW.PrintWords Go.Proofs.YthnfajboebaajaaGreatDoorW.PrintLast Go.Proofs.YthnfajboebaajaaGreatDoorW.PrintMore
attribute [local go_sem] max2_int min2_int max_two min_two max_three min_three max_four min_four
set_option linter.unusedVariables false
set_option linter.unusedSimpArgs false
theorem rFOf.calls (k : Nat) (a0 : ByteArray) (a1 : ByteArray) (r1 : ByteArray) (r2 : Int) (w : World) (h : rFOf.f k a0 a1 = some (r1, r2)) :
  Calls Tryz.prog 31 #[.string a0, .string a1] w fun e w' => e = .returned (.tuple #[.string r1, .int .i64 r2]) ∧ Below w.heap.size w w' := by
 have HB := Aside0.mk (Below.refl w.heap.size w)
 have H := h
 clear h
 unfold rFOf.f at H
 obtain ⟨t708, A3, H⟩ := bnd H
 rcases je H with ⟨-, c4b0, c4b1, H⟩ | ⟨c4, c4b0, c4b1, H⟩
 ·obtain ⟨t709, A5, H⟩ := bnd H
  rcases je H with ⟨-, c6b0, c6b1, H⟩ | ⟨c6, c6b0, c6b1, H⟩
  ·rcases je H with ⟨-, c7b0, c7b1, H⟩ | ⟨c7, c7b0, c7b1, H⟩
   ·simp only [Option.some.injEq, Prod.mk.injEq] at H
    obtain ⟨rfl, rfl⟩ := H
    go_enter Tryz.func31, Tryz.ntmps31
    go_wp2_with (first | ((with_reducible refine gc_ 36 rfl ?_); refine goD (some 9) Tryz.func36 #[.string a0] (rECheck.calls k a0 t708 _ A3.out) ?_; intro nd) | ((with_reducible refine gc_ 36 rfl ?_); refine goD (some 14) Tryz.func36 #[.string a1] (rECheck.calls k a1 t709 _ A5.out) ?_; intro nd))
    go_ret2
    exact finE
   obtain ⟨t710, A8, H⟩ := bnd H
   simp only [Option.some.injEq, Prod.mk.injEq] at H
   obtain ⟨rfl, rfl⟩ := H
   go_enter Tryz.func31, Tryz.ntmps31
   go_wp2_with (first | ((with_reducible refine gc_ 36 rfl ?_); refine goD (some 9) Tryz.func36 #[.string a0] (rECheck.calls k a0 t708 _ A3.out) ?_; intro nd) | ((with_reducible refine gc_ 36 rfl ?_); refine goD (some 14) Tryz.func36 #[.string a1] (rECheck.calls k a1 t709 _ A5.out) ?_; intro nd) | ((with_reducible refine gc_ 85 rfl ?_); refine goB (some 22) Tryz.func85 #[.string a0, .string a1] bq (rFFrac.calls k a0 a1 t710 _ A8.out) ?_; clear HB; intro w9 HB))
   go_ret2
   exact finE
  simp only [Option.some.injEq, Prod.mk.injEq] at H
  obtain ⟨rfl, rfl⟩ := H
  go_enter Tryz.func31, Tryz.ntmps31
  go_wp2_with (first | ((with_reducible refine gc_ 36 rfl ?_); refine goD (some 9) Tryz.func36 #[.string a0] (rECheck.calls k a0 t708 _ A3.out) ?_; intro nd) | ((with_reducible refine gc_ 36 rfl ?_); refine goD (some 14) Tryz.func36 #[.string a1] (rECheck.calls k a1 t709 _ A5.out) ?_; intro nd))
  go_ret2
  exact finE
 simp only [Option.some.injEq, Prod.mk.injEq] at H
 obtain ⟨rfl, rfl⟩ := H
 go_enter Tryz.func31, Tryz.ntmps31
 go_wp2_with (first | ((with_reducible refine gc_ 36 rfl ?_); refine goD (some 9) Tryz.func36 #[.string a0] (rECheck.calls k a0 t708 _ A3.out) ?_; intro nd))
 go_ret2
 exact finE
theorem lWRationalMakes.calls (k : Nat) (a0 : ByteArray) (a1 : ByteArray) (r : Bool) (w : World) (hL : LaidW w) (h : lWRationalMakes.f k a0 a1 = some r) :
  Calls Tryz.prog 4 #[.string a0, .string a1] w fun e w' => e = .returned (.bool r) ∧ Below w.heap.size w w' := by
 have HB := Aside0.mk (Below.refl w.heap.size w)
 have H := h
 clear h
 unfold lWRationalMakes.f at H
 have HC3 := Aside0.mk H
 clear H
 go_enter Tryz.func4, Tryz.ntmps4
 go_upto_region 1 with (fail)
 go_cut [16] (fun v16 wc => ∃ (kq : Nat) (x16_2 : Bool), v16 = .bool x16_2 ∧ Aside0 (lWRationalMakes.j0 kq a0 a1 x16_2 = some r) ∧ Aside0 (kq ≤ k) ∧ Aside0 (Below w.heap.size w wc))
 case first =>
  have H := HC3.out
  clear HC3
  rcases jg H with ⟨c4, c4b0, H⟩ | ⟨c4, c4b0, H⟩
  ·have c4b1 : decide (300 < a0.size) = true := decide_eq_true (by omega)
   clear c4
   (first | rw [c4b0] | (simp only [i64_w, i32_w]; rw [c4b0]) | skip)
   have H' := Aside0.mk H
   clear H
   go_wp2
   go_meet
   case rel => exact ⟨_, (true), fs, H', ⟨by first | omega | exact Nat.le_refl _⟩, ⟨bqs⟩⟩
  have c4b1 : decide (300 < a0.size) = false := decide_eq_false (by omega)
  clear c4
  (first | rw [c4b0] | (simp only [i64_w, i32_w]; rw [c4b0]) | skip)
  have H' := Aside0.mk H
  clear H
  go_wp2
  go_meet
  case rel => exact ⟨_, (decide ((a1.size : Int) > 300)), fs, H', ⟨by first | omega | exact Nat.le_refl _⟩, ⟨bqs⟩⟩
 case rest =>
  clear HC3
  try clear p2
  try clear c4
  try clear c4b0
  try clear c4b1
  obtain ⟨kq, x16_2, rfl, HA, HJ2, HB⟩ := hcut
  cases kq with
  | zero => exact absurd HA.out (by simp [lWRationalMakes.j0])
  | succ kj2 =>
   have H := HA.out
   clear HA
   simp only [lWRationalMakes.j0] at H
   by_cases c5 : x16_2 = true
   ·subst c5
    have H1 : ((lWawake.f kj2).bind fun t711 => (some t711)) = some r := by rw [if_pos rfl] at H; exact H
    clear H
    have H := H1
    clear H1
    obtain ⟨t711, A6, H⟩ := bnd H
    obtain rfl := Option.some.inj H
    go_wp2_with (first | ((with_reducible refine gc_ 17 rfl ?_); refine goB (some 17) Tryz.func17 #[] bq (lWawake.calls kj2  t711 _ (hL.below bq) A6.out) ?_; clear HB; intro w7 HB))
    go_ret
    exact finE
   replace c5 := Bool.eq_false_iff.mpr c5
   subst c5
   have H1 : ((rAOf.f kj2 a0 a1).bind fun bt712 => ((rFOf.f kj2 a0 a1).bind fun bt714 => ((lWawake.f kj2).bind fun t716 => (if t716 = true then (if bt712.1.toList = bt714.1.toList then (some (bt712.2 == bt714.2)) else (some false)) else (some false))))) = some r := by rw [if_neg (show ¬ (false = true) by decide)] at H; exact H
   clear H
   have H := H1
   clear H1
   obtain ⟨⟨t712, t713⟩, A8, H⟩ := bnd H
   try dsimp only at H
   obtain ⟨⟨t714, t715⟩, A9, H⟩ := bnd H
   try dsimp only at H
   obtain ⟨t716, A10, H⟩ := bnd H
   by_cases c11 : t716 = true
   ·subst c11
    have H1 : (if t712.toList = t714.toList then (some (t713 == t715)) else (some false)) = some r := by rw [if_pos rfl] at H; exact H
    clear H
    have H := H1
    clear H1
    rcases je H with ⟨-, c12b0, c12b1, H⟩ | ⟨c12, c12b0, c12b1, H⟩
    ·obtain rfl := Option.some.inj H
     go_wp2_with (first | ((with_reducible refine gc_ 30 rfl ?_); refine goB (some 21) Tryz.func30 #[.string a0, .string a1] bq (rAOf.calls kj2 a0 a1 t712 t713 _ (hL.below bq) A8.out) ?_; clear HB; intro w13 HB) | ((with_reducible refine gc_ 31 rfl ?_); refine goB (some 27) Tryz.func31 #[.string a0, .string a1] bq (rFOf.calls kj2 a0 a1 t714 t715 _ A9.out) ?_; clear HB; intro w14 HB) | ((with_reducible refine gc_ 17 rfl ?_); refine goB (some 30) Tryz.func17 #[] bq (lWawake.calls kj2  true _ (hL.below bq) A10.out) ?_; clear HB; intro w15 HB))
     go_ret
     exact finE
    obtain rfl := Option.some.inj H
    go_wp2_with (first | ((with_reducible refine gc_ 30 rfl ?_); refine goB (some 21) Tryz.func30 #[.string a0, .string a1] bq (rAOf.calls kj2 a0 a1 t712 t713 _ (hL.below bq) A8.out) ?_; clear HB; intro w16 HB) | ((with_reducible refine gc_ 31 rfl ?_); refine goB (some 27) Tryz.func31 #[.string a0, .string a1] bq (rFOf.calls kj2 a0 a1 t714 t715 _ A9.out) ?_; clear HB; intro w17 HB) | ((with_reducible refine gc_ 17 rfl ?_); refine goB (some 30) Tryz.func17 #[] bq (lWawake.calls kj2  true _ (hL.below bq) A10.out) ?_; clear HB; intro w18 HB))
    go_ret
    exact finE
   replace c11 := Bool.eq_false_iff.mpr c11
   subst c11
   have H1 : (some false) = some r := by rw [if_neg (show ¬ (false = true) by decide)] at H; exact H
   clear H
   have H := H1
   clear H1
   obtain rfl := Option.some.inj H
   go_wp2_with (first | ((with_reducible refine gc_ 30 rfl ?_); refine goB (some 21) Tryz.func30 #[.string a0, .string a1] bq (rAOf.calls kj2 a0 a1 t712 t713 _ (hL.below bq) A8.out) ?_; clear HB; intro w19 HB) | ((with_reducible refine gc_ 31 rfl ?_); refine goB (some 27) Tryz.func31 #[.string a0, .string a1] bq (rFOf.calls kj2 a0 a1 t714 t715 _ A9.out) ?_; clear HB; intro w20 HB) | ((with_reducible refine gc_ 17 rfl ?_); refine goB (some 30) Tryz.func17 #[] bq (lWawake.calls kj2  false _ (hL.below bq) A10.out) ?_; clear HB; intro w21 HB))
   go_ret
   exact finE
end Go.Proofs.YthnfajboebaajaaGreatDoor.PA
namespace Go.Proofs.YthnfajboebaajaaGreatDoor.Rb
open Go.ChangeShapes Go.WideShapes Go.ChangeAt Go.RowKit
theorem and_ {a b : Bool} (h : a = true) (k : b = true) : (a && b) = true := by rw [h, k]; rfl
theorem own : ownKnob Tryz.prog.godebug = none := by kernel_rfl
abbrev laid : List (String × DataW Unit) := Rows.rationalMakesRow.laid
theorem shaped (os : Os) (args : Array Value) : ((World.laidAll Tryz.prog os laid).forCall (fun _ _ => 0) ⟨#[], args, []⟩).Shaped Tryz.checked.prog := World.shaped_of_ZipB (by kernel_rfl) (by kernel_rfl)
theorem met (os : Os) (args : Array Value) : laidMetH Tryz.prog laid ((World.laidAll Tryz.prog os laid).forCall (fun _ _ => 0) ⟨#[], args, []⟩).memory := by
 rw [MakeChecks.laidMetH_plain _ _ _ (by kernel_rfl)]
 exact laidMet_laidAll _ (by kernel_rfl) (by kernel_rfl)
theorem gPow : Tryz.prog.globalNamed "internal/strconv.uint64pow10" = some 1 := by kernel_rfl
theorem tPow : (Tryz.prog.globals[1]?).map (·.type) = some 206 := by kernel_rfl
theorem dPow : (Rows.laid_internal_strconv_uint64pow10 : DataW Unit) = Lib.tabData .u64 Lib.pow10Tab := rfl
theorem of_laid {W : World} (h : laidMetH Tryz.prog laid W) : LaidW W := by
 rw [MakeChecks.laidMetH_plain _ _ _ (by kernel_rfl)] at h
 obtain ⟨_, ⟨_, _, _, _, _, _, _, _, _, _, ⟨_, _, _, _, _, _, _, _, _, _, ⟨g', t', cs, fuel, p, q, hg', ht', hvar, hd, _⟩, _⟩, _⟩, _⟩ := h
 obtain rfl := Option.some.inj (gPow.symm.trans hg')
 obtain rfl := Option.some.inj (tPow.symm.trans ht')
 unfold LaidW Lib.TabIs
 rw [hvar, ← Lib.cells_of_tab Tryz.underlying206 Tryz.underlying182 (by kernel_rfl) (by kernel_rfl) (dPow ▸ hd)]
end Go.Proofs.YthnfajboebaajaaGreatDoor.Rb
