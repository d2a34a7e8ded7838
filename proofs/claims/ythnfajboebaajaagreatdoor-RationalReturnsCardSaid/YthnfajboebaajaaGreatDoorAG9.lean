import Derived.Test.YthnfajboebaajaaGreatDoorAG1
import Derived.Test.YthnfajboebaajaaGreatDoorAD
import Derived.Test.YthnfajboebaajaaGreatDoorAG8
import Derived.Test.YthnfajboebaajaaGreatDoorAG6
import Derived.Test.YthnfajboebaajaaGreatDoorRows
import Derived.ProofKit
import Derived.OpenShut
import Derived.Lay
import Derived.LaidOnce
import Derived.SevenTiedAt
import Derived.Test.YthnfajboebaajaaGreatDoorProg
import Derived.ChangeMaps5
import Derived.WideShapes
import Derived.ChangeReads
import Derived.Lib.SmallJoins
set_option maxHeartbeats 8000000
set_option maxRecDepth 100000
set_option linter.unusedVariables false
namespace Go.Proofs.YthnfajboebaajaaGreatDoor.PA
set_option linter.unusedVariables false
open Go.RowKit Go.Proofs.WWords Go.Proofs.WLast Go.Proofs.WMore
attribute [local go_sem] max2_int min2_int max_two min_two max_three min_three max_four min_four
set_option linter.unusedSimpArgs false
theorem lWawake.calls (k : Nat)  (r : Bool) (w : World) (hL : LaidW w) (h : lWawake.f k  = some r) :
  Calls Tryz.prog 17 #[] w fun e w' => e = .returned (.bool r) ∧ Below w.heap.size w w' := by
 have HB := Z0.mk (Below.refl w.heap.size w)
 have H := h
 clear h
 unfold lWawake.f at H
 obtain ⟨⟨t415, t416⟩, A1, H⟩ := bnd H
 try dsimp only at H
 obtain ⟨⟨t417, t418⟩, A2, H⟩ := bnd H
 try dsimp only at H
 obtain ⟨⟨t419, t420⟩, A3, H⟩ := bnd H
 try dsimp only at H
 obtain ⟨⟨t421, t422⟩, A4, H⟩ := bnd H
 try dsimp only at H
 obtain ⟨⟨t423, t424⟩, A5, H⟩ := bnd H
 try dsimp only at H
 have HC6 := Z0.mk H
 clear H
 go_enter Tryz.func17, Tryz.ntmps17
 go_upto_region 6 with (first | ((with_reducible refine gc_ 30 rfl ?_); refine goB (some 17) Tryz.func30 #[.string (⟨#[54]⟩ : ByteArray), .string (⟨#[45, 52]⟩ : ByteArray)] bq (rAOf.calls k (⟨#[54]⟩ : ByteArray) (⟨#[45, 52]⟩ : ByteArray) t415 t416 _ (hL.below bq) A1.out) ?_; clear HB; intro w7 HB) | ((with_reducible refine gc_ 18 rfl ?_); refine goB (some 22) Tryz.func18 #[.string t415] bq (rANum.calls k t415 t417 t418 _ (hL.below bq) A2.out) ?_; clear HB; intro w8 HB) | ((with_reducible refine gc_ 19 rfl ?_); refine goB (some 27) Tryz.func19 #[.string t415] bq (rADen.calls k t415 t419 t420 _ (hL.below bq) A3.out) ?_; clear HB; intro w9 HB) | ((with_reducible refine gc_ 21 rfl ?_); refine goB (some 32) Tryz.func21 #[.string t415] bq (rAFloor.calls k t415 t421 t422 _ (hL.below bq) A4.out) ?_; clear HB; intro w10 HB) | ((with_reducible refine gc_ 22 rfl ?_); refine goB (some 37) Tryz.func22 #[.string t415] bq (rACeil.calls k t415 t423 t424 _ (hL.below bq) A5.out) ?_; clear HB; intro w11 HB))
 (try simp only [Act.put, List.setIfInBounds_toArray, List.set_cons_zero, List.set_cons_succ])
 go_cut [69] (fun v69 wc => ∃ (kq : Nat) (x69_5 : Bool), v69 = .bool x69_5 ∧ Z0 (lWawake.j0 kq x69_5 = some r) ∧ Z0 (kq ≤ k) ∧ Z0 (Below w.heap.size w wc))
 case first =>
  have H := HC6.out
  clear HC6
  rcases je H with ⟨-, c12b0, c12b1, H⟩ | ⟨c12, c12b0, c12b1, H⟩
  ·(first | rw [c12b0] | (simp only [i64_w, i32_w]; rw [c12b0]) | skip)
   rcases je H with ⟨-, c13b0, c13b1, H⟩ | ⟨c13, c13b0, c13b1, H⟩
   ·rcases je H with ⟨-, c14b0, c14b1, H⟩ | ⟨c14, c14b0, c14b1, H⟩
    ·rcases je H with ⟨-, c15b0, c15b1, H⟩ | ⟨c15, c15b0, c15b1, H⟩
     ·rcases je H with ⟨-, c16b0, c16b1, H⟩ | ⟨c16, c16b0, c16b1, H⟩
      ·have H' := Z0.mk H
       clear H
       go_wp2
       go_meet
       case rel => exact ⟨_, ((t423.toList != ([45, 49] : List UInt8))), fs, H', ⟨by first | omega | exact Nat.le_refl _⟩, ⟨bqs⟩⟩
      have H' := Z0.mk H
      clear H
      go_wp2
      go_meet
      case rel => exact ⟨_, (true), fs, H', ⟨by first | omega | exact Nat.le_refl _⟩, ⟨bqs⟩⟩
     have H' := Z0.mk H
     clear H
     go_wp2
     go_meet
     case rel => exact ⟨_, (true), fs, H', ⟨by first | omega | exact Nat.le_refl _⟩, ⟨bqs⟩⟩
    have H' := Z0.mk H
    clear H
    go_wp2
    go_meet
    case rel => exact ⟨_, (true), fs, H', ⟨by first | omega | exact Nat.le_refl _⟩, ⟨bqs⟩⟩
   have H' := Z0.mk H
   clear H
   go_wp2
   go_meet
   case rel => exact ⟨_, (true), fs, H', ⟨by first | omega | exact Nat.le_refl _⟩, ⟨bqs⟩⟩
  (first | rw [c12b0] | (simp only [i64_w, i32_w]; rw [c12b0]) | skip)
  have H' := Z0.mk H
  clear H
  go_wp2
  go_meet
  case rel => exact ⟨_, (true), fs, H', ⟨by first | omega | exact Nat.le_refl _⟩, ⟨bqs⟩⟩
 case rest =>
  clear HC6
  try clear c1
  try clear c2
  try clear p2
  try clear c3
  try clear p6
  try clear c12
  try clear c12b0
  try clear c12b1
  try clear c13
  try clear c13b0
  try clear c13b1
  try clear c14
  try clear c14b0
  try clear c14b1
  try clear c15
  try clear c15b0
  try clear c15b1
  try clear c16
  try clear c16b0
  try clear c16b1
  obtain ⟨kq, x69_5, rfl, HA, HJ5, HB⟩ := hcut
  cases kq with
  | zero => exact absurd HA.out (by simp [lWawake.j0])
  | succ kj5 =>
   have H := HA.out
   clear HA
   simp only [lWawake.j0] at H
   by_cases c17 : x69_5 = true
   ·subst c17
    have H1 : (some false) = some r := by rw [if_pos rfl] at H; exact H
    clear H
    have H := H1
    clear H1
    obtain rfl := Option.some.inj H
    go_wp2
    go_ret
    exact finE
   replace c17 := Bool.eq_false_iff.mpr c17
   subst c17
   have H1 : ((rAAdd.f kj5 (⟨#[49, 47, 50]⟩ : ByteArray) (⟨#[49, 47, 51]⟩ : ByteArray)).bind fun bt425 => ((rADiv.f kj5 (⟨#[49, 47, 50]⟩ : ByteArray) (⟨#[45, 51]⟩ : ByteArray)).bind fun bt427 => ((rACompare.f kj5 (⟨#[49, 47, 51]⟩ : ByteArray) (⟨#[50, 47, 53]⟩ : ByteArray)).bind fun bt429 => (if (wrap64 ((wrap64 (bt425.2 + bt427.2)) + bt429.2)) = 0 then (if bt425.1.toList = ([53, 47, 54] : List UInt8) then (if bt427.1.toList = ([45, 49, 47, 54] : List UInt8) then (lWawake.j1 kj5 (bt429.1 != (-1))) else (lWawake.j1 kj5 true)) else (lWawake.j1 kj5 true)) else (lWawake.j1 kj5 true))))) = some r := by rw [if_neg (show ¬ (false = true) by decide)] at H; exact H
   clear H
   have H := H1
   clear H1
   obtain ⟨⟨t425, t426⟩, A18, H⟩ := bnd H
   try dsimp only at H
   obtain ⟨⟨t427, t428⟩, A19, H⟩ := bnd H
   try dsimp only at H
   obtain ⟨⟨t429, t430⟩, A20, H⟩ := bnd H
   try dsimp only at H
   have HC21 := Z0.mk H
   clear H
   go_upto_region 11 with (first | ((with_reducible refine gc_ 43 rfl ?_); refine goB (some 71) Tryz.func43 #[.string (⟨#[49, 47, 50]⟩ : ByteArray), .string (⟨#[49, 47, 51]⟩ : ByteArray)] bq (rAAdd.calls kj5 (⟨#[49, 47, 50]⟩ : ByteArray) (⟨#[49, 47, 51]⟩ : ByteArray) t425 t426 _ (hL.below bq) A18.out) ?_; clear HB; intro w22 HB) | ((with_reducible refine gc_ 48 rfl ?_); refine goB (some 75) Tryz.func48 #[.string (⟨#[49, 47, 50]⟩ : ByteArray), .string (⟨#[45, 51]⟩ : ByteArray)] bq (rADiv.calls kj5 (⟨#[49, 47, 50]⟩ : ByteArray) (⟨#[45, 51]⟩ : ByteArray) t427 t428 _ (hL.below bq) A19.out) ?_; clear HB; intro w23 HB) | ((with_reducible refine gc_ 34 rfl ?_); refine goB (some 79) Tryz.func34 #[.string (⟨#[49, 47, 51]⟩ : ByteArray), .string (⟨#[50, 47, 53]⟩ : ByteArray)] bq (rACompare.calls kj5 (⟨#[49, 47, 51]⟩ : ByteArray) (⟨#[50, 47, 53]⟩ : ByteArray) t429 t430 _ (hL.below bq) A20.out) ?_; clear HB; intro w24 HB))
   (try simp only [Act.put, List.setIfInBounds_toArray, List.set_cons_zero, List.set_cons_succ])
   go_cut [99] (fun v99 wc => ∃ (kq : Nat) (x99_20 : Bool), v99 = .bool x99_20 ∧ Z0 (lWawake.j1 kq x99_20 = some r) ∧ Z0 (kq ≤ kj5) ∧ Z0 (Below w.heap.size w wc))
   case first =>
    have H := HC21.out
    clear HC21
    rcases je H with ⟨-, c25b0, c25b1, H⟩ | ⟨c25, c25b0, c25b1, H⟩
    ·(first | rw [c25b0] | (simp only [i64_w, i32_w]; rw [c25b0]) | skip)
     rcases je H with ⟨-, c26b0, c26b1, H⟩ | ⟨c26, c26b0, c26b1, H⟩
     ·rcases je H with ⟨-, c27b0, c27b1, H⟩ | ⟨c27, c27b0, c27b1, H⟩
      ·have H' := Z0.mk H
       clear H
       go_wp2
       go_meet
       case rel => exact ⟨_, ((t429 != (-1))), fs, H', ⟨by have := HJ5.out; first | omega | exact Nat.le_refl _⟩, ⟨bqs⟩⟩
      have H' := Z0.mk H
      clear H
      go_wp2
      go_meet
      case rel => exact ⟨_, (true), fs, H', ⟨by have := HJ5.out; first | omega | exact Nat.le_refl _⟩, ⟨bqs⟩⟩
     have H' := Z0.mk H
     clear H
     go_wp2
     go_meet
     case rel => exact ⟨_, (true), fs, H', ⟨by have := HJ5.out; first | omega | exact Nat.le_refl _⟩, ⟨bqs⟩⟩
    (first | rw [c25b0] | (simp only [i64_w, i32_w]; rw [c25b0]) | skip)
    have H' := Z0.mk H
    clear H
    go_wp2
    go_meet
    case rel => exact ⟨_, (true), fs, H', ⟨by have := HJ5.out; first | omega | exact Nat.le_refl _⟩, ⟨bqs⟩⟩
   case rest =>
    clear HC21
    try clear c1
    try clear c2
    try clear p2
    try clear c3
    try clear c4
    try clear p6
    try clear c12
    try clear c12b0
    try clear c12b1
    try clear c13
    try clear c13b0
    try clear c13b1
    try clear c14
    try clear c14b0
    try clear c14b1
    try clear c15
    try clear c15b0
    try clear c15b1
    try clear c16
    try clear c16b0
    try clear c16b1
    try clear c17
    try clear c18
    try clear c19
    try clear c21
    try clear c22
    try clear c25
    try clear c25b0
    try clear c25b1
    try clear c26
    try clear c26b0
    try clear c26b1
    try clear c27
    try clear c27b0
    try clear c27b1
    try clear p2
    try clear p6
    obtain ⟨kq, x99_20, rfl, HA, HJ20, HB⟩ := hcut
    cases kq with
    | zero => exact absurd HA.out (by simp [lWawake.j1])
    | succ kj20 =>
     have H := HA.out
     clear HA
     simp only [lWawake.j1] at H
     by_cases c28 : x99_20 = true
     ·subst c28
      have H1 : (some false) = some r := by rw [if_pos rfl] at H; exact H
      clear H
      have H := H1
      clear H1
      obtain rfl := Option.some.inj H
      go_wp2
      go_ret
      exact finE
     replace c28 := Bool.eq_false_iff.mpr c28
     subst c28
     have H1 : ((some (([(⟨#[50, 47, 52]⟩ : ByteArray), (⟨#[51, 47, 49]⟩ : ByteArray), (⟨#[49, 47, 45, 50]⟩ : ByteArray), (⟨#[45, 48]⟩ : ByteArray), (⟨#[49, 47, 48]⟩ : ByteArray), (⟨#[]⟩ : ByteArray)] : List ByteArray) : List ByteArray)).bind fun y431 => (lWawake.l0 kj20 y431 (y431.length : Int) 0)) = some r := by rw [if_neg (show ¬ (false = true) by decide)] at H; exact H
     clear H
     have H := H1
     clear H1
     obtain ⟨y431, Ny431, H⟩ := yb H
     have H' := Z0.mk H
     clear H
     go_wp2_with (first | ((with_reducible refine gd_ 100 rfl ?_); refine Kd.R_lit Kd.string _ 22 ?hg (N := 100) ?hd (xs := ([(⟨#[50, 47, 52]⟩ : ByteArray), (⟨#[51, 47, 49]⟩ : ByteArray), (⟨#[49, 47, 45, 50]⟩ : ByteArray), (⟨#[45, 48]⟩ : ByteArray), (⟨#[49, 47, 48]⟩ : ByteArray), (⟨#[]⟩ : ByteArray)] : List ByteArray)) (inner := [.string (⟨#[50, 47, 52]⟩ : ByteArray), .string (⟨#[51, 47, 49]⟩ : ByteArray), .string (⟨#[49, 47, 45, 50]⟩ : ByteArray), .string (⟨#[45, 48]⟩ : ByteArray), .string (⟨#[49, 47, 48]⟩ : ByteArray), .string (⟨#[]⟩ : ByteArray)]) (ok := fun _ => True) (okp := fun _ => True) ?hr ?hp (fun _ hk => hk) trivial (Below.refl _ _) (Nat.le_refl _) (by simp) ?_; (case hd => rfl); (case hg => rfl); (case hr => first | (go_simp; done) | (go_simp; rfl)); (case hp => exact (Reps.one (show Kd.M Kd.string _ _ _ (⟨#[50, 47, 52]⟩ : ByteArray) [.string (⟨#[50, 47, 52]⟩ : ByteArray)] from rfl) (Reps.one (show Kd.M Kd.string _ _ _ (⟨#[51, 47, 49]⟩ : ByteArray) [.string (⟨#[51, 47, 49]⟩ : ByteArray)] from rfl) (Reps.one (show Kd.M Kd.string _ _ _ (⟨#[49, 47, 45, 50]⟩ : ByteArray) [.string (⟨#[49, 47, 45, 50]⟩ : ByteArray)] from rfl) (Reps.one (show Kd.M Kd.string _ _ _ (⟨#[45, 48]⟩ : ByteArray) [.string (⟨#[45, 48]⟩ : ByteArray)] from rfl) (Reps.one (show Kd.M Kd.string _ _ _ (⟨#[49, 47, 48]⟩ : ByteArray) [.string (⟨#[49, 47, 48]⟩ : ByteArray)] from rfl) (Reps.one (show Kd.M Kd.string _ _ _ (⟨#[]⟩ : ByteArray) [.string (⟨#[]⟩ : ByteArray)] from rfl) (Reps.none _ _)))))))); intro v432 w29 ho30 hb hg_ hnew_; clear hg_ hnew_; (first | rw [← Ny431.out] at ho30 | (simp only [Int.reduceToNat] at ho30; rw [← Ny431.out] at ho30)); have HO433 := Z0.mk (Kd.R_lower ho30 (below_size bqs)); replace HB := fB HB hb; clear hb ho30; obtain ⟨Ao31, co31, eo31⟩ := Kd.R_slice HO433.out; subst eo31))
     go_loopg [102] kj20 (fun kq v102 w' => ∃ (x102_3 : Int), v102 = .int .i64 x102_3 ∧ Z0 (lWawake.l0 kq y431 (y431.length : Int) x102_3 = some r) ∧ Z0 (kq ≤ kj20) ∧ Z0 (Kd.R Kd.string 22 w' w.heap.size (fun _ => True) (.slice Ao31 y431.length co31) y431) ∧ Z0 (Below w.heap.size w w'))
     case atStart => exact ⟨(0), fs, H', ⟨Nat.le_refl _⟩, ⟨rq HO433⟩, ⟨bqs⟩⟩
     case round =>
      clear H'
      try clear c1
      try clear c2
      try clear p2
      try clear c3
      try clear c4
      try clear p6
      try clear c12
      try clear c12b0
      try clear c12b1
      try clear c13
      try clear c13b0
      try clear c13b1
      try clear c14
      try clear c14b0
      try clear c14b1
      try clear c15
      try clear c15b0
      try clear c15b1
      try clear c16
      try clear c16b0
      try clear c16b1
      try clear c17
      try clear c18
      try clear c19
      try clear c21
      try clear c22
      try clear c25
      try clear c25b0
      try clear c25b1
      try clear c26
      try clear c26b0
      try clear c26b1
      try clear c27
      try clear c27b0
      try clear c27b1
      try clear c28
      try clear c30
      try clear p2
      try clear p6
      obtain ⟨x102_3, rfl, HA, HK3, HO_100, HB⟩ := hrel
      cases gk with
      | zero => exact absurd HA.out (by simp [lWawake.l0])
      | succ k3 =>
       have H := HA.out
       clear HA
       simp only [lWawake.l0] at H
       rcases jd H with ⟨-, c32b0, H⟩ | ⟨-, c32b0, H⟩
       ·obtain ⟨-, c33b0, H⟩ := gd H
        obtain ⟨-, c34b0, H⟩ := gd H
        obtain ⟨t435, A35, H⟩ := bnd H
        rcases je H with ⟨-, c36b0, c36b1, H⟩ | ⟨c36, c36b0, c36b1, H⟩
        ·have H' := Z0.mk H
         clear H
         obtain ⟨ad434, e434, hx434_0, p434, q434⟩ := asI (Kd.R_reads' HO_100.out).2.2 x102_3
         cases e434
         go_wp2_with (first | ((with_reducible refine gc_ 28 rfl ?_); refine gL 107 Tryz.func28 (rACheck.calls k3 (rdOf ByteArray.empty y431 x102_3) t435 _ ?side1 A35.out) ?_; (case side1 => exact LaidW.below hL bqs); rintro _ w37 ⟨rfl, hb⟩; refine ⟨_, rfl, ?_⟩; replace HO_100 := fR HO_100 hb; replace HB := fB HB hb; clear hb))
         go_roundg k3
         case measure => have := HJ5.out; have := HJ20.out; have := HK3.out; omega
         case rel => exact ⟨(wrap64 (x102_3 + 1)), fs, H', ⟨by have := HJ5.out; have := HJ20.out; have := HK3.out; omega⟩, ⟨rq HO_100⟩, ⟨bqs⟩⟩
        obtain rfl := Option.some.inj H
        obtain ⟨ad434, e434, hx434_0, p434, q434⟩ := asI (Kd.R_reads' HO_100.out).2.2 x102_3
        cases e434
        go_wp2_with (first | ((with_reducible refine gc_ 28 rfl ?_); refine gL 107 Tryz.func28 (rACheck.calls k3 (rdOf ByteArray.empty y431 x102_3) t435 _ ?side1 A35.out) ?_; (case side1 => exact LaidW.below hL bqs); rintro _ w38 ⟨rfl, hb⟩; refine ⟨_, rfl, ?_⟩; replace HO_100 := fR HO_100 hb; replace HB := fB HB hb; clear hb))
        go_ret
        exact finE
       obtain ⟨⟨t436, t437⟩, A39, H⟩ := bnd H
       try dsimp only at H
       obtain rfl := Option.some.inj H
       go_wp2_with (first | ((with_reducible refine gc_ 48 rfl ?_); refine gL 111 Tryz.func48 (rADiv.calls k3 (⟨#[49]⟩ : ByteArray) (⟨#[48]⟩ : ByteArray) t436 t437 _ ?side1 A39.out) ?_; (case side1 => exact LaidW.below hL bqs); rintro _ w40 ⟨rfl, hb⟩; refine ⟨_, rfl, ?_⟩; replace HO_100 := fR HO_100 hb; replace HB := fB HB hb; clear hb))
       go_ret
       exact finE
end Go.Proofs.YthnfajboebaajaaGreatDoor.PA
namespace Go.Proofs.YthnfajboebaajaaGreatDoor.Rb
set_option linter.unusedVariables false
open Go.ChangeShapes Go.WideShapes Go.ChangeAt Go.RowKit
theorem and_ {a b : Bool} (h : a = true) (k : b = true) : (a && b) = true := by rw [h, k]; rfl
theorem own : ownKnob Tryz.prog.godebug = none := by kernel_rfl
abbrev laid : List (String × DataW Unit) := Rows.rationalMakesRow.laid
theorem shaped (os : Os) (args : Array Value) : ((World.laidAll Tryz.prog os laid).forCall (fun _ _ => 0) ⟨#[], args, []⟩).Shaped Tryz.checked.prog := World.shaped_of_ZipB (by kernel_rfl) (by kernel_rfl)
theorem met (os : Os) (args : Array Value) : laidMetH Tryz.prog laid ((World.laidAll Tryz.prog os laid).forCall (fun _ _ => 0) ⟨#[], args, []⟩).memory := by
 rw [MakeChecks.laidMetH_plain _ _ _ (by kernel_rfl)]
 exact laidMet_laidAll _ (by kernel_rfl) (by kernel_rfl)
theorem gPow : Tryz.prog.globalNamed "internal/strconv.uint64pow10" = some 1 := by kernel_rfl
theorem tPow : (Tryz.prog.globals[1]?).map (·.type) = some 206 := by kernel_rfl
theorem dPow : (Rows.laid_internal_strconv_uint64pow10 : DataW Unit) = Lib.tabData .u64 Lib.pow10Tab := rfl
theorem of_laid {W : World} (h : laidMetH Tryz.prog laid W) : LaidW W := by
 rw [MakeChecks.laidMetH_plain _ _ _ (by kernel_rfl)] at h
 obtain ⟨_, ⟨_, _, _, _, _, _, _, _, _, _, ⟨_, _, _, _, _, _, _, _, _, _, ⟨g', t', cs, fuel, p, q, hg', ht', hvar, hd, _⟩, _⟩, _⟩, _⟩ := h
 obtain rfl := Option.some.inj (gPow.symm.trans hg')
 obtain rfl := Option.some.inj (tPow.symm.trans ht')
 unfold LaidW Lib.TabIs
 rw [hvar, ← Lib.cells_of_tab Tryz.underlying206 Tryz.underlying182 (by kernel_rfl) (by kernel_rfl) (dPow ▸ hd)]
end Go.Proofs.YthnfajboebaajaaGreatDoor.Rb
namespace Go.Proofs.YthnfajboebaajaaGreatDoor
open Go.ChangeShapes Go.WideShapes Go.ChangeAt Go.ChangeMaps Go.RowKit
section
variable {H : Type} {enc : TypeId × Value → H} {P : Program} {w : World} {base : Nat} {sp : Nat → Bool} {held : Bool} {t e : TypeId}
theorem open_arr2 {r : Reach} {b0 : Nat} {v : Value} {d : DataW H} {ps : List MemPlace} (ht : P.underlying t = some (.array 2 e)) (he : P.underlying e = some .string) (hc : P.cellsOf e = 1) (hC : P.cellsOf t = 2)
    (hval : Value.okWide P w r b0 t v) (hd : DataW.Trod enc P w base sp held t v d ps) :
    ∃ s0 s1 : ByteArray, v = .agg #[.string s0, .string s1] ∧ d = .agg [.lit (.string s0.data.toList), .lit (.string s1.data.toList)] ∧ ps = [] ∧ s0.size ≤ maxLen ∧ s1.size ≤ maxLen := by
  simp only [Value.okWide, ht] at hval
  obtain ⟨cs, rfl, hsz, _⟩ := hval
  rw [hC] at hsz
  obtain ⟨l⟩ := cs
  match l, hsz with
  | [c0, c1], _ =>
  obtain ⟨fuel, hf⟩ := hd
  cases fuel with
  | zero => simp [DataW.trod] at hf
  | succ m =>
    rw [DataW.trod_step] at hf
    unfold DataW.trodStep at hf
    simp only [ht, Value.cells, hC, hc, List.length_cons, List.length_nil, if_true, Option.map_eq_some_iff] at hf
    obtain ⟨ys, hy, e1⟩ := hf
    simp [List.range_succ, List.mapM_cons, bind, Option.bind_eq_some_iff] at hy
    obtain ⟨y0, p0, h0, zs, ⟨y1, p1, h1, rfl⟩, rfl⟩ := hy
    obtain ⟨s0, q0, x0, z0⟩ := DataW.trod_string he h0
    obtain ⟨s1, q1, x1, z1⟩ := DataW.trod_string he h1
    simp at q0 q1
    subst q0 q1
    simp only [Prod.mk.injEq] at x0 x1
    obtain ⟨rfl, rfl⟩ := x0
    obtain ⟨rfl, rfl⟩ := x1
    simp at e1
    exact ⟨s0, s1, rfl, e1.1.symm, e1.2, z0, z1⟩
theorem shut_arr2 {s0 s1 : ByteArray} (ht : P.underlying t = some (.array 2 e)) (he : P.underlying e = some .string) (hc : P.cellsOf e = 1) (hC : P.cellsOf t = 2) (h0 : s0.size ≤ maxLen) (h1 : s1.size ≤ maxLen) :
    DataW.Trod enc P w base sp held t (.agg #[.string s0, .string s1]) (.agg [.lit (.string s0.data.toList), .lit (.string s1.data.toList)]) [] :=
  ⟨2, by simp [DataW.trod, Value.cells, ht, he, hC, hc, List.range_succ, h0, h1]⟩
end
end Go.Proofs.YthnfajboebaajaaGreatDoor
