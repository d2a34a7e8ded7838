import Derived.Test.YthnfajboebaajaaGreatDoorAG1
import Derived.Test.YthnfajboebaajaaGreatDoorAD
import Derived.Test.YthnfajboebaajaaGreatDoorAG2
import Derived.Test.YthnfajboebaajaaGreatDoorAG8
import Derived.Test.YthnfajboebaajaaGreatDoorAG7
set_option maxHeartbeats 8000000
set_option maxRecDepth 100000
set_option linter.unusedVariables false
namespace Go.Proofs.YthnfajboebaajaaGreatDoor.PA
open Go.RowKit Go.Proofs.WWords Go.Proofs.WLast Go.Proofs.WMore
attribute [local go_sem] max2_int min2_int max_two min_two max_three min_three max_four min_four
set_option linter.unusedVariables false
set_option linter.unusedSimpArgs false
theorem rAOf.calls (k : Nat) (a0 : ByteArray) (a1 : ByteArray) (r1 : ByteArray) (r2 : Int) (w : World) (hL : LaidW w) (h : rAOf.f k a0 a1 = some (r1, r2)) :
  Calls Tryz.prog 30 #[.string a0, .string a1] w fun e w' => e = .returned (.tuple #[.string r1, .int .i64 r2]) ∧ Below w.heap.size w w' := by
 have HB := Z0.mk (Below.refl w.heap.size w)
 have H := h
 clear h
 unfold rAOf.f at H
 obtain ⟨t362, A3, H⟩ := bnd H
 rcases je H with ⟨-, c4b0, c4b1, H⟩ | ⟨c4, c4b0, c4b1, H⟩
 ·obtain ⟨t363, A5, H⟩ := bnd H
  rcases je H with ⟨-, c6b0, c6b1, H⟩ | ⟨c6, c6b0, c6b1, H⟩
  ·rcases je H with ⟨-, c7b0, c7b1, H⟩ | ⟨c7, c7b0, c7b1, H⟩
   ·simp only [Option.some.injEq, Prod.mk.injEq] at H
    obtain ⟨rfl, rfl⟩ := H
    go_enter Tryz.func30, Tryz.ntmps30
    go_wp2_with (first | ((with_reducible refine gc_ 83 rfl ?_); refine goB (some 9) Tryz.func83 #[.string a0] bq (bICheck.calls a0 t362 _ A3.out) ?_; clear HB; intro w8 HB) | ((with_reducible refine gc_ 83 rfl ?_); refine goB (some 14) Tryz.func83 #[.string a1] bq (bICheck.calls a1 t363 _ A5.out) ?_; clear HB; intro w9 HB))
    go_ret2
    exact finE
   obtain ⟨⟨t364, t365⟩, A10, H⟩ := bnd H
   try dsimp only at H
   simp only [Option.some.injEq, Prod.mk.injEq] at H
   obtain ⟨rfl, rfl⟩ := H
   go_enter Tryz.func30, Tryz.ntmps30
   go_wp2_with (first | ((with_reducible refine gc_ 83 rfl ?_); refine goB (some 9) Tryz.func83 #[.string a0] bq (bICheck.calls a0 t362 _ A3.out) ?_; clear HB; intro w11 HB) | ((with_reducible refine gc_ 83 rfl ?_); refine goB (some 14) Tryz.func83 #[.string a1] bq (bICheck.calls a1 t363 _ A5.out) ?_; clear HB; intro w12 HB) | ((with_reducible refine gc_ 84 rfl ?_); refine goB (some 22) Tryz.func84 #[.string a0, .string a1] bq (rAwhole.calls k a0 a1 t364 t365 _ (hL.below bq) A10.out) ?_; clear HB; intro w13 HB))
   go_ret2
   exact finE
  simp only [Option.some.injEq, Prod.mk.injEq] at H
  obtain ⟨rfl, rfl⟩ := H
  go_enter Tryz.func30, Tryz.ntmps30
  go_wp2_with (first | ((with_reducible refine gc_ 83 rfl ?_); refine goB (some 9) Tryz.func83 #[.string a0] bq (bICheck.calls a0 t362 _ A3.out) ?_; clear HB; intro w14 HB) | ((with_reducible refine gc_ 83 rfl ?_); refine goB (some 14) Tryz.func83 #[.string a1] bq (bICheck.calls a1 t363 _ A5.out) ?_; clear HB; intro w15 HB))
  go_ret2
  exact finE
 simp only [Option.some.injEq, Prod.mk.injEq] at H
 obtain ⟨rfl, rfl⟩ := H
 go_enter Tryz.func30, Tryz.ntmps30
 go_wp2_with (first | ((with_reducible refine gc_ 83 rfl ?_); refine goB (some 9) Tryz.func83 #[.string a0] bq (bICheck.calls a0 t362 _ A3.out) ?_; clear HB; intro w16 HB))
 go_ret2
 exact finE
theorem lWawake.calls (k : Nat)  (r : Bool) (w : World) (hL : LaidW w) (h : lWawake.f k  = some r) :
  Calls Tryz.prog 17 #[] w fun e w' => e = .returned (.bool r) ∧ Below w.heap.size w w' := by
 have HB := Z0.mk (Below.refl w.heap.size w)
 have H := h
 clear h
 unfold lWawake.f at H
 obtain ⟨⟨t415, t416⟩, A1, H⟩ := bnd H
 try dsimp only at H
 obtain ⟨⟨t417, t418⟩, A2, H⟩ := bnd H
 try dsimp only at H
 obtain ⟨⟨t419, t420⟩, A3, H⟩ := bnd H
 try dsimp only at H
 obtain ⟨⟨t421, t422⟩, A4, H⟩ := bnd H
 try dsimp only at H
 obtain ⟨⟨t423, t424⟩, A5, H⟩ := bnd H
 try dsimp only at H
 have HC6 := Z0.mk H
 clear H
 go_enter Tryz.func17, Tryz.ntmps17
 go_upto_region 6 with (first | ((with_reducible refine gc_ 30 rfl ?_); refine goB (some 17) Tryz.func30 #[.string (⟨#[54]⟩ : ByteArray), .string (⟨#[45, 52]⟩ : ByteArray)] bq (rAOf.calls k (⟨#[54]⟩ : ByteArray) (⟨#[45, 52]⟩ : ByteArray) t415 t416 _ (hL.below bq) A1.out) ?_; clear HB; intro w7 HB) | ((with_reducible refine gc_ 18 rfl ?_); refine goB (some 22) Tryz.func18 #[.string t415] bq (rANum.calls k t415 t417 t418 _ (hL.below bq) A2.out) ?_; clear HB; intro w8 HB) | ((with_reducible refine gc_ 19 rfl ?_); refine goB (some 27) Tryz.func19 #[.string t415] bq (rADen.calls k t415 t419 t420 _ (hL.below bq) A3.out) ?_; clear HB; intro w9 HB) | ((with_reducible refine gc_ 21 rfl ?_); refine goB (some 32) Tryz.func21 #[.string t415] bq (rAFloor.calls k t415 t421 t422 _ (hL.below bq) A4.out) ?_; clear HB; intro w10 HB) | ((with_reducible refine gc_ 22 rfl ?_); refine goB (some 37) Tryz.func22 #[.string t415] bq (rACeil.calls k t415 t423 t424 _ (hL.below bq) A5.out) ?_; clear HB; intro w11 HB))
 (try simp only [Act.put, List.setIfInBounds_toArray, List.set_cons_zero, List.set_cons_succ])
 go_cut [69] (fun v69 wc => ∃ (kq : Nat) (x69_5 : Bool), v69 = .bool x69_5 ∧ Z0 (lWawake.j0 kq x69_5 = some r) ∧ Z0 (kq ≤ k) ∧ Z0 (Below w.heap.size w wc))
 case first =>
  have H := HC6.out
  clear HC6
  rcases je H with ⟨-, c12b0, c12b1, H⟩ | ⟨c12, c12b0, c12b1, H⟩
  ·(first | rw [c12b0] | (simp only [i64_w, i32_w]; rw [c12b0]) | skip)
   rcases je H with ⟨-, c13b0, c13b1, H⟩ | ⟨c13, c13b0, c13b1, H⟩
   ·rcases je H with ⟨-, c14b0, c14b1, H⟩ | ⟨c14, c14b0, c14b1, H⟩
    ·rcases je H with ⟨-, c15b0, c15b1, H⟩ | ⟨c15, c15b0, c15b1, H⟩
     ·rcases je H with ⟨-, c16b0, c16b1, H⟩ | ⟨c16, c16b0, c16b1, H⟩
      ·have H' := Z0.mk H
       clear H
       go_wp2
       go_meet
       case rel => exact ⟨_, ((t423.toList != ([45, 49] : List UInt8))), fs, H', ⟨by first | omega | exact Nat.le_refl _⟩, ⟨bqs⟩⟩
      have H' := Z0.mk H
      clear H
      go_wp2
      go_meet
      case rel => exact ⟨_, (true), fs, H', ⟨by first | omega | exact Nat.le_refl _⟩, ⟨bqs⟩⟩
     have H' := Z0.mk H
     clear H
     go_wp2
     go_meet
     case rel => exact ⟨_, (true), fs, H', ⟨by first | omega | exact Nat.le_refl _⟩, ⟨bqs⟩⟩
    have H' := Z0.mk H
    clear H
    go_wp2
    go_meet
    case rel => exact ⟨_, (true), fs, H', ⟨by first | omega | exact Nat.le_refl _⟩, ⟨bqs⟩⟩
   have H' := Z0.mk H
   clear H
   go_wp2
   go_meet
   case rel => exact ⟨_, (true), fs, H', ⟨by first | omega | exact Nat.le_refl _⟩, ⟨bqs⟩⟩
  (first | rw [c12b0] | (simp only [i64_w, i32_w]; rw [c12b0]) | skip)
  have H' := Z0.mk H
  clear H
  go_wp2
  go_meet
  case rel => exact ⟨_, (true), fs, H', ⟨by first | omega | exact Nat.le_refl _⟩, ⟨bqs⟩⟩
 case rest =>
  clear HC6
  try clear c1
  try clear c2
  try clear p2
  try clear c3
  try clear p6
  try clear c12
  try clear c12b0
  try clear c12b1
  try clear c13
  try clear c13b0
  try clear c13b1
  try clear c14
  try clear c14b0
  try clear c14b1
  try clear c15
  try clear c15b0
  try clear c15b1
  try clear c16
  try clear c16b0
  try clear c16b1
  obtain ⟨kq, x69_5, rfl, HA, HJ5, HB⟩ := hcut
  cases kq with
  | zero => exact absurd HA.out (by simp [lWawake.j0])
  | succ kj5 =>
   have H := HA.out
   clear HA
   simp only [lWawake.j0] at H
   by_cases c17 : x69_5 = true
   ·subst c17
    have H1 : (some false) = some r := by rw [if_pos rfl] at H; exact H
    clear H
    have H := H1
    clear H1
    obtain rfl := Option.some.inj H
    go_wp2
    go_ret
    exact finE
   replace c17 := Bool.eq_false_iff.mpr c17
   subst c17
   have H1 : ((rAAdd.f kj5 (⟨#[49, 47, 50]⟩ : ByteArray) (⟨#[49, 47, 51]⟩ : ByteArray)).bind fun bt425 => ((rADiv.f kj5 (⟨#[49, 47, 50]⟩ : ByteArray) (⟨#[45, 51]⟩ : ByteArray)).bind fun bt427 => ((rACompare.f kj5 (⟨#[49, 47, 51]⟩ : ByteArray) (⟨#[50, 47, 53]⟩ : ByteArray)).bind fun bt429 => (if (wrap64 ((wrap64 (bt425.2 + bt427.2)) + bt429.2)) = 0 then (if bt425.1.toList = ([53, 47, 54] : List UInt8) then (if bt427.1.toList = ([45, 49, 47, 54] : List UInt8) then (lWawake.j1 kj5 (bt429.1 != (-1))) else (lWawake.j1 kj5 true)) else (lWawake.j1 kj5 true)) else (lWawake.j1 kj5 true))))) = some r := by rw [if_neg (show ¬ (false = true) by decide)] at H; exact H
   clear H
   have H := H1
   clear H1
   obtain ⟨⟨t425, t426⟩, A18, H⟩ := bnd H
   try dsimp only at H
   obtain ⟨⟨t427, t428⟩, A19, H⟩ := bnd H
   try dsimp only at H
   obtain ⟨⟨t429, t430⟩, A20, H⟩ := bnd H
   try dsimp only at H
   have HC21 := Z0.mk H
   clear H
   go_upto_region 11 with (first | ((with_reducible refine gc_ 43 rfl ?_); refine goB (some 71) Tryz.func43 #[.string (⟨#[49, 47, 50]⟩ : ByteArray), .string (⟨#[49, 47, 51]⟩ : ByteArray)] bq (rAAdd.calls kj5 (⟨#[49, 47, 50]⟩ : ByteArray) (⟨#[49, 47, 51]⟩ : ByteArray) t425 t426 _ (hL.below bq) A18.out) ?_; clear HB; intro w22 HB) | ((with_reducible refine gc_ 48 rfl ?_); refine goB (some 75) Tryz.func48 #[.string (⟨#[49, 47, 50]⟩ : ByteArray), .string (⟨#[45, 51]⟩ : ByteArray)] bq (rADiv.calls kj5 (⟨#[49, 47, 50]⟩ : ByteArray) (⟨#[45, 51]⟩ : ByteArray) t427 t428 _ (hL.below bq) A19.out) ?_; clear HB; intro w23 HB) | ((with_reducible refine gc_ 34 rfl ?_); refine goB (some 79) Tryz.func34 #[.string (⟨#[49, 47, 51]⟩ : ByteArray), .string (⟨#[50, 47, 53]⟩ : ByteArray)] bq (rACompare.calls kj5 (⟨#[49, 47, 51]⟩ : ByteArray) (⟨#[50, 47, 53]⟩ : ByteArray) t429 t430 _ (hL.below bq) A20.out) ?_; clear HB; intro w24 HB))
   (try simp only [Act.put, List.setIfInBounds_toArray, List.set_cons_zero, List.set_cons_succ])
   go_cut [99] (fun v99 wc => ∃ (kq : Nat) (x99_20 : Bool), v99 = .bool x99_20 ∧ Z0 (lWawake.j1 kq x99_20 = some r) ∧ Z0 (kq ≤ kj5) ∧ Z0 (Below w.heap.size w wc))
   case first =>
    have H := HC21.out
    clear HC21
    rcases je H with ⟨-, c25b0, c25b1, H⟩ | ⟨c25, c25b0, c25b1, H⟩
    ·(first | rw [c25b0] | (simp only [i64_w, i32_w]; rw [c25b0]) | skip)
     rcases je H with ⟨-, c26b0, c26b1, H⟩ | ⟨c26, c26b0, c26b1, H⟩
     ·rcases je H with ⟨-, c27b0, c27b1, H⟩ | ⟨c27, c27b0, c27b1, H⟩
      ·have H' := Z0.mk H
       clear H
       go_wp2
       go_meet
       case rel => exact ⟨_, ((t429 != (-1))), fs, H', ⟨by have := HJ5.out; first | omega | exact Nat.le_refl _⟩, ⟨bqs⟩⟩
      have H' := Z0.mk H
      clear H
      go_wp2
      go_meet
      case rel => exact ⟨_, (true), fs, H', ⟨by have := HJ5.out; first | omega | exact Nat.le_refl _⟩, ⟨bqs⟩⟩
     have H' := Z0.mk H
     clear H
     go_wp2
     go_meet
     case rel => exact ⟨_, (true), fs, H', ⟨by have := HJ5.out; first | omega | exact Nat.le_refl _⟩, ⟨bqs⟩⟩
    (first | rw [c25b0] | (simp only [i64_w, i32_w]; rw [c25b0]) | skip)
    have H' := Z0.mk H
    clear H
    go_wp2
    go_meet
    case rel => exact ⟨_, (true), fs, H', ⟨by have := HJ5.out; first | omega | exact Nat.le_refl _⟩, ⟨bqs⟩⟩
   case rest =>
    clear HC21
    try clear c1
    try clear c2
    try clear p2
    try clear c3
    try clear c4
    try clear p6
    try clear c12
    try clear c12b0
    try clear c12b1
    try clear c13
    try clear c13b0
    try clear c13b1
    try clear c14
    try clear c14b0
    try clear c14b1
    try clear c15
    try clear c15b0
    try clear c15b1
    try clear c16
    try clear c16b0
    try clear c16b1
    try clear c17
    try clear c18
    try clear c19
    try clear c21
    try clear c22
    try clear c25
    try clear c25b0
    try clear c25b1
    try clear c26
    try clear c26b0
    try clear c26b1
    try clear c27
    try clear c27b0
    try clear c27b1
    try clear p2
    try clear p6
    obtain ⟨kq, x99_20, rfl, HA, HJ20, HB⟩ := hcut
    cases kq with
    | zero => exact absurd HA.out (by simp [lWawake.j1])
    | succ kj20 =>
     have H := HA.out
     clear HA
     simp only [lWawake.j1] at H
     by_cases c28 : x99_20 = true
     ·subst c28
      have H1 : (some false) = some r := by rw [if_pos rfl] at H; exact H
      clear H
      have H := H1
      clear H1
      obtain rfl := Option.some.inj H
      go_wp2
      go_ret
      exact finE
     replace c28 := Bool.eq_false_iff.mpr c28
     subst c28
     have H1 : ((some (([(⟨#[50, 47, 52]⟩ : ByteArray), (⟨#[51, 47, 49]⟩ : ByteArray), (⟨#[49, 47, 45, 50]⟩ : ByteArray), (⟨#[45, 48]⟩ : ByteArray), (⟨#[49, 47, 48]⟩ : ByteArray), (⟨#[]⟩ : ByteArray)] : List ByteArray) : List ByteArray)).bind fun y431 => (lWawake.l0 kj20 y431 (y431.length : Int) 0)) = some r := by rw [if_neg (show ¬ (false = true) by decide)] at H; exact H
     clear H
     have H := H1
     clear H1
     obtain ⟨y431, Ny431, H⟩ := yb H
     have H' := Z0.mk H
     clear H
     go_wp2_with (first | ((with_reducible refine gd_ 100 rfl ?_); refine Kd.R_lit Kd.string _ 22 ?hg (N := 100) ?hd (xs := ([(⟨#[50, 47, 52]⟩ : ByteArray), (⟨#[51, 47, 49]⟩ : ByteArray), (⟨#[49, 47, 45, 50]⟩ : ByteArray), (⟨#[45, 48]⟩ : ByteArray), (⟨#[49, 47, 48]⟩ : ByteArray), (⟨#[]⟩ : ByteArray)] : List ByteArray)) (inner := [.string (⟨#[50, 47, 52]⟩ : ByteArray), .string (⟨#[51, 47, 49]⟩ : ByteArray), .string (⟨#[49, 47, 45, 50]⟩ : ByteArray), .string (⟨#[45, 48]⟩ : ByteArray), .string (⟨#[49, 47, 48]⟩ : ByteArray), .string (⟨#[]⟩ : ByteArray)]) (ok := fun _ => True) (okp := fun _ => True) ?hr ?hp (fun _ hk => hk) trivial (Below.refl _ _) (Nat.le_refl _) (by simp) ?_; (case hd => rfl); (case hg => rfl); (case hr => first | (go_simp; done) | (go_simp; rfl)); (case hp => exact (Reps.one (show Kd.M Kd.string _ _ _ (⟨#[50, 47, 52]⟩ : ByteArray) [.string (⟨#[50, 47, 52]⟩ : ByteArray)] from rfl) (Reps.one (show Kd.M Kd.string _ _ _ (⟨#[51, 47, 49]⟩ : ByteArray) [.string (⟨#[51, 47, 49]⟩ : ByteArray)] from rfl) (Reps.one (show Kd.M Kd.string _ _ _ (⟨#[49, 47, 45, 50]⟩ : ByteArray) [.string (⟨#[49, 47, 45, 50]⟩ : ByteArray)] from rfl) (Reps.one (show Kd.M Kd.string _ _ _ (⟨#[45, 48]⟩ : ByteArray) [.string (⟨#[45, 48]⟩ : ByteArray)] from rfl) (Reps.one (show Kd.M Kd.string _ _ _ (⟨#[49, 47, 48]⟩ : ByteArray) [.string (⟨#[49, 47, 48]⟩ : ByteArray)] from rfl) (Reps.one (show Kd.M Kd.string _ _ _ (⟨#[]⟩ : ByteArray) [.string (⟨#[]⟩ : ByteArray)] from rfl) (Reps.none _ _)))))))); intro v432 w29 ho30 hb hg_ hnew_; clear hg_ hnew_; (first | rw [← Ny431.out] at ho30 | (simp only [Int.reduceToNat] at ho30; rw [← Ny431.out] at ho30)); have HO433 := Z0.mk (Kd.R_lower ho30 (below_size bqs)); replace HB := fB HB hb; clear hb ho30; obtain ⟨Ao31, co31, eo31⟩ := Kd.R_slice HO433.out; subst eo31))
     go_loopg [102] kj20 (fun kq v102 w' => ∃ (x102_3 : Int), v102 = .int .i64 x102_3 ∧ Z0 (lWawake.l0 kq y431 (y431.length : Int) x102_3 = some r) ∧ Z0 (kq ≤ kj20) ∧ Z0 (Kd.R Kd.string 22 w' w.heap.size (fun _ => True) (.slice Ao31 y431.length co31) y431) ∧ Z0 (Below w.heap.size w w'))
     case atStart => exact ⟨(0), fs, H', ⟨Nat.le_refl _⟩, ⟨rq HO433⟩, ⟨bqs⟩⟩
     case round =>
      clear H'
      try clear c1
      try clear c2
      try clear p2
      try clear c3
      try clear c4
      try clear p6
      try clear c12
      try clear c12b0
      try clear c12b1
      try clear c13
      try clear c13b0
      try clear c13b1
      try clear c14
      try clear c14b0
      try clear c14b1
      try clear c15
      try clear c15b0
      try clear c15b1
      try clear c16
      try clear c16b0
      try clear c16b1
      try clear c17
      try clear c18
      try clear c19
      try clear c21
      try clear c22
      try clear c25
      try clear c25b0
      try clear c25b1
      try clear c26
      try clear c26b0
      try clear c26b1
      try clear c27
      try clear c27b0
      try clear c27b1
      try clear c28
      try clear c30
      try clear p2
      try clear p6
      obtain ⟨x102_3, rfl, HA, HK3, HO_100, HB⟩ := hrel
      cases gk with
      | zero => exact absurd HA.out (by simp [lWawake.l0])
      | succ k3 =>
       have H := HA.out
       clear HA
       simp only [lWawake.l0] at H
       rcases jd H with ⟨-, c32b0, H⟩ | ⟨-, c32b0, H⟩
       ·obtain ⟨-, c33b0, H⟩ := gd H
        obtain ⟨-, c34b0, H⟩ := gd H
        obtain ⟨t435, A35, H⟩ := bnd H
        rcases je H with ⟨-, c36b0, c36b1, H⟩ | ⟨c36, c36b0, c36b1, H⟩
        ·have H' := Z0.mk H
         clear H
         obtain ⟨ad434, e434, hx434_0, p434, q434⟩ := asI (Kd.R_reads' HO_100.out).2.2 x102_3
         cases e434
         go_wp2_with (first | ((with_reducible refine gc_ 28 rfl ?_); refine gL 107 Tryz.func28 (rACheck.calls k3 (rdOf ByteArray.empty y431 x102_3) t435 _ ?side1 A35.out) ?_; (case side1 => exact LaidW.below hL bqs); rintro _ w37 ⟨rfl, hb⟩; refine ⟨_, rfl, ?_⟩; replace HO_100 := fR HO_100 hb; replace HB := fB HB hb; clear hb))
         go_roundg k3
         case measure => have := HJ5.out; have := HJ20.out; have := HK3.out; omega
         case rel => exact ⟨(wrap64 (x102_3 + 1)), fs, H', ⟨by have := HJ5.out; have := HJ20.out; have := HK3.out; omega⟩, ⟨rq HO_100⟩, ⟨bqs⟩⟩
        obtain rfl := Option.some.inj H
        obtain ⟨ad434, e434, hx434_0, p434, q434⟩ := asI (Kd.R_reads' HO_100.out).2.2 x102_3
        cases e434
        go_wp2_with (first | ((with_reducible refine gc_ 28 rfl ?_); refine gL 107 Tryz.func28 (rACheck.calls k3 (rdOf ByteArray.empty y431 x102_3) t435 _ ?side1 A35.out) ?_; (case side1 => exact LaidW.below hL bqs); rintro _ w38 ⟨rfl, hb⟩; refine ⟨_, rfl, ?_⟩; replace HO_100 := fR HO_100 hb; replace HB := fB HB hb; clear hb))
        go_ret
        exact finE
       obtain ⟨⟨t436, t437⟩, A39, H⟩ := bnd H
       try dsimp only at H
       obtain rfl := Option.some.inj H
       go_wp2_with (first | ((with_reducible refine gc_ 48 rfl ?_); refine gL 111 Tryz.func48 (rADiv.calls k3 (⟨#[49]⟩ : ByteArray) (⟨#[48]⟩ : ByteArray) t436 t437 _ ?side1 A39.out) ?_; (case side1 => exact LaidW.below hL bqs); rintro _ w40 ⟨rfl, hb⟩; refine ⟨_, rfl, ?_⟩; replace HO_100 := fR HO_100 hb; replace HB := fB HB hb; clear hb))
       go_ret
       exact finE
theorem rENegative.calls (a0 : ByteArray) (r : Bool) (w : World) (h : rENegative.f a0 = some r) :
  Calls Tryz.prog 126 #[.string a0] w fun e w' => e = .returned (.bool r) ∧ Drawn0 w w' := by
 have H := h
 clear h
 unfold rENegative.f at H
 obtain ⟨c2, c2b0, H⟩ := gd H
 have c2b1 : decide (0 < a0.size) = true := decide_eq_true (by omega)
 clear c2
 obtain rfl := Option.some.inj H
 have p3 : 0 ≤ (0 : Int) := (by omega)
 have q3 : 0 < a0.size := (by have : (0 : Int) < (a0.size : Int) := od; omega)
 have hx3 : ∀ h : 0 < a0.size, ((a0[0]'h).toNat : Int) = bt a0 0 := bt_at a0 0
 clear p3
 have qi3 : (0 < (a0.size : Int)) = True := eq_true od
 replace q3 := eq_true q3
 go_enter Tryz.func126, Tryz.ntmps126
 go_wp2
 go_ret
 exact finD
theorem rEDigits.calls (a0 : ByteArray) (r : Int) (w : World) (h : rEDigits.f a0 = some r) :
  Calls Tryz.prog 93 #[.string a0] w fun e w' => e = .returned (.int .i64 r) ∧ Drawn0 w w' := by
 have H := h
 clear h
 unfold rEDigits.f at H
 obtain ⟨t438, A2, H⟩ := bnd H
 by_cases c3 : t438 = true
 ·subst c3
  have H1 : (some (wrap64 ((a0.size : Int) - 1))) = some r := by rw [if_pos rfl] at H; exact H
  clear H
  have H := H1
  clear H1
  obtain rfl := Option.some.inj H
  go_enter Tryz.func93, Tryz.ntmps93
  go_wp2_with (first | ((with_reducible refine gc_ 126 rfl ?_); refine goD (some 4) Tryz.func126 #[.string a0] (rENegative.calls a0 true _ A2.out) ?_; intro nd))
  go_ret
  exact finD
 replace c3 := Bool.eq_false_iff.mpr c3
 subst c3
 have H1 : (some (a0.size : Int)) = some r := by rw [if_neg (show ¬ (false = true) by decide)] at H; exact H
 clear H
 have H := H1
 clear H1
 obtain rfl := Option.some.inj H
 go_enter Tryz.func93, Tryz.ntmps93
 go_wp2_with (first | ((with_reducible refine gc_ 126 rfl ?_); refine goD (some 4) Tryz.func126 #[.string a0] (rENegative.calls a0 false _ A2.out) ?_; intro nd))
 go_ret
 exact finD
theorem rFslash.calls (k : Nat) (a0 : ByteArray) (r : Int) (w : World) (h : rFslash.f k a0 = some r) :
  Calls Tryz.prog 113 #[.string a0] w fun e w' => e = .returned (.int .i64 r) ∧ Drawn0 w w' := by
 have H := h
 clear h
 unfold rFslash.f at H
 have H' := Z0.mk H
 clear H
 go_enter Tryz.func113, Tryz.ntmps113
 go_wp2
 go_loopg [3] k (fun kq v3 w' => ∃ (x3_1 : Int), v3 = .int .i64 x3_1 ∧ Z0 (rFslash.l0 kq a0 x3_1 = some r) ∧ Z0 (kq ≤ k) ∧ Drawn0 w w')
 case atStart => exact ⟨(0), fs, H', ⟨Nat.le_refl _⟩, by repeat (first | exact Drawn0.refl _ | apply Drawn0.step)⟩
 case round =>
  clear H'
  try clear c1
  obtain ⟨x3_1, rfl, HA, HK1, ⟨m1, rfl⟩⟩ := hrel
  cases gk with
  | zero => exact absurd HA.out (by simp [rFslash.l0])
  | succ k1 =>
   have H := HA.out
   clear HA
   simp only [rFslash.l0] at H
   rcases jd H with ⟨-, c2b0, H⟩ | ⟨-, c2b0, H⟩
   ·obtain ⟨-, c3b0, H⟩ := gd H
    rcases je H with ⟨-, c5b0, c5b1, H⟩ | ⟨c5, c5b0, c5b1, H⟩
    ·obtain rfl := Option.some.inj H
     obtain ⟨hx4, p4, q4⟩ := btA a0 x3_1
     go_wp2
     go_ret
     exact finD
    have H' := Z0.mk H
    clear H
    obtain ⟨hx4, p4, q4⟩ := btA a0 x3_1
    go_wp2
    go_roundg k1
    case measure => have := HK1.out; omega
    case rel => exact ⟨(wrap64 (x3_1 + 1)), fs, H', ⟨by have := HK1.out; omega⟩, by repeat (first | exact Drawn0.refl _ | apply Drawn0.step)⟩
   obtain rfl := Option.some.inj H
   go_wp2
   go_ret
   exact finD
theorem rFBottom.calls (k : Nat) (a0 : ByteArray) (r : ByteArray) (w : World) (h : rFBottom.f k a0 = some r) :
  Calls Tryz.prog 73 #[.string a0] w fun e w' => e = .returned (.string r) ∧ Drawn0 w w' := by
 have H := h
 clear h
 unfold rFBottom.f at H
 obtain ⟨t442, A2, H⟩ := bnd H
 rcases jh H with ⟨-, c3b0, H⟩ | ⟨-, c3b0, H⟩
 ·obtain ⟨ji4, hji4⟩ : ∃ j_ : Int, (wrap64 (t442 + 1)) = j_ := ⟨_, rfl⟩
  replace H : (if 0 ≤ (ji4) then (if (ji4) ≤ (a0.size : Int) then (some (a0.extract ((ji4) : Int).toNat a0.size)) else (none)) else (none)) = some r := by first | (rw [hji4] at H; exact H) | (simp only [hji4] at H ⊢; exact H)
  (try rw [hji4] at A2)
  have hji4w : (IntKind.i64.wrap (t442 + 1)) = ji4 := (i64_w _).trans hji4
  obtain ⟨-, c5b0, c5b1, H⟩ := gt H
  obtain ⟨-, c6b0, c6b1, H⟩ := gt H
  obtain rfl := Option.some.inj H
  go_enter Tryz.func73, Tryz.ntmps73
  go_wp2_with (first | ((with_reducible refine gc_ 113 rfl ?_); refine goD (some 5) Tryz.func113 #[.string a0] (rFslash.calls k a0 t442 _ A2.out) ?_; intro nd))
  go_ret
  exact ⟨by first | rfl | (simp; done) | (simp only [← hji4] <;> (first | rfl | simp)) | (simp [*]; done), by repeat (first | exact Drawn0.refl _ | apply Drawn0.step)⟩
 obtain rfl := Option.some.inj H
 go_enter Tryz.func73, Tryz.ntmps73
 go_wp2_with (first | ((with_reducible refine gc_ 113 rfl ?_); refine goD (some 5) Tryz.func113 #[.string a0] (rFslash.calls k a0 t442 _ A2.out) ?_; intro nd))
 go_ret
 exact finD
theorem rFTop.calls (k : Nat) (a0 : ByteArray) (r : ByteArray) (w : World) (h : rFTop.f k a0 = some r) :
  Calls Tryz.prog 72 #[.string a0] w fun e w' => e = .returned (.string r) ∧ Drawn0 w w' := by
 have H := h
 clear h
 unfold rFTop.f at H
 obtain ⟨t441, A2, H⟩ := bnd H
 rcases jh H with ⟨-, c3b0, H⟩ | ⟨-, c3b0, H⟩
 ·obtain ⟨-, c4b0, c4b1, H⟩ := gt H
  obtain ⟨-, c5b0, c5b1, H⟩ := gt H
  obtain rfl := Option.some.inj H
  go_enter Tryz.func72, Tryz.ntmps72
  go_wp2_with (first | ((with_reducible refine gc_ 113 rfl ?_); refine goD (some 5) Tryz.func113 #[.string a0] (rFslash.calls k a0 t441 _ A2.out) ?_; intro nd))
  go_ret
  exact finD
 obtain rfl := Option.some.inj H
 go_enter Tryz.func72, Tryz.ntmps72
 go_wp2_with (first | ((with_reducible refine gc_ 113 rfl ?_); refine goD (some 5) Tryz.func113 #[.string a0] (rFslash.calls k a0 t441 _ A2.out) ?_; intro nd))
 go_ret
 exact finD
theorem rFDigits.calls (k : Nat) (a0 : ByteArray) (r : Int) (w : World) (h : rFDigits.f k a0 = some r) :
  Calls Tryz.prog 82 #[.string a0] w fun e w' => e = .returned (.int .i64 r) ∧ Below w.heap.size w w' := by
 have HB := Z0.mk (Below.refl w.heap.size w)
 have H := h
 clear h
 unfold rFDigits.f at H
 obtain ⟨t649, A2, H⟩ := bnd H
 obtain ⟨t650, A3, H⟩ := bnd H
 obtain ⟨t651, A4, H⟩ := bnd H
 obtain ⟨t652, A5, H⟩ := bnd H
 obtain ⟨ji6, hji6⟩ : ∃ j_ : Int, (mx t650 t652) = j_ := ⟨_, rfl⟩
 replace H : (some ji6) = some r := by first | (rw [hji6] at H; exact H) | (simp only [hji6] at H ⊢; exact H)
 (try rw [hji6] at A2)
 (try rw [hji6] at A3)
 (try rw [hji6] at A4)
 (try rw [hji6] at A5)
 have hji6_ : (if t650 < t652 then t652 else t650) = ji6 := hji6
 obtain rfl := Option.some.inj H
 go_enter Tryz.func82, Tryz.ntmps82
 go_wp2_with (first | ((with_reducible refine gc_ 72 rfl ?_); refine goD (some 4) Tryz.func72 #[.string a0] (rFTop.calls k a0 t649 _ A2.out) ?_; intro nd) | ((with_reducible refine gc_ 93 rfl ?_); refine goD (some 5) Tryz.func93 #[.string t649] (rEDigits.calls t649 t650 _ A3.out) ?_; intro nd) | ((with_reducible refine gc_ 73 rfl ?_); refine goD (some 7) Tryz.func73 #[.string a0] (rFBottom.calls k a0 t651 _ A4.out) ?_; intro nd) | ((with_reducible refine gc_ 93 rfl ?_); refine goD (some 8) Tryz.func93 #[.string t651] (rEDigits.calls t651 t652 _ A5.out) ?_; intro nd))
 go_ret
 exact ⟨by first | rfl | (simp [errW_none, errW_some] <;> rfl) | (simp only [← hji6]; first | rfl | (simp [errW_none, errW_some] <;> rfl)) | (simp [*, errW_none, errW_some] <;> rfl), bqs⟩
theorem rEForm.calls (k : Nat) (a0 : ByteArray) (r : Bool) (w : World) (h : rEForm.f k a0 = some r) :
  Calls Tryz.prog 92 #[.string a0] w fun e w' => e = .returned (.bool r) ∧ Drawn0 w w' := by
 have H := h
 clear h
 unfold rEForm.f at H
 rcases je H with ⟨-, c2b0, c2b1, H⟩ | ⟨c2, c2b0, c2b1, H⟩
 ·obtain rfl := Option.some.inj H
  go_enter Tryz.func92, Tryz.ntmps92
  go_wp2
  go_ret
  exact finD
 have HC3 := Z0.mk H
 clear H
 go_enter Tryz.func92, Tryz.ntmps92
 go_upto_region 4 with (fail)
 go_cut [14] (fun v14 wc => ∃ (kq : Nat) (x14_2 : Bool), v14 = .bool x14_2 ∧ Z0 (rEForm.j0 kq a0 0 x14_2 = some r) ∧ Z0 (kq ≤ k) ∧ Drawn0 w wc)
 case first =>
  have H := HC3.out
  clear HC3
  rcases jg H with ⟨c4, c4b0, H⟩ | ⟨c4, c4b0, H⟩
  ·have c4b1 : decide (0 < a0.size) = true := decide_eq_true (by omega)
   clear c4
   (first | rw [c4b0] | (simp only [i64_w, i32_w]; rw [c4b0]) | skip)
   obtain ⟨c5, c5b0, H⟩ := gd H
   have c5b1 : decide (0 < a0.size) = true := decide_eq_true (by omega)
   clear c5
   have H' := Z0.mk H
   clear H
   have p6 : 0 ≤ (0 : Int) := (by omega)
   have q6 : 0 < a0.size := (by have : (0 : Int) < (a0.size : Int) := od; omega)
   have hx6 : ∀ h : 0 < a0.size, ((a0[0]'h).toNat : Int) = bt a0 0 := bt_at a0 0
   clear p6
   have qi6 : (0 < (a0.size : Int)) = True := eq_true od
   replace q6 := eq_true q6
   go_wp2
   go_meet
   case rel => exact ⟨_, (((bt a0 0) == 45)), fs, H', ⟨by first | omega | exact Nat.le_refl _⟩, by repeat (first | exact Drawn0.refl _ | apply Drawn0.step)⟩
  have c4b1 : decide (0 < a0.size) = false := decide_eq_false (by omega)
  clear c4
  (first | rw [c4b0] | (simp only [i64_w, i32_w]; rw [c4b0]) | skip)
  have H' := Z0.mk H
  clear H
  go_wp2
  go_meet
  case rel => exact ⟨_, (false), fs, H', ⟨by first | omega | exact Nat.le_refl _⟩, by repeat (first | exact Drawn0.refl _ | apply Drawn0.step)⟩
 case rest =>
  clear HC3
  try clear c2
  try clear c2b0
  try clear c2b1
  try clear p2
  try clear c4
  try clear c4b0
  try clear c4b1
  try clear c5
  try clear c5b0
  try clear c5b1
  try clear p6
  try clear q6
  try clear hx6
  try clear qi6
  try clear p6
  try clear q6
  obtain ⟨kq, x14_2, rfl, HA, HJ2, ⟨mc2, rfl⟩⟩ := hcut
  cases kq with
  | zero => exact absurd HA.out (by simp [rEForm.j0])
  | succ kj2 =>
   have H := HA.out
   clear HA
   simp only [rEForm.j0] at H
   have HC7 := Z0.mk H
   clear H
   go_upto_if 14 with (fail)
   go_cut [3] (fun v3 wc => ∃ (kq : Nat) (x3_6 : Int), v3 = .int .i64 x3_6 ∧ Z0 (rEForm.j1 kq a0 x3_6 = some r) ∧ Z0 (kq ≤ kj2) ∧ Drawn0 w wc)
   case first =>
    have H := HC7.out
    clear HC7
    by_cases c8 : x14_2 = true
    ·subst c8
     have H1 : (rEForm.j1 kj2 a0 1) = some r := by rw [if_pos rfl] at H; exact H
     clear H
     have H := H1
     clear H1
     have H' := Z0.mk H
     clear H
     go_wp2
     go_meet
     case rel => exact ⟨_, (1), fs, H', ⟨by have := HJ2.out; first | omega | exact Nat.le_refl _⟩, by repeat (first | exact Drawn0.refl _ | apply Drawn0.step)⟩
    replace c8 := Bool.eq_false_iff.mpr c8
    subst c8
    have H1 : (rEForm.j1 kj2 a0 0) = some r := by rw [if_neg (show ¬ (false = true) by decide)] at H; exact H
    clear H
    have H := H1
    clear H1
    have H' := Z0.mk H
    clear H
    go_wp2
    go_meet
    case rel => exact ⟨_, (0), fs, H', ⟨by have := HJ2.out; first | omega | exact Nat.le_refl _⟩, by repeat (first | exact Drawn0.refl _ | apply Drawn0.step)⟩
   case rest =>
    clear HC7
    try clear c2
    try clear c2b0
    try clear c2b1
    try clear p2
    try clear c4
    try clear c4b0
    try clear c4b1
    try clear c5
    try clear c5b0
    try clear c5b1
    try clear p6
    try clear q6
    try clear hx6
    try clear qi6
    try clear c8
    try clear p2
    try clear p6
    try clear q6
    obtain ⟨kq, x3_6, rfl, HA, HJ6, ⟨mc6, rfl⟩⟩ := hcut
    cases kq with
    | zero => exact absurd HA.out (by simp [rEForm.j1])
    | succ kj6 =>
     have H := HA.out
     clear HA
     simp only [rEForm.j1] at H
     have HC9 := Z0.mk H
     clear H
     go_upto_region 6 with (fail)
     go_cut [24] (fun v24 wc => ∃ (kq : Nat) (x24_8 : Bool), v24 = .bool x24_8 ∧ Z0 (rEForm.j2 kq a0 x3_6 x24_8 = some r) ∧ Z0 (kq ≤ kj6) ∧ Drawn0 w wc)
     case first =>
      have H := HC9.out
      clear HC9
      rcases je H with ⟨-, c10b0, c10b1, H⟩ | ⟨c10, c10b0, c10b1, H⟩
      ·(first | rw [c10b0] | (simp only [i64_w, i32_w]; rw [c10b0]) | skip)
       have H' := Z0.mk H
       clear H
       go_wp2
       go_meet
       case rel => exact ⟨_, (true), fs, H', ⟨by have := HJ2.out; have := HJ6.out; first | omega | exact Nat.le_refl _⟩, by repeat (first | exact Drawn0.refl _ | apply Drawn0.step)⟩
      (first | rw [c10b0] | (simp only [i64_w, i32_w]; rw [c10b0]) | skip)
      obtain ⟨-, c11b0, H⟩ := gd H
      obtain ⟨-, c12b0, H⟩ := gd H
      have H' := Z0.mk H
      clear H
      obtain ⟨hx13, p13, q13⟩ := btA a0 x3_6
      go_wp2
      go_meet
      case rel => exact ⟨_, (((bt a0 x3_6) == 48)), fs, H', ⟨by have := HJ2.out; have := HJ6.out; first | omega | exact Nat.le_refl _⟩, by repeat (first | exact Drawn0.refl _ | apply Drawn0.step)⟩
     case rest =>
      clear HC9
      try clear c1
      try clear p1
      try clear q1
      try clear hx1
      try clear c2
      try clear c2b0
      try clear c2b1
      try clear p2
      try clear c4
      try clear c4b0
      try clear c4b1
      try clear c5
      try clear c5b0
      try clear c5b1
      try clear c6
      try clear p6
      try clear q6
      try clear hx6
      try clear qi6
      try clear c8
      try clear c9
      try clear c10
      try clear c10b0
      try clear c10b1
      try clear c11
      try clear c11b0
      try clear c12
      try clear c12b0
      try clear p13
      try clear q13
      try clear hx13
      try clear p13
      try clear p2
      try clear p6
      try clear q13
      try clear q6
      obtain ⟨kq, x24_8, rfl, HA, HJ8, ⟨mc8, rfl⟩⟩ := hcut
      cases kq with
      | zero => exact absurd HA.out (by simp [rEForm.j2])
      | succ kj8 =>
       have H := HA.out
       clear HA
       simp only [rEForm.j2] at H
       by_cases c14 : x24_8 = true
       ·subst c14
        have H1 : (some false) = some r := by rw [if_pos rfl] at H; exact H
        clear H
        have H := H1
        clear H1
        obtain rfl := Option.some.inj H
        go_wp2
        go_ret
        exact finD
       replace c14 := Bool.eq_false_iff.mpr c14
       subst c14
       have H1 : (rEForm.l0 kj8 a0 x3_6) = some r := by rw [if_neg (show ¬ (false = true) by decide)] at H; exact H
       clear H
       have H := H1
       clear H1
       have H' := Z0.mk H
       clear H
       go_wp2
       go_loopg [4] kj8 (fun kq v4 w' => ∃ (x4_4 : Int), v4 = .int .i64 x4_4 ∧ Z0 (rEForm.l0 kq a0 x4_4 = some r) ∧ Z0 (kq ≤ kj8) ∧ Drawn0 w w')
       case atStart => exact ⟨(x3_6), fs, H', ⟨Nat.le_refl _⟩, by repeat (first | exact Drawn0.refl _ | apply Drawn0.step)⟩
       case round =>
        clear H'
        try clear c1
        try clear p1
        try clear q1
        try clear hx1
        try clear c2
        try clear c2b0
        try clear c2b1
        try clear p2
        try clear c4
        try clear c4b0
        try clear c4b1
        try clear c5
        try clear c5b0
        try clear c5b1
        try clear c6
        try clear p6
        try clear q6
        try clear hx6
        try clear qi6
        try clear c8
        try clear c9
        try clear c10
        try clear c10b0
        try clear c10b1
        try clear c11
        try clear c11b0
        try clear c12
        try clear c12b0
        try clear p13
        try clear q13
        try clear hx13
        try clear c14
        try clear p1
        try clear p13
        try clear p2
        try clear p6
        try clear q1
        try clear q13
        try clear q6
        obtain ⟨x4_4, rfl, HA, HK4, ⟨m4, rfl⟩⟩ := hrel
        cases gk with
        | zero => exact absurd HA.out (by simp [rEForm.l0])
        | succ k4 =>
         have H := HA.out
         clear HA
         simp only [rEForm.l0] at H
         rcases jd H with ⟨-, c15b0, H⟩ | ⟨-, c15b0, H⟩
         ·obtain ⟨-, c16b0, H⟩ := gd H
          rcases jd H with ⟨-, c18b0, H⟩ | ⟨-, c18b0, H⟩
          ·obtain rfl := Option.some.inj H
           obtain ⟨hx17, p17, q17⟩ := btA a0 x4_4
           go_wp2
           go_ret
           exact finD
          rcases jg H with ⟨-, c20b0, H⟩ | ⟨-, c20b0, H⟩
          ·obtain rfl := Option.some.inj H
           obtain ⟨hx17, p17, q17⟩ := btA a0 x4_4
           obtain ⟨hx19, p19, q19⟩ := btA a0 x4_4
           go_wp2
           go_ret
           exact finD
          have H' := Z0.mk H
          clear H
          obtain ⟨hx17, p17, q17⟩ := btA a0 x4_4
          obtain ⟨hx19, p19, q19⟩ := btA a0 x4_4
          go_wp2
          go_roundg k4
          case measure => have := HJ2.out; have := HJ6.out; have := HJ8.out; have := HK4.out; omega
          case rel => exact ⟨(wrap64 (x4_4 + 1)), fs, H', ⟨by have := HJ2.out; have := HJ6.out; have := HJ8.out; have := HK4.out; omega⟩, by repeat (first | exact Drawn0.refl _ | apply Drawn0.step)⟩
         obtain rfl := Option.some.inj H
         go_wp2
         go_ret
         exact finD
theorem rECheck.calls (k : Nat) (a0 : ByteArray) (r : Int) (w : World) (h : rECheck.f k a0 = some r) :
  Calls Tryz.prog 36 #[.string a0] w fun e w' => e = .returned (.int .i64 r) ∧ Drawn0 w w' := by
 have H := h
 clear h
 unfold rECheck.f at H
 obtain ⟨t439, A2, H⟩ := bnd H
 by_cases c3 : t439 = true
 ·subst c3
  have H1 : ((rEDigits.f a0).bind fun t440 => (if t440 > 4096 then (some 10) else (some 0))) = some r := by rw [if_pos rfl] at H; exact H
  clear H
  have H := H1
  clear H1
  obtain ⟨t440, A4, H⟩ := bnd H
  rcases jg H with ⟨-, c5b0, H⟩ | ⟨-, c5b0, H⟩
  ·obtain rfl := Option.some.inj H
   go_enter Tryz.func36, Tryz.ntmps36
   go_wp2_with (first | ((with_reducible refine gc_ 92 rfl ?_); refine goD (some 4) Tryz.func92 #[.string a0] (rEForm.calls k a0 true _ A2.out) ?_; intro nd) | ((with_reducible refine gc_ 93 rfl ?_); refine goD (some 7) Tryz.func93 #[.string a0] (rEDigits.calls a0 t440 _ A4.out) ?_; intro nd))
   go_ret
   exact finD
  obtain rfl := Option.some.inj H
  go_enter Tryz.func36, Tryz.ntmps36
  go_wp2_with (first | ((with_reducible refine gc_ 92 rfl ?_); refine goD (some 4) Tryz.func92 #[.string a0] (rEForm.calls k a0 true _ A2.out) ?_; intro nd) | ((with_reducible refine gc_ 93 rfl ?_); refine goD (some 7) Tryz.func93 #[.string a0] (rEDigits.calls a0 t440 _ A4.out) ?_; intro nd))
  go_ret
  exact finD
 replace c3 := Bool.eq_false_iff.mpr c3
 subst c3
 have H1 : (some 3) = some r := by rw [if_neg (show ¬ (false = true) by decide)] at H; exact H
 clear H
 have H := H1
 clear H1
 obtain rfl := Option.some.inj H
 go_enter Tryz.func36, Tryz.ntmps36
 go_wp2_with (first | ((with_reducible refine gc_ 92 rfl ?_); refine goD (some 4) Tryz.func92 #[.string a0] (rEForm.calls k a0 false _ A2.out) ?_; intro nd))
 go_ret
 exact finD
theorem rEMagnitude.calls (a0 : ByteArray) (r : ByteArray) (w : World) (h : rEMagnitude.f a0 = some r) :
  Calls Tryz.prog 157 #[.string a0] w fun e w' => e = .returned (.string r) ∧ Drawn0 w w' := by
 have H := h
 clear h
 unfold rEMagnitude.f at H
 obtain ⟨t477, A2, H⟩ := bnd H
 by_cases c3 : t477 = true
 ·subst c3
  have H1 : (if 1 ≤ (a0.size : Int) then (some (a0.extract 1 a0.size)) else (none)) = some r := by rw [if_pos rfl] at H; exact H
  clear H
  have H := H1
  clear H1
  obtain ⟨-, c4b0, c4b1, H⟩ := gt H
  obtain rfl := Option.some.inj H
  go_enter Tryz.func157, Tryz.ntmps157
  go_wp2_with (first | ((with_reducible refine gc_ 126 rfl ?_); refine goD (some 4) Tryz.func126 #[.string a0] (rENegative.calls a0 true _ A2.out) ?_; intro nd))
  go_ret
  exact finD
 replace c3 := Bool.eq_false_iff.mpr c3
 subst c3
 have H1 : (some a0) = some r := by rw [if_neg (show ¬ (false = true) by decide)] at H; exact H
 clear H
 have H := H1
 clear H1
 obtain rfl := Option.some.inj H
 go_enter Tryz.func157, Tryz.ntmps157
 go_wp2_with (first | ((with_reducible refine gc_ 126 rfl ?_); refine goD (some 4) Tryz.func126 #[.string a0] (rENegative.calls a0 false _ A2.out) ?_; intro nd))
 go_ret
 exact finD
theorem rENegated.calls (a0 : ByteArray) (r : ByteArray) (w : World) (h : rENegated.f a0 = some r) :
  Calls Tryz.prog 114 #[.string a0] w fun e w' => e = .returned (.string r) ∧ Drawn0 w w' := by
 have H := h
 clear h
 unfold rENegated.f at H
 rcases je H with ⟨-, c2b0, c2b1, H⟩ | ⟨c2, c2b0, c2b1, H⟩
 ·obtain rfl := Option.some.inj H
  go_enter Tryz.func114, Tryz.ntmps114
  go_wp2
  go_ret
  exact finD
 obtain ⟨t517, A3, H⟩ := bnd H
 by_cases c4 : t517 = true
 ·subst c4
  have H1 : (if 1 ≤ (a0.size : Int) then (some (a0.extract 1 a0.size)) else (none)) = some r := by rw [if_pos rfl] at H; exact H
  clear H
  have H := H1
  clear H1
  obtain ⟨-, c5b0, c5b1, H⟩ := gt H
  obtain rfl := Option.some.inj H
  go_enter Tryz.func114, Tryz.ntmps114
  go_wp2_with (first | ((with_reducible refine gc_ 126 rfl ?_); refine goD (some 7) Tryz.func126 #[.string a0] (rENegative.calls a0 true _ A3.out) ?_; intro nd))
  go_ret
  exact finD
 replace c4 := Bool.eq_false_iff.mpr c4
 subst c4
 have H1 : (if 1 + a0.size ≤ 9223372036854775807 then (some ((⟨#[45]⟩ : ByteArray) ++ a0)) else (none)) = some r := by rw [if_neg (show ¬ (false = true) by decide)] at H; exact H
 clear H
 have H := H1
 clear H1
 obtain ⟨c6, c6b0, c6b1, H⟩ := gt H
 try have c6b2 : (9223372036854775807 < 1 + a0.size) = False := eq_false (Nat.not_lt.2 c6)
 obtain rfl := Option.some.inj H
 go_enter Tryz.func114, Tryz.ntmps114
 go_wp2_with (first | ((with_reducible refine gc_ 126 rfl ?_); refine goD (some 7) Tryz.func126 #[.string a0] (rENegative.calls a0 false _ A3.out) ?_; intro nd))
 go_ret
 exact finD
theorem rEWhole.calls (k : Nat) (a0 : Int) (r : ByteArray) (w : World) (h : rEWhole.f k a0 = some r) :
  Calls Tryz.prog 134 #[.int .i64 a0] w fun e w' => e = .returned (.string r) ∧ Below w.heap.size w w' := by
 have HB := Z0.mk (Below.refl w.heap.size w)
 have H := h
 clear h
 unfold rEWhole.f at H
 rcases je H with ⟨-, c2b0, c2b1, H⟩ | ⟨c2, c2b0, c2b1, H⟩
 ·obtain rfl := Option.some.inj H
  go_enter Tryz.func134, Tryz.ntmps134
  go_wp2
  go_ret
  exact finE
 have H' := Z0.mk H
 clear H
 go_enter Tryz.func134, Tryz.ntmps134
 go_wp2
 go_loopg [3, 4] k (fun kq v3 v4 w' => ∃ (x3_1 : ByteArray) (x4_1 : Int), v3 = .string x3_1 ∧ v4 = .int .i64 x4_1 ∧ Z0 (rEWhole.l0 kq a0 x3_1 x4_1 = some r) ∧ Z0 (kq ≤ k) ∧ Z0 (Below w.heap.size w w'))
 case atStart => exact ⟨((⟨#[]⟩ : ByteArray)), (a0), fs, fs, H', ⟨Nat.le_refl _⟩, ⟨bqs⟩⟩
 case round =>
  clear H'
  try clear c1
  try clear c2
  try clear c2b0
  try clear c2b1
  try clear p2
  obtain ⟨x3_1, x4_1, rfl, rfl, HA, HK1, HB⟩ := hrel
  cases gk with
  | zero => exact absurd HA.out (by simp [rEWhole.l0])
  | succ k1 =>
   have H := HA.out
   clear HA
   simp only [rEWhole.l0] at H
   rcases je H with ⟨-, c3b0, c3b1, H⟩ | ⟨c3, c3b0, c3b1, H⟩
   ·rcases jd H with ⟨-, c4b0, H⟩ | ⟨-, c4b0, H⟩
    ·obtain ⟨c5, c5b0, c5b1, H⟩ := gt H
     try have c5b2 : (9223372036854775807 < 1 + x3_1.size) = False := eq_false (Nat.not_lt.2 c5)
     obtain rfl := Option.some.inj H
     go_wp2
     go_ret
     exact finE
    obtain rfl := Option.some.inj H
    go_wp2
    go_ret
    exact finE
   obtain ⟨ji6, hji6⟩ : ∃ j_ : Int, (mx (Int.tmod x4_1 10) (wrap64 (-(Int.tmod x4_1 10)))) = j_ := ⟨_, rfl⟩
   replace H : (if 0 ≤ (ji6) then (if (ji6) ≤ (wrap64 ((ji6) + 1)) then (if (wrap64 ((ji6) + 1)) ≤ 10 then (if ((⟨#[48, 49, 50, 51, 52, 53, 54, 55, 56, 57]⟩ : ByteArray).extract ((ji6) : Int).toNat ((wrap64 ((ji6) + 1)) : Int).toNat).size + x3_1.size ≤ 9223372036854775807 then (rEWhole.l0 k1 a0 (((⟨#[48, 49, 50, 51, 52, 53, 54, 55, 56, 57]⟩ : ByteArray).extract ((ji6) : Int).toNat ((wrap64 ((ji6) + 1)) : Int).toNat) ++ x3_1) (wrap64 (Int.tdiv x4_1 10))) else (none)) else (none)) else (none)) else (none)) = some r := by first | (rw [hji6] at H; exact H) | (simp only [hji6] at H ⊢; exact H)
   have hji6_ : (if (Int.tmod x4_1 10) < (wrap64 (-(Int.tmod x4_1 10))) then (wrap64 (-(Int.tmod x4_1 10))) else (Int.tmod x4_1 10)) = ji6 := hji6
   obtain ⟨-, c7b0, c7b1, H⟩ := gt H
   obtain ⟨c8, c8b0, c8b1, H⟩ := gt H
   obtain ⟨c9, c9b0, c9b1, H⟩ := gt H
   obtain ⟨c10, c10b0, c10b1, H⟩ := gt H
   try have c10b2 : (9223372036854775807 < ((⟨#[48, 49, 50, 51, 52, 53, 54, 55, 56, 57]⟩ : ByteArray).extract ((ji6) : Int).toNat ((wrap64 ((ji6) + 1)) : Int).toNat).size + x3_1.size) = False := eq_false (Nat.not_lt.2 c10)
   have H' := Z0.mk H
   clear H
   go_wp2
   go_roundg k1
   case measure => have := HK1.out; omega
   case rel => exact ⟨(((⟨#[48, 49, 50, 51, 52, 53, 54, 55, 56, 57]⟩ : ByteArray).extract ((ji6) : Int).toNat ((wrap64 ((ji6) + 1)) : Int).toNat) ++ x3_1), (wrap64 (Int.tdiv x4_1 10)), (by first | rfl | (simp; done) | (simp only [← hji6] <;> (first | rfl | simp)) | (simp [*]; done)), fs, H', ⟨by have := HK1.out; omega⟩, ⟨bqs⟩⟩
theorem rEcut.calls (k : Nat) (P0_ : Nat → Prop) (A0 : Option Addr) (c0 : Nat) (l0 : List Int) (r : List Int) (w : World) (hs0 : Kd.V (Kd.int .i64) 3 w w.heap.size (fun k_ => P0_ k_) (.slice A0 l0.length c0) l0) (h : rEcut.f k l0 = some r) :
  Calls Tryz.prog 142 #[.slice A0 l0.length c0] w fun e w' => ∃ v0_ : Value, e = .returned (v0_) ∧ Kd.V (Kd.int .i64) 3 w' w.heap.size (fun k_ => (P0_ k_ ∨ w.heap.size ≤ k_)) v0_ r ∧ Below w.heap.size w w' := by
 have HO0 := Z0.mk (show Kd.V (Kd.int .i64) 3 w w.heap.size (fun k_ => (P0_ k_ ∨ w.heap.size ≤ k_)) (.slice A0 l0.length c0) l0 from Kd.V_mono hs0 (fun k_ hk => .inl hk))
 have HB := Z0.mk (Below.refl w.heap.size w)
 have H := h
 clear h
 unfold rEcut.f at H
 have H' := Z0.mk H
 clear H
 go_enter Tryz.func142, Tryz.ntmps142
 go_wp2
 go_loopg [3] k (fun kq v3 w' => ∃ (x3_1 : Int), v3 = .int .i64 x3_1 ∧ Z0 (rEcut.l0 kq l0 x3_1 = some r) ∧ Z0 (kq ≤ k) ∧ Z0 (Kd.V (Kd.int .i64) 3 w' w.heap.size (fun k_ => (P0_ k_ ∨ w.heap.size ≤ k_)) (.slice A0 l0.length c0) l0) ∧ Z0 (Below w.heap.size w w'))
 case atStart => exact ⟨((l0.length : Int)), fs, H', ⟨Nat.le_refl _⟩, ⟨vq HO0⟩, ⟨bqs⟩⟩
 case round =>
  clear H'
  try clear c1
  obtain ⟨x3_1, rfl, HA, HK1, HO_0, HB⟩ := hrel
  cases gk with
  | zero => exact absurd HA.out (by simp [rEcut.l0])
  | succ k1 =>
   have H := HA.out
   clear HA
   simp only [rEcut.l0] at H
   rcases jg H with ⟨-, c2b0, H⟩ | ⟨-, c2b0, H⟩
   ·obtain ⟨ji3, hji3⟩ : ∃ j_ : Int, (wrap64 (x3_1 - 1)) = j_ := ⟨_, rfl⟩
    replace H : (if 0 ≤ (ji3) then (if (ji3) < (l0.length : Int) then (if (rd l0 (ji3)) = 0 then (rEcut.l0 k1 l0 ji3) else (if 0 ≤ x3_1 then (if x3_1 ≤ (l0.length : Int) then (some (l0.take (x3_1 : Int).toNat)) else (none)) else (none))) else (none)) else (none)) = some r := by first | (rw [hji3] at H; exact H) | (simp only [hji3] at H ⊢; exact H)
    have hji3w : (IntKind.i64.wrap (x3_1 - 1)) = ji3 := (i64_w _).trans hji3
    obtain ⟨-, c4b0, H⟩ := gd H
    obtain ⟨-, c5b0, H⟩ := gd H
    rcases je H with ⟨-, c6b0, c6b1, H⟩ | ⟨c6, c6b0, c6b1, H⟩
    ·have H' := Z0.mk H
     clear H
     obtain ⟨ad451, e451, hx451_0, p451, q451⟩ := atI (Kd.V_reads' HO_0.out).2.2 (ji3)
     cases e451
     go_wp2
     go_roundg k1
     case measure => have := HK1.out; omega
     case rel => exact ⟨(ji3), (by first | rfl | (simp; done) | (simp only [← hji3] <;> (first | rfl | simp)) | (simp [*]; done)), H', ⟨by have := HK1.out; omega⟩, ⟨vq HO_0⟩, ⟨bqs⟩⟩
    obtain ⟨-, c7b0, c7b1, H⟩ := gt H
    obtain ⟨-, c8b0, c8b1, H⟩ := gt H
    generalize hy452 : (l0.take (x3_1 : Int).toNat : List Int) = y452 at H
    have Ny452 := Z0.mk hy452.symm
    clear hy452
    obtain rfl := Option.some.inj H
    obtain ⟨ad451, e451, hx451_0, p451, q451⟩ := atI (Kd.V_reads' HO_0.out).2.2 (ji3)
    cases e451
    have q9 : (x3_1 : Int) ≤ ((l0.length : Int) : Int) := od
    obtain ⟨i09, hi09, _, hsz9, _⟩ := info_parts info3
    have hroom9 : l0.length ≤ c0 := (Kd.V_reads' HO_0.out).2.1
    have hC9 : Kd.F (Kd.int .i64) _ _ (some ad451) l0.length l0 := (Kd.V_at (base := w.heap.size) HO_0.out).2.2
    have hcut9 := cut_to (P := Tryz.prog) 86 3 .i64 Tryz.underlying86 hi09 (some ad451) l0.length c0 x3_1 od q9 hroom9
    have hr9 := Kd.F_take (m := (x3_1 : Int).toNat) hC9 (by omega)
    have hy9 : y452.length = (x3_1 : Int).toNat := (by rw [Ny452.out, List.length_take]; omega)
    rw [← Ny452.out] at hr9
    rw [← hy9] at hcut9
    have HO456 := Z0.mk (show Kd.V (Kd.int .i64) 3 _ w.heap.size _ (.slice (some ad451) y452.length c0) y452 from Kd.V_mk (by omega) hr9)
    have HC456 := Z0.mk (show y452.length ≤ c0 from by omega)
    clear hr9 hC9 hroom9 hi09 hsz9
    have KY9 := Z0.mk hy9
    clear hy9
    replace q9 := eq_true q9
    go_wp2
    go_ret
    exact ⟨_, by first | rfl | (simp [errW_none, errW_some] <;> rfl) | (simp only [← hji3]; first | rfl | (simp [errW_none, errW_some] <;> rfl)) | (simp [*, errW_none, errW_some] <;> rfl), vq HO456, bqs⟩
   obtain ⟨-, c10b0, c10b1, H⟩ := gt H
   obtain ⟨-, c11b0, c11b1, H⟩ := gt H
   generalize hy457 : (l0.take (x3_1 : Int).toNat : List Int) = y457 at H
   have Ny457 := Z0.mk hy457.symm
   clear hy457
   obtain rfl := Option.some.inj H
   have q12 : (x3_1 : Int) ≤ ((l0.length : Int) : Int) := od
   obtain ⟨i012, hi012, _, hsz12, _⟩ := info_parts info3
   have hroom12 : l0.length ≤ c0 := (Kd.V_reads' HO_0.out).2.1
   have hC12 : Kd.F (Kd.int .i64) _ _ A0 l0.length l0 := (Kd.V_at (base := w.heap.size) HO_0.out).2.2
   have hcut12 := cut_to (P := Tryz.prog) 86 3 .i64 Tryz.underlying86 hi012 A0 l0.length c0 x3_1 od q12 hroom12
   have hr12 := Kd.F_take (m := (x3_1 : Int).toNat) hC12 (by omega)
   have hy12 : y457.length = (x3_1 : Int).toNat := (by rw [Ny457.out, List.length_take]; omega)
   rw [← Ny457.out] at hr12
   rw [← hy12] at hcut12
   have HO461 := Z0.mk (show Kd.V (Kd.int .i64) 3 _ w.heap.size _ (.slice A0 y457.length c0) y457 from Kd.V_mk (by omega) hr12)
   have HC461 := Z0.mk (show y457.length ≤ c0 from by omega)
   clear hr12 hC12 hroom12 hi012 hsz12
   have KY12 := Z0.mk hy12
   clear hy12
   replace q12 := eq_true q12
   go_wp2
   go_ret
   exact ⟨_, fe, vq HO461, bqs⟩
theorem rEdigits.calls (k : Nat) (a0 : ByteArray) (r : List Int) (w : World) (h : rEdigits.f k a0 = some r) :
  Calls Tryz.prog 138 #[.string a0] w fun e w' => ∃ v0_ : Value, e = .returned (v0_) ∧ Kd.R (Kd.int .i64) 3 w' w.heap.size (fun _ => True) v0_ r ∧ Below w.heap.size w w' := by
 have HB := Z0.mk (Below.refl w.heap.size w)
 have H := h
 clear h
 unfold rEdigits.f at H
 have H' := Z0.mk H
 clear H
 go_enter Tryz.func138, Tryz.ntmps138
 go_wp2
 go_loopg [3, 4] k (fun kq v3 v4 w' => ∃ (x3_1 : List Int) (x4_1 : Int), v4 = .int .i64 x4_1 ∧ Z0 (rEdigits.l0 kq a0 x3_1 x4_1 = some r) ∧ Z0 (kq ≤ k) ∧ Z0 (Kd.R (Kd.int .i64) 3 w' w.heap.size (fun _ => True) v3 x3_1) ∧ Z0 (Below w.heap.size w w'))
 case atStart => exact ⟨(([] : List Int)), (wrap64 ((a0.size : Int) - 1)), fs, H', ⟨Nat.le_refl _⟩, ⟨by first | exact Kd.R_nil _ _ _ _ _ | exact Kd.N_nil _ _ _ _ _ | exact Kd.V_nil _ _ _ _ _ | exact Kd.Q_nil _ _ _ _ _ | exact Kd.S_nil _ _ _ _ _⟩, ⟨bqs⟩⟩
 case round =>
  clear H'
  try clear c1
  obtain ⟨x3_1, x4_1, rfl, HA, HK1, HO_3, HB⟩ := hrel
  cases gk with
  | zero => exact absurd HA.out (by simp [rEdigits.l0])
  | succ k1 =>
   have H := HA.out
   clear HA
   simp only [rEdigits.l0] at H
   rcases jh H with ⟨-, c2b0, H⟩ | ⟨-, c2b0, H⟩
   ·obtain ⟨-, c3b0, H⟩ := gd H
    obtain ⟨-, c4b0, H⟩ := gd H
    rcases je H with ⟨-, c6b0, c6b1, H⟩ | ⟨c6, c6b0, c6b1, H⟩
    ·obtain rfl := Option.some.inj H
     obtain ⟨hx5, p5, q5⟩ := btA a0 x4_1
     go_wp2
     go_ret
     exact ⟨_, fe, rq HO_3, bqs⟩
    obtain ⟨c8, H⟩ := gn H
    have LMc8 := Z0.mk c8
    clear c8
    generalize hy444 : (x3_1 ++ [((bt a0 x4_1) - 48) % 256] : List Int) = y444 at H
    have Ny444 := Z0.mk hy444.symm
    clear hy444
    have H' := Z0.mk H
    clear H
    obtain ⟨hx5, p5, q5⟩ := btA a0 x4_1
    obtain ⟨hx7, p7, q7⟩ := btA a0 x4_1
    go_wp2_with (first | ((with_reducible refine gate_builtin (b := .append) (xs := #[.tmp 18, .tmp 24]) rfl ?_); at_builtin; refine Kd.R_append (Kd.int .i64) (w0 := w) w.heap.size rfl (.tmp 18) (.tmp 24) 86 3 (.int .i64 0) 8 rfl Tryz.underlying86 info3 rfl (by decide) (by omega) u3 x3_1 (((bt a0 x4_1) - 48) % 256) [.int .i64 (((bt a0 x4_1) - 48) % 256)] (fun _ => True) (fun _ => False) rfl rfl ?aP (fun _ hk => hk.elim) ?aF ?aO ?aB ?aS ?aL ?_; (case aP => exact rfl); (case aB => exact bqs); (case aF => exact (fun _ _ => trivial)); (case aO => exact (rq HO_3)); (case aS => exact (below_size bqs)); (case aL => have := LMc8.out; omega); intro v445 w9 ho hb hg hat; rw [← Ny444.out] at ho; have HO446 := Z0.mk (ho); replace HB := Z0.mk (hb); clear HO_3; clear ho hb hg hat))
    go_roundg k1
    case measure => have := HK1.out; omega
    case rel => exact ⟨(y444), (wrap64 (x4_1 - 1)), fs, H', ⟨by have := HK1.out; omega⟩, ⟨rq HO446⟩, ⟨bqs⟩⟩
   obtain rfl := Option.some.inj H
   go_wp2
   go_ret
   exact ⟨_, fe, rq HO_3, bqs⟩
theorem rEmade.calls (k : Nat) (A0 : Option Addr) (c0 : Nat) (l0 : List Int) (a1 : Bool) (r : ByteArray) (w : World) (hr0 : Kd.C (Kd.int .i64) w A0 l0.length l0) (hc0 : l0.length ≤ c0) (h : rEmade.f k l0 a1 = some r) :
  Calls Tryz.prog 136 #[.slice A0 l0.length c0, .bool a1] w fun e w' => e = .returned (.string r) ∧ Below w.heap.size w w' := by
 have HR0 := Z0.mk hr0
 have HC0 := Z0.mk hc0
 clear hr0 hc0
 have HB := Z0.mk (Below.refl w.heap.size w)
 have H := h
 clear h
 unfold rEmade.f at H
 obtain ⟨t479, A3, H⟩ := bnd H
 rcases je H with ⟨-, c4b0, c4b1, H⟩ | ⟨c4, c4b0, c4b1, H⟩
 ·obtain rfl := Option.some.inj H
  go_enter Tryz.func136, Tryz.ntmps136
  go_wp2_with (first | ((with_reducible refine gc_ 142 rfl ?_); refine gL 8 Tryz.func142 (rEcut.calls k (fun k_ => k_ < w.heap.size) _ _ l0 t479 _ ?side1 A3.out) ?_; (case side1 => exact Kd.V_mk HC0.out (Kd.F_below (Kd.C_F (Kd.heap_int .i64) HR0.out) bqs)); rintro _ w5 ⟨v480, rfl, ho0, hb⟩; refine ⟨_, rfl, ?_⟩; have HO481 := Z0.mk (Kd.V_lower (Kd.V_mono (ok' := fun k_ => True) ho0 (fun k_ hk_ => trivial)) (below_size bqs)); replace HB := fB HB hb; clear hb ho0; obtain ⟨Ao6, co6, eo6⟩ := Kd.V_slice HO481.out; subst eo6))
  go_ret
  exact finE
 have c4b2 : ¬ (t479 = []) := fun h_ => c4 (by rw [h_]; rfl)
 have HC7 := Z0.mk H
 clear H
 go_enter Tryz.func136, Tryz.ntmps136
 go_upto_if 12 with (first | ((with_reducible refine gc_ 142 rfl ?_); refine gL 8 Tryz.func142 (rEcut.calls k (fun k_ => k_ < w.heap.size) _ _ l0 t479 _ ?side1 A3.out) ?_; (case side1 => exact Kd.V_mk HC0.out (Kd.F_below (Kd.C_F (Kd.heap_int .i64) HR0.out) bqs)); rintro _ w8 ⟨v480, rfl, ho0, hb⟩; refine ⟨_, rfl, ?_⟩; have HO481 := Z0.mk (Kd.V_lower (Kd.V_mono (ok' := fun k_ => True) ho0 (fun k_ hk_ => trivial)) (below_size bqs)); replace HB := fB HB hb; clear hb ho0; obtain ⟨Ao9, co9, eo9⟩ := Kd.V_slice HO481.out; subst eo9))
 (try simp only [Act.put, List.setIfInBounds_toArray, List.set_cons_zero, List.set_cons_succ])
 go_cut [5] (fun v5 wc => ∃ (kq : Nat) (x5_6 : List Int), Z0 (rEmade.j0 kq t479 x5_6 = some r) ∧ Z0 (kq ≤ k) ∧ Z0 (Kd.V (Kd.int .i64) 3 wc w.heap.size (fun k_ => some k_ ≠ (v5 : Value).ownBlock) (.slice Ao9 t479.length co9) t479) ∧ Z0 (Kd.R (Kd.int .u8) 5 wc w.heap.size (fun _ => True) v5 x5_6) ∧ Z0 (Below w.heap.size w wc))
 case first =>
  have H := HC7.out
  clear HC7
  by_cases c10 : a1 = true
  ·subst c10
   have H1 : (if ([] : List Int).length < 140737488355328 then (rEmade.j0 k t479 (([] : List Int) ++ [45])) else (none)) = some r := by rw [if_pos rfl] at H; exact H
   clear H
   have H := H1
   clear H1
   obtain ⟨c11, H⟩ := gn H
   have LMc11 := Z0.mk c11
   clear c11
   generalize hy482 : (([] : List Int) ++ [45] : List Int) = y482 at H
   have Ny482 := Z0.mk hy482.symm
   clear hy482
   have H' := Z0.mk H
   clear H
   go_wp2_with (first | ((with_reducible refine gate_builtin (b := .append) (xs := #[.tmp 13, .tmp 14]) rfl ?_); at_builtin; refine Kd.R_append (Kd.int .u8) (w0 := w) w.heap.size rfl (.tmp 13) (.tmp 14) 101 5 (.int .u8 0) 1 rfl Tryz.underlying101 info5 rfl (by decide) (by omega) (.slice none 0 0) ([] : List Int) 45 [.int .u8 45] (fun _ => True) (fun _ => False) rfl rfl ?aP (fun _ hk => hk.elim) ?aF ?aO ?aB ?aS ?aL ?_; (case aP => exact rfl); (case aB => exact bqs); (case aF => exact (fun _ _ => trivial)); (case aO => exact ((Kd.R_nil _ _ _ _ (fun _ => True)))); (case aS => exact (below_size bqs)); (case aL => have := LMc11.out; omega); intro v483 w12 ho hb hg hat; rw [← Ny482.out] at ho; have HO484 := Z0.mk (ho); replace HO481 := Z0.mk (Kd.V_afterv (Kd.V_apart_nil (vq HO481)) hg hat); replace HB := Z0.mk (hb); clear ho hb hg hat))
   go_meet
   case rel => exact ⟨_, (y482), H', ⟨by first | omega | exact Nat.le_refl _⟩, ⟨by (with_reducible repeat (first | apply Kd.V_alloc | apply Kd.V_drewN | apply Kd.V_drew)); exact Kd.V_mono HO481.out (fun _ hk => hk.2)⟩, ⟨rq HO484⟩, ⟨bqs⟩⟩
  replace c10 := Bool.eq_false_iff.mpr c10
  subst c10
  have H1 : (rEmade.j0 k t479 ([] : List Int)) = some r := by rw [if_neg (show ¬ (false = true) by decide)] at H; exact H
  clear H
  have H := H1
  clear H1
  have H' := Z0.mk H
  clear H
  go_wp2
  go_meet
  case rel => exact ⟨_, (([] : List Int)), H', ⟨by first | omega | exact Nat.le_refl _⟩, ⟨by (with_reducible repeat (first | apply Kd.V_alloc | apply Kd.V_drewN | apply Kd.V_drew)); exact Kd.V_mono HO481.out (fun _ hk => (by simp [Value.ownBlock]))⟩, ⟨by first | exact Kd.R_nil _ _ _ _ _ | exact Kd.N_nil _ _ _ _ _ | exact Kd.V_nil _ _ _ _ _ | exact Kd.Q_nil _ _ _ _ _ | exact Kd.S_nil _ _ _ _ _⟩, ⟨bqs⟩⟩
 case rest =>
  clear HC7
  try clear c1
  try clear p2
  try clear c4
  try clear c4b0
  try clear c4b1
  try clear c4b2
  try clear c10
  try clear c11
  obtain ⟨kq, x5_6, HA, HJ6, HO_0, HO_5, HB⟩ := hcut
  cases kq with
  | zero => exact absurd HA.out (by simp [rEmade.j0])
  | succ kj6 =>
   have H := HA.out
   clear HA
   simp only [rEmade.j0] at H
   have H' := Z0.mk H
   clear H
   go_wp2
   go_loopg [5, 6] kj6 (fun kq v5 v6 w' => ∃ (x5_2 : List Int) (x6_2 : Int), v6 = .int .i64 x6_2 ∧ Z0 (rEmade.l0 kq t479 x5_2 x6_2 = some r) ∧ Z0 (kq ≤ kj6) ∧ Z0 (Kd.V (Kd.int .i64) 3 w' w.heap.size (fun k_ => some k_ ≠ (v5 : Value).ownBlock) (.slice Ao9 t479.length co9) t479) ∧ Z0 (Kd.R (Kd.int .u8) 5 w' w.heap.size (fun _ => True) v5 x5_2) ∧ Z0 (Below w.heap.size w w'))
   case atStart => exact ⟨(x5_6), (wrap64 ((t479.length : Int) - 1)), fs, H', ⟨Nat.le_refl _⟩, ⟨vq HO_0⟩, ⟨rq HO_5⟩, ⟨bqs⟩⟩
   case round =>
    clear H'
    try clear c1
    try clear p2
    try clear c4
    try clear c4b0
    try clear c4b1
    try clear c4b2
    try clear p6
    try clear c10
    try clear c11
    try clear p2
    obtain ⟨x5_2, x6_2, rfl, HA, HK2, HO_0, HO_5, HB⟩ := hrel
    cases gk with
    | zero => exact absurd HA.out (by simp [rEmade.l0])
    | succ k2 =>
     have H := HA.out
     clear HA
     simp only [rEmade.l0] at H
     rcases jh H with ⟨-, c13b0, H⟩ | ⟨-, c13b0, H⟩
     ·obtain ⟨-, c14b0, H⟩ := gd H
      obtain ⟨-, c15b0, H⟩ := gd H
      obtain ⟨c16, H⟩ := gn H
      have LMc16 := Z0.mk c16
      clear c16
      generalize hy486 : (x5_2 ++ [(wrap64 (48 + (rd t479 x6_2))) % 256] : List Int) = y486 at H
      have Ny486 := Z0.mk hy486.symm
      clear hy486
      have H' := Z0.mk H
      clear H
      obtain ⟨ad485, e485, hx485_0, p485, q485⟩ := atI (Kd.V_reads' HO_0.out).2.2 x6_2
      cases e485
      go_wp2_with (first | ((with_reducible refine gate_builtin (b := .append) (xs := #[.tmp 23, .tmp 30]) rfl ?_); at_builtin; refine Kd.R_append (Kd.int .u8) (w0 := w) w.heap.size rfl (.tmp 23) (.tmp 30) 101 5 (.int .u8 0) 1 rfl Tryz.underlying101 info5 rfl (by decide) (by omega) u5 x5_2 ((wrap64 (48 + (rd t479 x6_2))) % 256) [.int .u8 ((wrap64 (48 + (rd t479 x6_2))) % 256)] (fun _ => True) (fun _ => False) rfl rfl ?aP (fun _ hk => hk.elim) ?aF ?aO ?aB ?aS ?aL ?_; (case aP => exact rfl); (case aB => exact bqs); (case aF => exact (fun _ _ => trivial)); (case aO => exact (rq HO_5)); (case aS => exact (below_size bqs)); (case aL => have := LMc16.out; omega); intro v487 w17 ho hb hg hat; rw [← Ny486.out] at ho; have HO488 := Z0.mk (ho); replace HO_0 := Z0.mk (Kd.V_afterv (ok := (fun _ => True)) (by (with_reducible repeat (first | apply Kd.V_alloc | apply Kd.V_drewN | apply Kd.V_drew)); exact Kd.V_mono HO_0.out (fun _ hk => ⟨trivial, hk⟩)) hg hat); replace HB := Z0.mk (hb); clear HO_5; clear ho hb hg hat))
      go_roundg k2
      case measure => have := HJ6.out; have := HK2.out; omega
      case rel => exact ⟨(y486), (wrap64 (x6_2 - 1)), fs, H', ⟨by have := HJ6.out; have := HK2.out; omega⟩, ⟨by (with_reducible repeat (first | apply Kd.V_alloc | apply Kd.V_drewN | apply Kd.V_drew)); exact Kd.V_mono HO_0.out (fun _ hk => hk.2)⟩, ⟨rq HO488⟩, ⟨bqs⟩⟩
     obtain rfl := Option.some.inj H
     have hcv18 := own_string (P := Tryz.prog) Tryz.underlying101 Tryz.underlying5 Tryz.underlying25 (Kd.own_of_R HO_5.out)
     go_wp2
     go_ret
     exact finE
theorem rEat.calls (A0 : Option Addr) (c0 : Nat) (l0 : List Int) (a1 : Int) (r : Int) (w : World) (hr0 : Kd.C (Kd.int .i64) w A0 l0.length l0) (hc0 : l0.length ≤ c0) (h : rEat.f l0 a1 = some r) :
  Calls Tryz.prog 201 #[.slice A0 l0.length c0, .int .i64 a1] w fun e w' => e = .returned (.int .i64 r) ∧ Drawn0 w w' := by
 have HR0 := Z0.mk hr0
 have HC0 := Z0.mk hc0
 clear hr0 hc0
 have H := h
 clear h
 unfold rEat.f at H
 rcases jd H with ⟨-, c3b0, H⟩ | ⟨-, c3b0, H⟩
 ·obtain ⟨-, c4b0, H⟩ := gd H
  obtain rfl := Option.some.inj H
  obtain ⟨ad519, e519, hx519_0, p519, q519⟩ := atI HR0.out a1
  cases e519
  go_enter Tryz.func201, Tryz.ntmps201
  go_wp2
  go_ret
  exact finD
 obtain rfl := Option.some.inj H
 go_enter Tryz.func201, Tryz.ntmps201
 go_wp2
 go_ret
 exact finD
theorem rEminus.calls (k : Nat) (A0 : Option Addr) (c0 : Nat) (l0 : List Int) (A1 : Option Addr) (c1 : Nat) (l1 : List Int) (r : List Int) (w : World) (hr0 : Kd.C (Kd.int .i64) w A0 l0.length l0) (hc0 : l0.length ≤ c0) (hr1 : Kd.C (Kd.int .i64) w A1 l1.length l1) (hc1 : l1.length ≤ c1) (h : rEminus.f k l0 l1 = some r) :
  Calls Tryz.prog 177 #[.slice A0 l0.length c0, .slice A1 l1.length c1] w fun e w' => ∃ v0_ : Value, e = .returned (v0_) ∧ Kd.V (Kd.int .i64) 3 w' w.heap.size (fun k_ => (w.heap.size ≤ k_)) v0_ r ∧ Below w.heap.size w w' := by
 have HR0 := Z0.mk hr0
 have HC0 := Z0.mk hc0
 clear hr0 hc0
 have HR1 := Z0.mk hr1
 have HC1 := Z0.mk hc1
 clear hr1 hc1
 have HB := Z0.mk (Below.refl w.heap.size w)
 have H := h
 clear h
 unfold rEminus.f at H
 have H' := Z0.mk H
 clear H
 go_enter Tryz.func177, Tryz.ntmps177
 go_wp2
 repeat (go_quiet (fail); try go_wp2)
 go_loopg [5, 6, 7] k (fun kq v5 v6 v7 w' => ∃ (x5_1 : List Int) (x6_1 : Int) (x7_1 : Int), v6 = .int .i64 x6_1 ∧ v7 = .int .i64 x7_1 ∧ Z0 (rEminus.l0 kq l0 l1 x5_1 x6_1 x7_1 = some r) ∧ Z0 (kq ≤ k) ∧ Z0 (Kd.R (Kd.int .i64) 3 w' w.heap.size (fun k_ => (w.heap.size ≤ k_)) v5 x5_1) ∧ Z0 (Below w.heap.size w w'))
 case atStart => exact ⟨(([] : List Int)), (0), (0), fs, fs, H', ⟨Nat.le_refl _⟩, ⟨by first | exact Kd.R_nil _ _ _ _ _ | exact Kd.N_nil _ _ _ _ _ | exact Kd.V_nil _ _ _ _ _ | exact Kd.Q_nil _ _ _ _ _ | exact Kd.S_nil _ _ _ _ _⟩, ⟨bqs⟩⟩
 case round =>
  clear H'
  try clear c1
  try clear p2
  obtain ⟨x5_1, x6_1, x7_1, rfl, rfl, HA, HK1, HO_5, HB⟩ := hrel
  cases gk with
  | zero => exact absurd HA.out (by simp [rEminus.l0])
  | succ k1 =>
   have H := HA.out
   clear HA
   simp only [rEminus.l0] at H
   rcases jd H with ⟨-, c3b0, H⟩ | ⟨-, c3b0, H⟩
   ·obtain ⟨-, c4b0, H⟩ := gd H
    obtain ⟨t529, A5, H⟩ := bnd H
    rcases jd H with ⟨-, c6b0, H⟩ | ⟨-, c6b0, H⟩
    ·obtain ⟨c7, H⟩ := gn H
     have LMc7 := Z0.mk c7
     clear c7
     generalize hy530 : (x5_1 ++ [wrap64 ((wrap64 ((wrap64 ((rd l0 x7_1) - t529)) - x6_1)) + 10)] : List Int) = y530 at H
     have Ny530 := Z0.mk hy530.symm
     clear hy530
     have H' := Z0.mk H
     clear H
     obtain ⟨ad528, e528, hx528_0, p528, q528⟩ := atB HB HR0.out x7_1
     cases e528
     go_wp2_with (first | (go_at_call 201; (with_reducible refine (rEat.calls _ _ l1 x7_1 t529 _ ?side1 ?side2 A5.out).mono ?_); (case side1 => exact cq (Kd.C_below HR1.out HB.out)); (case side2 => exact HC1.out); rintro e w' ⟨rfl, ⟨nd, rfl⟩⟩; (try first | exact ⟨rfl, _, World.drewN_drewN _ _ _⟩ | exact ⟨rfl, _, Eq.trans (World.drewN_drewN _ _ _) (congrArg (World.drewN _) (Nat.add_assoc _ _ _))⟩)) | ((with_reducible refine gate_builtin (b := .append) (xs := #[.tmp 29, .tmp 31]) rfl ?_); at_builtin; refine Kd.R_append (Kd.int .i64) (w0 := w) w.heap.size rfl (.tmp 29) (.tmp 31) 86 3 (.int .i64 0) 8 rfl Tryz.underlying86 info3 rfl (by decide) (by omega) u5 x5_1 (wrap64 ((wrap64 ((wrap64 ((rd l0 x7_1) - t529)) - x6_1)) + 10)) [.int .i64 (wrap64 ((wrap64 ((wrap64 ((rd l0 x7_1) - t529)) - x6_1)) + 10))] (fun k_ => (w.heap.size ≤ k_)) (fun _ => False) rfl rfl ?aP (fun _ hk => hk.elim) ?aF ?aO ?aB ?aS ?aL ?_; (case aP => exact rfl); (case aB => exact bqs); (case aF => exact (fun k_ hk => (Nat.le_trans (below_size bqs) hk))); (case aO => exact (rq HO_5)); (case aS => exact (below_size bqs)); (case aL => have := LMc7.out; omega); intro v531 w8 ho hb hg hat; rw [← Ny530.out] at ho; have HO532 := Z0.mk (ho); replace HB := Z0.mk (hb); clear HO_5; clear ho hb hg hat) | (go_quiet (first | (go_at_call 201; (with_reducible refine (rEat.calls _ _ l1 x7_1 t529 _ ?side1 ?side2 A5.out).mono ?_); (case side1 => exact cq (Kd.C_below HR1.out HB.out)); (case side2 => exact HC1.out); rintro e w' ⟨rfl, ⟨nd, rfl⟩⟩; (try first | exact ⟨rfl, _, World.drewN_drewN _ _ _⟩ | exact ⟨rfl, _, Eq.trans (World.drewN_drewN _ _ _) (congrArg (World.drewN _) (Nat.add_assoc _ _ _))⟩)) | ((with_reducible refine gate_builtin (b := .append) (xs := #[.tmp 29, .tmp 31]) rfl ?_); at_builtin; refine Kd.R_append (Kd.int .i64) (w0 := w) w.heap.size rfl (.tmp 29) (.tmp 31) 86 3 (.int .i64 0) 8 rfl Tryz.underlying86 info3 rfl (by decide) (by omega) u5 x5_1 (wrap64 ((wrap64 ((wrap64 ((rd l0 x7_1) - t529)) - x6_1)) + 10)) [.int .i64 (wrap64 ((wrap64 ((wrap64 ((rd l0 x7_1) - t529)) - x6_1)) + 10))] (fun k_ => (w.heap.size ≤ k_)) (fun _ => False) rfl rfl ?aP (fun _ hk => hk.elim) ?aF ?aO ?aB ?aS ?aL ?_; (case aP => exact rfl); (case aB => exact bqs); (case aF => exact (fun k_ hk => (Nat.le_trans (below_size bqs) hk))); (case aO => exact (rq HO_5)); (case aS => exact (below_size bqs)); (case aL => have := LMc7.out; omega); intro v531 w8 ho hb hg hat; rw [← Ny530.out] at ho; have HO532 := Z0.mk (ho); replace HB := Z0.mk (hb); clear HO_5; clear ho hb hg hat))))
     go_roundg k1
     case measure => have := HK1.out; omega
     case rel => exact ⟨(y530), (1), (wrap64 (x7_1 + 1)), fs, fs, H', ⟨by have := HK1.out; omega⟩, ⟨rq HO532⟩, ⟨bqs⟩⟩
    obtain ⟨c9, H⟩ := gn H
    have LMc9 := Z0.mk c9
    clear c9
    generalize hy533 : (x5_1 ++ [wrap64 ((wrap64 ((rd l0 x7_1) - t529)) - x6_1)] : List Int) = y533 at H
    have Ny533 := Z0.mk hy533.symm
    clear hy533
    have H' := Z0.mk H
    clear H
    obtain ⟨ad528, e528, hx528_0, p528, q528⟩ := atB HB HR0.out x7_1
    cases e528
    go_wp2_with (first | (go_at_call 201; (with_reducible refine (rEat.calls _ _ l1 x7_1 t529 _ ?side1 ?side2 A5.out).mono ?_); (case side1 => exact cq (Kd.C_below HR1.out HB.out)); (case side2 => exact HC1.out); rintro e w' ⟨rfl, ⟨nd, rfl⟩⟩; (try first | exact ⟨rfl, _, World.drewN_drewN _ _ _⟩ | exact ⟨rfl, _, Eq.trans (World.drewN_drewN _ _ _) (congrArg (World.drewN _) (Nat.add_assoc _ _ _))⟩)) | ((with_reducible refine gate_builtin (b := .append) (xs := #[.tmp 29, .tmp 31]) rfl ?_); at_builtin; refine Kd.R_append (Kd.int .i64) (w0 := w) w.heap.size rfl (.tmp 29) (.tmp 31) 86 3 (.int .i64 0) 8 rfl Tryz.underlying86 info3 rfl (by decide) (by omega) u5 x5_1 (wrap64 ((wrap64 ((rd l0 x7_1) - t529)) - x6_1)) [.int .i64 (wrap64 ((wrap64 ((rd l0 x7_1) - t529)) - x6_1))] (fun k_ => (w.heap.size ≤ k_)) (fun _ => False) rfl rfl ?aP (fun _ hk => hk.elim) ?aF ?aO ?aB ?aS ?aL ?_; (case aP => exact rfl); (case aB => exact bqs); (case aF => exact (fun k_ hk => (Nat.le_trans (below_size bqs) hk))); (case aO => exact (rq HO_5)); (case aS => exact (below_size bqs)); (case aL => have := LMc9.out; omega); intro v534 w10 ho hb hg hat; rw [← Ny533.out] at ho; have HO535 := Z0.mk (ho); replace HB := Z0.mk (hb); clear HO_5; clear ho hb hg hat) | (go_quiet (first | (go_at_call 201; (with_reducible refine (rEat.calls _ _ l1 x7_1 t529 _ ?side1 ?side2 A5.out).mono ?_); (case side1 => exact cq (Kd.C_below HR1.out HB.out)); (case side2 => exact HC1.out); rintro e w' ⟨rfl, ⟨nd, rfl⟩⟩; (try first | exact ⟨rfl, _, World.drewN_drewN _ _ _⟩ | exact ⟨rfl, _, Eq.trans (World.drewN_drewN _ _ _) (congrArg (World.drewN _) (Nat.add_assoc _ _ _))⟩)) | ((with_reducible refine gate_builtin (b := .append) (xs := #[.tmp 29, .tmp 31]) rfl ?_); at_builtin; refine Kd.R_append (Kd.int .i64) (w0 := w) w.heap.size rfl (.tmp 29) (.tmp 31) 86 3 (.int .i64 0) 8 rfl Tryz.underlying86 info3 rfl (by decide) (by omega) u5 x5_1 (wrap64 ((wrap64 ((rd l0 x7_1) - t529)) - x6_1)) [.int .i64 (wrap64 ((wrap64 ((rd l0 x7_1) - t529)) - x6_1))] (fun k_ => (w.heap.size ≤ k_)) (fun _ => False) rfl rfl ?aP (fun _ hk => hk.elim) ?aF ?aO ?aB ?aS ?aL ?_; (case aP => exact rfl); (case aB => exact bqs); (case aF => exact (fun k_ hk => (Nat.le_trans (below_size bqs) hk))); (case aO => exact (rq HO_5)); (case aS => exact (below_size bqs)); (case aL => have := LMc9.out; omega); intro v534 w10 ho hb hg hat; rw [← Ny533.out] at ho; have HO535 := Z0.mk (ho); replace HB := Z0.mk (hb); clear HO_5; clear ho hb hg hat))))
    go_roundg k1
    case measure => have := HK1.out; omega
    case rel => exact ⟨(y533), (0), (wrap64 (x7_1 + 1)), fs, fs, H', ⟨by have := HK1.out; omega⟩, ⟨rq HO535⟩, ⟨bqs⟩⟩
   obtain ⟨t536, A11, H⟩ := bnd H
   obtain rfl := Option.some.inj H
   obtain ⟨Ao12, co12, eo12⟩ := Kd.R_slice HO_5.out
   subst eo12
   go_wp2_with (first | (go_at_call 142; (with_reducible refine (rEcut.calls k1 (fun k_ => some k_ = (.slice Ao12 x5_1.length co12 : Value).ownBlock) _ _ x5_1 t536 _ ?side1 A11.out).mono ?_); (case side1 => exact Kd.R_V (Kd.R_tight rfl (HO_5.out))); rintro e w13 ⟨v537, rfl, ho0, hb⟩; have HO538 := Z0.mk (Kd.V_lower (Kd.V_mono (ok' := fun k_ => (w.heap.size ≤ k_)) ho0 (fun k_ hk_ => Or.elim hk_ (fun hs_ => ((HO_5.out).1 k_ hs_.symm)) (fun hn_ => (Nat.le_trans (below_size bqs) hn_)))) (below_size bqs)); replace HO_5 := fR HO_5 hb; replace HB := fB HB hb; clear hb ho0) | (go_quiet (first | (go_at_call 142; (with_reducible refine (rEcut.calls k1 (fun k_ => some k_ = (.slice Ao12 x5_1.length co12 : Value).ownBlock) _ _ x5_1 t536 _ ?side1 A11.out).mono ?_); (case side1 => exact Kd.R_V (Kd.R_tight rfl (HO_5.out))); rintro e w13 ⟨v537, rfl, ho0, hb⟩; have HO538 := Z0.mk (Kd.V_lower (Kd.V_mono (ok' := fun k_ => (w.heap.size ≤ k_)) ho0 (fun k_ hk_ => Or.elim hk_ (fun hs_ => ((HO_5.out).1 k_ hs_.symm)) (fun hn_ => (Nat.le_trans (below_size bqs) hn_)))) (below_size bqs)); replace HO_5 := fR HO_5 hb; replace HB := fB HB hb; clear hb ho0))))
   go_ret
   exact ⟨_, fe, vq HO538, bqs⟩
theorem rEnumber.calls (k : Nat) (a0 : ByteArray) (r : Int) (w : World) (h : rEnumber.f k a0 = some r) :
  Calls Tryz.prog 135 #[.string a0] w fun e w' => e = .returned (.int .i64 r) ∧ Drawn0 w w' := by
 have H := h
 clear h
 unfold rEnumber.f at H
 have H' := Z0.mk H
 clear H
 go_enter Tryz.func135, Tryz.ntmps135
 go_wp2
 go_loopg [3, 4] k (fun kq v3 v4 w' => ∃ (x3_1 : Int) (x4_1 : Int), v3 = .int .i64 x3_1 ∧ v4 = .int .i64 x4_1 ∧ Z0 (rEnumber.l0 kq a0 x3_1 x4_1 = some r) ∧ Z0 (kq ≤ k) ∧ Drawn0 w w')
 case atStart => exact ⟨(0), (0), fs, fs, H', ⟨Nat.le_refl _⟩, by repeat (first | exact Drawn0.refl _ | apply Drawn0.step)⟩
 case round =>
  clear H'
  try clear c1
  obtain ⟨x3_1, x4_1, rfl, rfl, HA, HK1, ⟨m1, rfl⟩⟩ := hrel
  cases gk with
  | zero => exact absurd HA.out (by simp [rEnumber.l0])
  | succ k1 =>
   have H := HA.out
   clear HA
   simp only [rEnumber.l0] at H
   rcases jd H with ⟨-, c2b0, H⟩ | ⟨-, c2b0, H⟩
   ·obtain ⟨-, c3b0, H⟩ := gd H
    rcases je H with ⟨-, c5b0, c5b1, H⟩ | ⟨c5, c5b0, c5b1, H⟩
    ·have H' := Z0.mk H
     clear H
     obtain ⟨hx4, p4, q4⟩ := btA a0 x4_1
     go_wp2
     go_roundg k1
     case measure => have := HK1.out; omega
     case rel => exact ⟨(x3_1), (wrap64 (x4_1 + 1)), fs, fs, H', ⟨by have := HK1.out; omega⟩, by repeat (first | exact Drawn0.refl _ | apply Drawn0.step)⟩
    have H' := Z0.mk H
    clear H
    obtain ⟨hx4, p4, q4⟩ := btA a0 x4_1
    obtain ⟨hx6, p6, q6⟩ := btA a0 x4_1
    go_wp2
    go_roundg k1
    case measure => have := HK1.out; omega
    case rel => exact ⟨(wrap64 ((wrap64 (x3_1 * 10)) + (((bt a0 x4_1) - 48) % 256))), (wrap64 (x4_1 + 1)), fs, fs, H', ⟨by have := HK1.out; omega⟩, by repeat (first | exact Drawn0.refl _ | apply Drawn0.step)⟩
   obtain ⟨t478, A7, H⟩ := bnd H
   by_cases c8 : t478 = true
   ·subst c8
    have H1 : (some (wrap64 (-x3_1))) = some r := by rw [if_pos rfl] at H; exact H
    clear H
    have H := H1
    clear H1
    obtain rfl := Option.some.inj H
    go_wp2_with (first | ((with_reducible refine gc_ 126 rfl ?_); refine goD (some 24) Tryz.func126 #[.string a0] (rENegative.calls a0 true _ A7.out) ?_; intro nd))
    go_ret
    exact finD
   replace c8 := Bool.eq_false_iff.mpr c8
   subst c8
   have H1 : (some x3_1) = some r := by rw [if_neg (show ¬ (false = true) by decide)] at H; exact H
   clear H
   have H := H1
   clear H1
   obtain rfl := Option.some.inj H
   go_wp2_with (first | ((with_reducible refine gc_ 126 rfl ?_); refine goD (some 24) Tryz.func126 #[.string a0] (rENegative.calls a0 false _ A7.out) ?_; intro nd))
   go_ret
   exact finD
theorem rEorder.calls (k : Nat) (A0 : Option Addr) (c0 : Nat) (l0 : List Int) (A1 : Option Addr) (c1 : Nat) (l1 : List Int) (r : Int) (w : World) (hr0 : Kd.C (Kd.int .i64) w A0 l0.length l0) (hc0 : l0.length ≤ c0) (hr1 : Kd.C (Kd.int .i64) w A1 l1.length l1) (hc1 : l1.length ≤ c1) (h : rEorder.f k l0 l1 = some r) :
  Calls Tryz.prog 141 #[.slice A0 l0.length c0, .slice A1 l1.length c1] w fun e w' => e = .returned (.int .i64 r) ∧ Drawn0 w w' := by
 have HR0 := Z0.mk hr0
 have HC0 := Z0.mk hc0
 clear hr0 hc0
 have HR1 := Z0.mk hr1
 have HC1 := Z0.mk hc1
 clear hr1 hc1
 have H := h
 clear h
 unfold rEorder.f at H
 rcases je H with ⟨c3, c3b0, c3b1, H⟩ | ⟨c3, c3b0, c3b1, H⟩
 ·have c3b2 : (l0.length == l1.length) = true := by first | simpa using c3 | (simp at c3 ⊢; omega)
  clear c3
  have H' := Z0.mk H
  clear H
  go_enter Tryz.func141, Tryz.ntmps141
  go_wp2
  repeat (go_quiet (fail); try go_wp2)
  go_loopg [5] k (fun kq v5 w' => ∃ (x5_1 : Int), v5 = .int .i64 x5_1 ∧ Z0 (rEorder.l0 kq l0 l1 x5_1 = some r) ∧ Z0 (kq ≤ k) ∧ Drawn0 w w')
  case atStart => exact ⟨(wrap64 ((l0.length : Int) - 1)), fs, H', ⟨Nat.le_refl _⟩, by repeat (first | exact Drawn0.refl _ | apply Drawn0.step)⟩
  case round =>
   clear H'
   try clear c1
   try clear p2
   try clear c3
   try clear c3b0
   try clear c3b1
   try clear c3b2
   obtain ⟨x5_1, rfl, HA, HK1, ⟨m1, rfl⟩⟩ := hrel
   cases gk with
   | zero => exact absurd HA.out (by simp [rEorder.l0])
   | succ k1 =>
    have H := HA.out
    clear HA
    simp only [rEorder.l0] at H
    rcases jh H with ⟨-, c4b0, H⟩ | ⟨-, c4b0, H⟩
    ·obtain ⟨-, c5b0, H⟩ := gd H
     obtain ⟨-, c6b0, H⟩ := gd H
     obtain ⟨-, c7b0, H⟩ := gd H
     rcases je H with ⟨-, c8b0, c8b1, H⟩ | ⟨c8, c8b0, c8b1, H⟩
     ·have H' := Z0.mk H
      clear H
      obtain ⟨ad447, e447, hx447_0, p447, q447⟩ := atI HR0.out x5_1
      cases e447
      obtain ⟨ad448, e448, hx448_0, p448, q448⟩ := atI HR1.out x5_1
      cases e448
      go_wp2
      repeat (go_quiet (fail); try go_wp2)
      go_roundg k1
      case measure => have := HK1.out; omega
      case rel => exact ⟨(wrap64 (x5_1 - 1)), fs, H', ⟨by have := HK1.out; omega⟩, by repeat (first | exact Drawn0.refl _ | apply Drawn0.step)⟩
     rcases jd H with ⟨-, c9b0, H⟩ | ⟨-, c9b0, H⟩
     ·obtain rfl := Option.some.inj H
      obtain ⟨ad447, e447, hx447_0, p447, q447⟩ := atI HR0.out x5_1
      cases e447
      obtain ⟨ad448, e448, hx448_0, p448, q448⟩ := atI HR1.out x5_1
      cases e448
      obtain ⟨ad449, e449, hx449_0, p449, q449⟩ := atI HR0.out x5_1
      obtain rfl : ad447 = ad449 := (by injection e449)
      obtain ⟨ad450, e450, hx450_0, p450, q450⟩ := atI HR1.out x5_1
      obtain rfl : ad448 = ad450 := (by injection e450)
      go_wp2
      repeat (go_quiet (fail); try go_wp2)
      go_ret
      exact finD
     obtain rfl := Option.some.inj H
     obtain ⟨ad447, e447, hx447_0, p447, q447⟩ := atI HR0.out x5_1
     cases e447
     obtain ⟨ad448, e448, hx448_0, p448, q448⟩ := atI HR1.out x5_1
     cases e448
     obtain ⟨ad449, e449, hx449_0, p449, q449⟩ := atI HR0.out x5_1
     obtain rfl : ad447 = ad449 := (by injection e449)
     obtain ⟨ad450, e450, hx450_0, p450, q450⟩ := atI HR1.out x5_1
     obtain rfl : ad448 = ad450 := (by injection e450)
     go_wp2
     repeat (go_quiet (fail); try go_wp2)
     go_ret
     exact finD
    obtain rfl := Option.some.inj H
    go_wp2
    repeat (go_quiet (fail); try go_wp2)
    go_ret
    exact finD
 have c3b2 : (l0.length == l1.length) = false := by first | simpa using c3 | (simp at c3 ⊢; omega)
 rcases jd H with ⟨c10, c10b0, H⟩ | ⟨c10, c10b0, H⟩
 ·have c10b1 : decide (l0.length < l1.length) = true := decide_eq_true (Int.ofNat_lt.mp c10)
  clear c10
  obtain rfl := Option.some.inj H
  go_enter Tryz.func141, Tryz.ntmps141
  go_wp2
  repeat (go_quiet (fail); try go_wp2)
  go_ret
  exact finD
 have c10b1 : decide (l0.length < l1.length) = false := decide_eq_false (fun h => c10 (Int.ofNat_lt.mpr h))
 clear c10
 obtain rfl := Option.some.inj H
 go_enter Tryz.func141, Tryz.ntmps141
 go_wp2
 repeat (go_quiet (fail); try go_wp2)
 go_ret
 exact finD
end Go.Proofs.YthnfajboebaajaaGreatDoor.PA
