import Derived.Test.YthnfajboebaajaaGreatDoorAG1
import Derived.Test.YthnfajboebaajaaGreatDoorAD
import Derived.Test.YthnfajboebaajaaGreatDoorAG10
import Derived.Test.YthnfajboebaajaaGreatDoorAG11
import Derived.Test.YthnfajboebaajaaGreatDoorAG9
import Derived.Test.YthnfajboebaajaaGreatDoorRows
import Derived.ProofKit
import Derived.OpenShut
import Derived.Lay
import Derived.LaidOnce
import Derived.SevenTiedAt
set_option maxHeartbeats 8000000
set_option maxRecDepth 100000
set_option linter.unusedVariables false
namespace Go.Proofs.YthnfajboebaajaaGreatDoor.PA
open Go.RowKit Go.Proofs.WWords Go.Proofs.WLast Go.Proofs.WMore
attribute [local go_sem] max2_int min2_int max_two min_two max_three min_three max_four min_four
set_option linter.unusedVariables false
set_option linter.unusedSimpArgs false
theorem rFsum.calls (k : Nat) (a0 : ByteArray) (a1 : ByteArray) (a2 : Bool) (r1 : ByteArray) (r2 : Int) (w : World) (h : rFsum.f k a0 a1 a2 = some (r1, r2)) :
  Calls Tryz.prog 101 #[.string a0, .string a1, .bool a2] w fun e w' => e = .returned (.tuple #[.string r1, .int .i64 r2]) ∧ Below w.heap.size w w' := by
 have HB := Z0.mk (Below.refl w.heap.size w)
 have H := h
 clear h
 unfold rFsum.f at H
 obtain ⟨t768, A4, H⟩ := bnd H
 rcases je H with ⟨-, c5b0, c5b1, H⟩ | ⟨c5, c5b0, c5b1, H⟩
 ·obtain ⟨t769, A6, H⟩ := bnd H
  obtain ⟨t770, A7, H⟩ := bnd H
  obtain ⟨t771, A8, H⟩ := bnd H
  obtain ⟨t772, A9, H⟩ := bnd H
  obtain ⟨t773, A10, H⟩ := bnd H
  obtain ⟨t774, A11, H⟩ := bnd H
  obtain ⟨t775, A12, H⟩ := bnd H
  obtain ⟨t776, A13, H⟩ := bnd H
  obtain ⟨t777, A14, H⟩ := bnd H
  obtain ⟨t778, A15, H⟩ := bnd H
  have HC16 := Z0.mk H
  clear H
  go_enter Tryz.func101, Tryz.ntmps101
  go_upto_if 37 with (first | ((with_reducible refine gc_ 98 rfl ?_); refine goB (some 15) Tryz.func98 #[.string a0, .string a1] bq (rFboth.calls k a0 a1 t768 _ A4.out) ?_; clear HB; intro w17 HB) | ((with_reducible refine gc_ 72 rfl ?_); refine goD (some 20) Tryz.func72 #[.string a0] (rFTop.calls k a0 t769 _ A6.out) ?_; intro nd) | ((with_reducible refine gc_ 73 rfl ?_); refine goD (some 22) Tryz.func73 #[.string a1] (rFBottom.calls k a1 t770 _ A7.out) ?_; intro nd) | ((with_reducible refine gc_ 99 rfl ?_); refine goB (some 23) Tryz.func99 #[.string t769, .string t770] bq (rEProduct.calls k t769 t770 t771 _ A8.out) ?_; clear HB; intro w18 HB) | ((with_reducible refine gc_ 72 rfl ?_); refine goD (some 25) Tryz.func72 #[.string a1] (rFTop.calls k a1 t772 _ A9.out) ?_; intro nd) | ((with_reducible refine gc_ 73 rfl ?_); refine goD (some 27) Tryz.func73 #[.string a0] (rFBottom.calls k a0 t773 _ A10.out) ?_; intro nd) | ((with_reducible refine gc_ 99 rfl ?_); refine goB (some 28) Tryz.func99 #[.string t772, .string t773] bq (rEProduct.calls k t772 t773 t774 _ A11.out) ?_; clear HB; intro w19 HB) | ((with_reducible refine gc_ 73 rfl ?_); refine goD (some 30) Tryz.func73 #[.string a0] (rFBottom.calls k a0 t775 _ A12.out) ?_; intro nd) | ((with_reducible refine gc_ 73 rfl ?_); refine goD (some 32) Tryz.func73 #[.string a1] (rFBottom.calls k a1 t776 _ A13.out) ?_; intro nd) | ((with_reducible refine gc_ 99 rfl ?_); refine goB (some 33) Tryz.func99 #[.string t775, .string t776] bq (rEProduct.calls k t775 t776 t777 _ A14.out) ?_; clear HB; intro w20 HB) | ((with_reducible refine gc_ 139 rfl ?_); refine goB (some 36) Tryz.func139 #[.string t771, .string t774] bq (rESum.calls k t771 t774 t778 _ A15.out) ?_; clear HB; intro w21 HB))
  (try simp only [Act.put, List.setIfInBounds_toArray, List.set_cons_zero, List.set_cons_succ])
  go_cut [12] (fun v12 wc => ∃ (kq : Nat) (x12_15 : ByteArray), v12 = .string x12_15 ∧ Z0 (rFsum.j0 kq t771 t774 t777 x12_15 = some (r1, r2)) ∧ Z0 (kq ≤ k) ∧ Z0 (Below w.heap.size w wc))
  case first =>
   have H := HC16.out
   clear HC16
   by_cases c22 : a2 = true
   ·subst c22
    have H1 : ((rEDiff.f k t771 t774).bind fun t779 => (rFsum.j0 k t771 t774 t777 t779)) = some (r1, r2) := by rw [if_pos rfl] at H; exact H
    clear H
    have H := H1
    clear H1
    obtain ⟨t779, A23, H⟩ := bnd H
    have H' := Z0.mk H
    clear H
    go_wp2_with (first | ((with_reducible refine gc_ 140 rfl ?_); refine goB (some 40) Tryz.func140 #[.string t771, .string t774] bq (rEDiff.calls k t771 t774 t779 _ A23.out) ?_; clear HB; intro w24 HB))
    go_meet
    case rel => exact ⟨_, (t779), fs, H', ⟨by first | omega | exact Nat.le_refl _⟩, ⟨bqs⟩⟩
   replace c22 := Bool.eq_false_iff.mpr c22
   subst c22
   have H1 : (rFsum.j0 k t771 t774 t777 t778) = some (r1, r2) := by rw [if_neg (show ¬ (false = true) by decide)] at H; exact H
   clear H
   have H := H1
   clear H1
   have H' := Z0.mk H
   clear H
   go_wp2
   go_meet
   case rel => exact ⟨_, (t778), fs, H', ⟨by first | omega | exact Nat.le_refl _⟩, ⟨bqs⟩⟩
  case rest =>
   clear HC16
   try clear c1
   try clear c2
   try clear p2
   try clear c5
   try clear c5b0
   try clear c5b1
   try clear c7
   try clear c9
   try clear c10
   try clear c13
   try clear c14
   try clear c22
   obtain ⟨kq, x12_15, rfl, HA, HJ15, HB⟩ := hcut
   cases kq with
   | zero => exact absurd HA.out (by simp [rFsum.j0])
   | succ kj15 =>
    have H := HA.out
    clear HA
    simp only [rFsum.j0] at H
    obtain ⟨t780, A25, H⟩ := bnd H
    by_cases c26 : t780 = true
    ·subst c26
     have H1 : (some ((⟨#[]⟩ : ByteArray), 10)) = some (r1, r2) := by rw [if_pos rfl] at H; exact H
     clear H
     have H := H1
     clear H1
     simp only [Option.some.injEq, Prod.mk.injEq] at H
     obtain ⟨rfl, rfl⟩ := H
     go_wp2_with (first | ((with_reducible refine gc_ 100 rfl ?_); refine goD (some 42) Tryz.func100 #[.string t771] (rFlarge.calls t771 true _ A25.out) ?_; intro nd))
     go_ret2
     exact finE
    replace c26 := Bool.eq_false_iff.mpr c26
    subst c26
    have H1 : ((rFlarge.f t774).bind fun t781 => (if t781 = true then (some ((⟨#[]⟩ : ByteArray), 10)) else ((rFlarge.f x12_15).bind fun t782 => (if t782 = true then (some ((⟨#[]⟩ : ByteArray), 10)) else ((rFlarge.f t777).bind fun t783 => (if t783 = true then (some ((⟨#[]⟩ : ByteArray), 10)) else ((rFFrac.f kj15 x12_15 t777).bind fun t784 => (some (t784, 0))))))))) = some (r1, r2) := by rw [if_neg (show ¬ (false = true) by decide)] at H; exact H
    clear H
    have H := H1
    clear H1
    obtain ⟨t781, A27, H⟩ := bnd H
    by_cases c28 : t781 = true
    ·subst c28
     have H1 : (some ((⟨#[]⟩ : ByteArray), 10)) = some (r1, r2) := by rw [if_pos rfl] at H; exact H
     clear H
     have H := H1
     clear H1
     simp only [Option.some.injEq, Prod.mk.injEq] at H
     obtain ⟨rfl, rfl⟩ := H
     go_wp2_with (first | ((with_reducible refine gc_ 100 rfl ?_); refine goD (some 42) Tryz.func100 #[.string t771] (rFlarge.calls t771 false _ A25.out) ?_; intro nd) | (go_at_call 100; (with_reducible refine (rFlarge.calls t774 true _ A27.out).mono ?_); rintro e w' ⟨rfl, ⟨nd, rfl⟩⟩))
     go_ret2
     exact finE
    replace c28 := Bool.eq_false_iff.mpr c28
    subst c28
    have H1 : ((rFlarge.f x12_15).bind fun t782 => (if t782 = true then (some ((⟨#[]⟩ : ByteArray), 10)) else ((rFlarge.f t777).bind fun t783 => (if t783 = true then (some ((⟨#[]⟩ : ByteArray), 10)) else ((rFFrac.f kj15 x12_15 t777).bind fun t784 => (some (t784, 0))))))) = some (r1, r2) := by rw [if_neg (show ¬ (false = true) by decide)] at H; exact H
    clear H
    have H := H1
    clear H1
    obtain ⟨t782, A29, H⟩ := bnd H
    by_cases c30 : t782 = true
    ·subst c30
     have H1 : (some ((⟨#[]⟩ : ByteArray), 10)) = some (r1, r2) := by rw [if_pos rfl] at H; exact H
     clear H
     have H := H1
     clear H1
     simp only [Option.some.injEq, Prod.mk.injEq] at H
     obtain ⟨rfl, rfl⟩ := H
     go_wp2_with (first | ((with_reducible refine gc_ 100 rfl ?_); refine goD (some 42) Tryz.func100 #[.string t771] (rFlarge.calls t771 false _ A25.out) ?_; intro nd) | (go_at_call 100; (with_reducible refine (rFlarge.calls t774 false _ A27.out).mono ?_); rintro e w' ⟨rfl, ⟨nd, rfl⟩⟩) | (go_at_call 100; (with_reducible refine (rFlarge.calls x12_15 true _ A29.out).mono ?_); rintro e w' ⟨rfl, ⟨nd, rfl⟩⟩))
     go_ret2
     exact finE
    replace c30 := Bool.eq_false_iff.mpr c30
    subst c30
    have H1 : ((rFlarge.f t777).bind fun t783 => (if t783 = true then (some ((⟨#[]⟩ : ByteArray), 10)) else ((rFFrac.f kj15 x12_15 t777).bind fun t784 => (some (t784, 0))))) = some (r1, r2) := by rw [if_neg (show ¬ (false = true) by decide)] at H; exact H
    clear H
    have H := H1
    clear H1
    obtain ⟨t783, A31, H⟩ := bnd H
    by_cases c32 : t783 = true
    ·subst c32
     have H1 : (some ((⟨#[]⟩ : ByteArray), 10)) = some (r1, r2) := by rw [if_pos rfl] at H; exact H
     clear H
     have H := H1
     clear H1
     simp only [Option.some.injEq, Prod.mk.injEq] at H
     obtain ⟨rfl, rfl⟩ := H
     go_wp2_with (first | ((with_reducible refine gc_ 100 rfl ?_); refine goD (some 42) Tryz.func100 #[.string t771] (rFlarge.calls t771 false _ A25.out) ?_; intro nd) | (go_at_call 100; (with_reducible refine (rFlarge.calls t774 false _ A27.out).mono ?_); rintro e w' ⟨rfl, ⟨nd, rfl⟩⟩) | (go_at_call 100; (with_reducible refine (rFlarge.calls x12_15 false _ A29.out).mono ?_); rintro e w' ⟨rfl, ⟨nd, rfl⟩⟩) | (go_at_call 100; (with_reducible refine (rFlarge.calls t777 true _ A31.out).mono ?_); rintro e w' ⟨rfl, ⟨nd, rfl⟩⟩))
     go_ret2
     exact finE
    replace c32 := Bool.eq_false_iff.mpr c32
    subst c32
    have H1 : ((rFFrac.f kj15 x12_15 t777).bind fun t784 => (some (t784, 0))) = some (r1, r2) := by rw [if_neg (show ¬ (false = true) by decide)] at H; exact H
    clear H
    have H := H1
    clear H1
    obtain ⟨t784, A33, H⟩ := bnd H
    simp only [Option.some.injEq, Prod.mk.injEq] at H
    obtain ⟨rfl, rfl⟩ := H
    go_wp2_with (first | ((with_reducible refine gc_ 100 rfl ?_); refine goD (some 42) Tryz.func100 #[.string t771] (rFlarge.calls t771 false _ A25.out) ?_; intro nd) | (go_at_call 100; (with_reducible refine (rFlarge.calls t774 false _ A27.out).mono ?_); rintro e w' ⟨rfl, ⟨nd, rfl⟩⟩) | (go_at_call 100; (with_reducible refine (rFlarge.calls x12_15 false _ A29.out).mono ?_); rintro e w' ⟨rfl, ⟨nd, rfl⟩⟩) | (go_at_call 100; (with_reducible refine (rFlarge.calls t777 false _ A31.out).mono ?_); rintro e w' ⟨rfl, ⟨nd, rfl⟩⟩) | ((with_reducible refine gc_ 85 rfl ?_); refine goB (some 57) Tryz.func85 #[.string x12_15, .string t777] bq (rFFrac.calls kj15 x12_15 t777 t784 _ A33.out) ?_; clear HB; intro w34 HB))
    go_ret2
    exact finE
 simp only [Option.some.injEq, Prod.mk.injEq] at H
 obtain ⟨rfl, rfl⟩ := H
 go_enter Tryz.func101, Tryz.ntmps101
 go_wp2_with (first | ((with_reducible refine gc_ 98 rfl ?_); refine goB (some 15) Tryz.func98 #[.string a0, .string a1] bq (rFboth.calls k a0 a1 t768 _ A4.out) ?_; clear HB; intro w35 HB))
 go_ret2
 exact finE
theorem rFAdd.calls (k : Nat) (a0 : ByteArray) (a1 : ByteArray) (r1 : ByteArray) (r2 : Int) (w : World) (h : rFAdd.f k a0 a1 = some (r1, r2)) :
  Calls Tryz.prog 44 #[.string a0, .string a1] w fun e w' => e = .returned (.tuple #[.string r1, .int .i64 r2]) ∧ Below w.heap.size w w' := by
 have HB := Z0.mk (Below.refl w.heap.size w)
 have H := h
 clear h
 unfold rFAdd.f at H
 obtain ⟨⟨t785, t786⟩, A3, H⟩ := bnd H
 try dsimp only at H
 simp only [Option.some.injEq, Prod.mk.injEq] at H
 obtain ⟨rfl, rfl⟩ := H
 go_enter Tryz.func44, Tryz.ntmps44
 go_wp2_with (first | ((with_reducible refine gc_ 101 rfl ?_); refine goB (some 8) Tryz.func101 #[.string a0, .string a1, .bool false] bq (rFsum.calls k a0 a1 false t785 t786 _ A3.out) ?_; clear HB; intro w4 HB))
 go_ret2
 exact finE
theorem rFCompare.calls (k : Nat) (a0 : ByteArray) (a1 : ByteArray) (r1 : Int) (r2 : Int) (w : World) (h : rFCompare.f k a0 a1 = some (r1, r2)) :
  Calls Tryz.prog 45 #[.string a0, .string a1] w fun e w' => e = .returned (.tuple #[.int .i64 r1, .int .i64 r2]) ∧ Below w.heap.size w w' := by
 have HB := Z0.mk (Below.refl w.heap.size w)
 have H := h
 clear h
 unfold rFCompare.f at H
 obtain ⟨t787, A3, H⟩ := bnd H
 rcases je H with ⟨-, c4b0, c4b1, H⟩ | ⟨c4, c4b0, c4b1, H⟩
 ·obtain ⟨t788, A5, H⟩ := bnd H
  obtain ⟨t789, A6, H⟩ := bnd H
  obtain ⟨t790, A7, H⟩ := bnd H
  obtain ⟨t791, A8, H⟩ := bnd H
  obtain ⟨t792, A9, H⟩ := bnd H
  obtain ⟨t793, A10, H⟩ := bnd H
  obtain ⟨t794, A11, H⟩ := bnd H
  by_cases c12 : t794 = true
  ·subst c12
   have H1 : (some (0, 10)) = some (r1, r2) := by rw [if_pos rfl] at H; exact H
   clear H
   have H := H1
   clear H1
   simp only [Option.some.injEq, Prod.mk.injEq] at H
   obtain ⟨rfl, rfl⟩ := H
   go_enter Tryz.func45, Tryz.ntmps45
   go_wp2_with (first | ((with_reducible refine gc_ 98 rfl ?_); refine goB (some 11) Tryz.func98 #[.string a0, .string a1] bq (rFboth.calls k a0 a1 t787 _ A3.out) ?_; clear HB; intro w13 HB) | ((with_reducible refine gc_ 72 rfl ?_); refine goD (some 16) Tryz.func72 #[.string a0] (rFTop.calls k a0 t788 _ A5.out) ?_; intro nd) | ((with_reducible refine gc_ 73 rfl ?_); refine goD (some 18) Tryz.func73 #[.string a1] (rFBottom.calls k a1 t789 _ A6.out) ?_; intro nd) | ((with_reducible refine gc_ 99 rfl ?_); refine goB (some 19) Tryz.func99 #[.string t788, .string t789] bq (rEProduct.calls k t788 t789 t790 _ A7.out) ?_; clear HB; intro w14 HB) | ((with_reducible refine gc_ 72 rfl ?_); refine goD (some 21) Tryz.func72 #[.string a1] (rFTop.calls k a1 t791 _ A8.out) ?_; intro nd) | ((with_reducible refine gc_ 73 rfl ?_); refine goD (some 23) Tryz.func73 #[.string a0] (rFBottom.calls k a0 t792 _ A9.out) ?_; intro nd) | ((with_reducible refine gc_ 99 rfl ?_); refine goB (some 24) Tryz.func99 #[.string t791, .string t792] bq (rEProduct.calls k t791 t792 t793 _ A10.out) ?_; clear HB; intro w15 HB) | ((with_reducible refine gc_ 100 rfl ?_); refine goD (some 26) Tryz.func100 #[.string t790] (rFlarge.calls t790 true _ A11.out) ?_; intro nd))
   go_ret2
   exact finE
  replace c12 := Bool.eq_false_iff.mpr c12
  subst c12
  have H1 : ((rFlarge.f t793).bind fun t795 => (if t795 = true then (some (0, 10)) else ((rEOrder.f k t790 t793).bind fun t796 => (some (t796, 0))))) = some (r1, r2) := by rw [if_neg (show ¬ (false = true) by decide)] at H; exact H
  clear H
  have H := H1
  clear H1
  obtain ⟨t795, A16, H⟩ := bnd H
  by_cases c17 : t795 = true
  ·subst c17
   have H1 : (some (0, 10)) = some (r1, r2) := by rw [if_pos rfl] at H; exact H
   clear H
   have H := H1
   clear H1
   simp only [Option.some.injEq, Prod.mk.injEq] at H
   obtain ⟨rfl, rfl⟩ := H
   go_enter Tryz.func45, Tryz.ntmps45
   go_wp2_with (first | ((with_reducible refine gc_ 98 rfl ?_); refine goB (some 11) Tryz.func98 #[.string a0, .string a1] bq (rFboth.calls k a0 a1 t787 _ A3.out) ?_; clear HB; intro w18 HB) | ((with_reducible refine gc_ 72 rfl ?_); refine goD (some 16) Tryz.func72 #[.string a0] (rFTop.calls k a0 t788 _ A5.out) ?_; intro nd) | ((with_reducible refine gc_ 73 rfl ?_); refine goD (some 18) Tryz.func73 #[.string a1] (rFBottom.calls k a1 t789 _ A6.out) ?_; intro nd) | ((with_reducible refine gc_ 99 rfl ?_); refine goB (some 19) Tryz.func99 #[.string t788, .string t789] bq (rEProduct.calls k t788 t789 t790 _ A7.out) ?_; clear HB; intro w19 HB) | ((with_reducible refine gc_ 72 rfl ?_); refine goD (some 21) Tryz.func72 #[.string a1] (rFTop.calls k a1 t791 _ A8.out) ?_; intro nd) | ((with_reducible refine gc_ 73 rfl ?_); refine goD (some 23) Tryz.func73 #[.string a0] (rFBottom.calls k a0 t792 _ A9.out) ?_; intro nd) | ((with_reducible refine gc_ 99 rfl ?_); refine goB (some 24) Tryz.func99 #[.string t791, .string t792] bq (rEProduct.calls k t791 t792 t793 _ A10.out) ?_; clear HB; intro w20 HB) | ((with_reducible refine gc_ 100 rfl ?_); refine goD (some 26) Tryz.func100 #[.string t790] (rFlarge.calls t790 false _ A11.out) ?_; intro nd) | (go_at_call 100; (with_reducible refine (rFlarge.calls t793 true _ A16.out).mono ?_); rintro e w' ⟨rfl, ⟨nd, rfl⟩⟩))
   go_ret2
   exact finE
  replace c17 := Bool.eq_false_iff.mpr c17
  subst c17
  have H1 : ((rEOrder.f k t790 t793).bind fun t796 => (some (t796, 0))) = some (r1, r2) := by rw [if_neg (show ¬ (false = true) by decide)] at H; exact H
  clear H
  have H := H1
  clear H1
  obtain ⟨t796, A21, H⟩ := bnd H
  simp only [Option.some.injEq, Prod.mk.injEq] at H
  obtain ⟨rfl, rfl⟩ := H
  go_enter Tryz.func45, Tryz.ntmps45
  go_wp2_with (first | ((with_reducible refine gc_ 98 rfl ?_); refine goB (some 11) Tryz.func98 #[.string a0, .string a1] bq (rFboth.calls k a0 a1 t787 _ A3.out) ?_; clear HB; intro w22 HB) | ((with_reducible refine gc_ 72 rfl ?_); refine goD (some 16) Tryz.func72 #[.string a0] (rFTop.calls k a0 t788 _ A5.out) ?_; intro nd) | ((with_reducible refine gc_ 73 rfl ?_); refine goD (some 18) Tryz.func73 #[.string a1] (rFBottom.calls k a1 t789 _ A6.out) ?_; intro nd) | ((with_reducible refine gc_ 99 rfl ?_); refine goB (some 19) Tryz.func99 #[.string t788, .string t789] bq (rEProduct.calls k t788 t789 t790 _ A7.out) ?_; clear HB; intro w23 HB) | ((with_reducible refine gc_ 72 rfl ?_); refine goD (some 21) Tryz.func72 #[.string a1] (rFTop.calls k a1 t791 _ A8.out) ?_; intro nd) | ((with_reducible refine gc_ 73 rfl ?_); refine goD (some 23) Tryz.func73 #[.string a0] (rFBottom.calls k a0 t792 _ A9.out) ?_; intro nd) | ((with_reducible refine gc_ 99 rfl ?_); refine goB (some 24) Tryz.func99 #[.string t791, .string t792] bq (rEProduct.calls k t791 t792 t793 _ A10.out) ?_; clear HB; intro w24 HB) | ((with_reducible refine gc_ 100 rfl ?_); refine goD (some 26) Tryz.func100 #[.string t790] (rFlarge.calls t790 false _ A11.out) ?_; intro nd) | (go_at_call 100; (with_reducible refine (rFlarge.calls t793 false _ A16.out).mono ?_); rintro e w' ⟨rfl, ⟨nd, rfl⟩⟩) | ((with_reducible refine gc_ 102 rfl ?_); refine goB (some 33) Tryz.func102 #[.string t790, .string t793] bq (rEOrder.calls k t790 t793 t796 _ A21.out) ?_; clear HB; intro w25 HB))
  go_ret2
  exact finE
 simp only [Option.some.injEq, Prod.mk.injEq] at H
 obtain ⟨rfl, rfl⟩ := H
 go_enter Tryz.func45, Tryz.ntmps45
 go_wp2_with (first | ((with_reducible refine gc_ 98 rfl ?_); refine goB (some 11) Tryz.func98 #[.string a0, .string a1] bq (rFboth.calls k a0 a1 t787 _ A3.out) ?_; clear HB; intro w26 HB))
 go_ret2
 exact finE
theorem rFDiv.calls (k : Nat) (a0 : ByteArray) (a1 : ByteArray) (r1 : ByteArray) (r2 : Int) (w : World) (h : rFDiv.f k a0 a1 = some (r1, r2)) :
  Calls Tryz.prog 49 #[.string a0, .string a1] w fun e w' => e = .returned (.tuple #[.string r1, .int .i64 r2]) ∧ Below w.heap.size w w' := by
 have HB := Z0.mk (Below.refl w.heap.size w)
 have H := h
 clear h
 unfold rFDiv.f at H
 obtain ⟨t851, A3, H⟩ := bnd H
 rcases je H with ⟨-, c4b0, c4b1, H⟩ | ⟨c4, c4b0, c4b1, H⟩
 ·rcases je H with ⟨-, c5b0, c5b1, H⟩ | ⟨c5, c5b0, c5b1, H⟩
  ·simp only [Option.some.injEq, Prod.mk.injEq] at H
   obtain ⟨rfl, rfl⟩ := H
   go_enter Tryz.func49, Tryz.ntmps49
   go_wp2_with (first | ((with_reducible refine gc_ 98 rfl ?_); refine goB (some 11) Tryz.func98 #[.string a0, .string a1] bq (rFboth.calls k a0 a1 t851 _ A3.out) ?_; clear HB; intro w6 HB))
   go_ret2
   exact finE
  obtain ⟨t852, A7, H⟩ := bnd H
  obtain ⟨t853, A8, H⟩ := bnd H
  obtain ⟨t854, A9, H⟩ := bnd H
  obtain ⟨t855, A10, H⟩ := bnd H
  obtain ⟨t856, A11, H⟩ := bnd H
  obtain ⟨t857, A12, H⟩ := bnd H
  obtain ⟨t858, A13, H⟩ := bnd H
  by_cases c14 : t858 = true
  ·subst c14
   have H1 : (some ((⟨#[]⟩ : ByteArray), 10)) = some (r1, r2) := by rw [if_pos rfl] at H; exact H
   clear H
   have H := H1
   clear H1
   simp only [Option.some.injEq, Prod.mk.injEq] at H
   obtain ⟨rfl, rfl⟩ := H
   go_enter Tryz.func49, Tryz.ntmps49
   go_wp2_with (first | ((with_reducible refine gc_ 98 rfl ?_); refine goB (some 11) Tryz.func98 #[.string a0, .string a1] bq (rFboth.calls k a0 a1 t851 _ A3.out) ?_; clear HB; intro w15 HB) | ((with_reducible refine gc_ 72 rfl ?_); refine goD (some 18) Tryz.func72 #[.string a0] (rFTop.calls k a0 t852 _ A7.out) ?_; intro nd) | ((with_reducible refine gc_ 73 rfl ?_); refine goD (some 20) Tryz.func73 #[.string a1] (rFBottom.calls k a1 t853 _ A8.out) ?_; intro nd) | ((with_reducible refine gc_ 99 rfl ?_); refine goB (some 21) Tryz.func99 #[.string t852, .string t853] bq (rEProduct.calls k t852 t853 t854 _ A9.out) ?_; clear HB; intro w16 HB) | ((with_reducible refine gc_ 73 rfl ?_); refine goD (some 23) Tryz.func73 #[.string a0] (rFBottom.calls k a0 t855 _ A10.out) ?_; intro nd) | ((with_reducible refine gc_ 72 rfl ?_); refine goD (some 25) Tryz.func72 #[.string a1] (rFTop.calls k a1 t856 _ A11.out) ?_; intro nd) | ((with_reducible refine gc_ 99 rfl ?_); refine goB (some 26) Tryz.func99 #[.string t855, .string t856] bq (rEProduct.calls k t855 t856 t857 _ A12.out) ?_; clear HB; intro w17 HB) | ((with_reducible refine gc_ 100 rfl ?_); refine goD (some 28) Tryz.func100 #[.string t854] (rFlarge.calls t854 true _ A13.out) ?_; intro nd))
   go_ret2
   exact finE
  replace c14 := Bool.eq_false_iff.mpr c14
  subst c14
  have H1 : ((rFlarge.f t857).bind fun t859 => (if t859 = true then (some ((⟨#[]⟩ : ByteArray), 10)) else ((rFFrac.f k t854 t857).bind fun t860 => (some (t860, 0))))) = some (r1, r2) := by rw [if_neg (show ¬ (false = true) by decide)] at H; exact H
  clear H
  have H := H1
  clear H1
  obtain ⟨t859, A18, H⟩ := bnd H
  by_cases c19 : t859 = true
  ·subst c19
   have H1 : (some ((⟨#[]⟩ : ByteArray), 10)) = some (r1, r2) := by rw [if_pos rfl] at H; exact H
   clear H
   have H := H1
   clear H1
   simp only [Option.some.injEq, Prod.mk.injEq] at H
   obtain ⟨rfl, rfl⟩ := H
   go_enter Tryz.func49, Tryz.ntmps49
   go_wp2_with (first | ((with_reducible refine gc_ 98 rfl ?_); refine goB (some 11) Tryz.func98 #[.string a0, .string a1] bq (rFboth.calls k a0 a1 t851 _ A3.out) ?_; clear HB; intro w20 HB) | ((with_reducible refine gc_ 72 rfl ?_); refine goD (some 18) Tryz.func72 #[.string a0] (rFTop.calls k a0 t852 _ A7.out) ?_; intro nd) | ((with_reducible refine gc_ 73 rfl ?_); refine goD (some 20) Tryz.func73 #[.string a1] (rFBottom.calls k a1 t853 _ A8.out) ?_; intro nd) | ((with_reducible refine gc_ 99 rfl ?_); refine goB (some 21) Tryz.func99 #[.string t852, .string t853] bq (rEProduct.calls k t852 t853 t854 _ A9.out) ?_; clear HB; intro w21 HB) | ((with_reducible refine gc_ 73 rfl ?_); refine goD (some 23) Tryz.func73 #[.string a0] (rFBottom.calls k a0 t855 _ A10.out) ?_; intro nd) | ((with_reducible refine gc_ 72 rfl ?_); refine goD (some 25) Tryz.func72 #[.string a1] (rFTop.calls k a1 t856 _ A11.out) ?_; intro nd) | ((with_reducible refine gc_ 99 rfl ?_); refine goB (some 26) Tryz.func99 #[.string t855, .string t856] bq (rEProduct.calls k t855 t856 t857 _ A12.out) ?_; clear HB; intro w22 HB) | ((with_reducible refine gc_ 100 rfl ?_); refine goD (some 28) Tryz.func100 #[.string t854] (rFlarge.calls t854 false _ A13.out) ?_; intro nd) | (go_at_call 100; (with_reducible refine (rFlarge.calls t857 true _ A18.out).mono ?_); rintro e w' ⟨rfl, ⟨nd, rfl⟩⟩))
   go_ret2
   exact finE
  replace c19 := Bool.eq_false_iff.mpr c19
  subst c19
  have H1 : ((rFFrac.f k t854 t857).bind fun t860 => (some (t860, 0))) = some (r1, r2) := by rw [if_neg (show ¬ (false = true) by decide)] at H; exact H
  clear H
  have H := H1
  clear H1
  obtain ⟨t860, A23, H⟩ := bnd H
  simp only [Option.some.injEq, Prod.mk.injEq] at H
  obtain ⟨rfl, rfl⟩ := H
  go_enter Tryz.func49, Tryz.ntmps49
  go_wp2_with (first | ((with_reducible refine gc_ 98 rfl ?_); refine goB (some 11) Tryz.func98 #[.string a0, .string a1] bq (rFboth.calls k a0 a1 t851 _ A3.out) ?_; clear HB; intro w24 HB) | ((with_reducible refine gc_ 72 rfl ?_); refine goD (some 18) Tryz.func72 #[.string a0] (rFTop.calls k a0 t852 _ A7.out) ?_; intro nd) | ((with_reducible refine gc_ 73 rfl ?_); refine goD (some 20) Tryz.func73 #[.string a1] (rFBottom.calls k a1 t853 _ A8.out) ?_; intro nd) | ((with_reducible refine gc_ 99 rfl ?_); refine goB (some 21) Tryz.func99 #[.string t852, .string t853] bq (rEProduct.calls k t852 t853 t854 _ A9.out) ?_; clear HB; intro w25 HB) | ((with_reducible refine gc_ 73 rfl ?_); refine goD (some 23) Tryz.func73 #[.string a0] (rFBottom.calls k a0 t855 _ A10.out) ?_; intro nd) | ((with_reducible refine gc_ 72 rfl ?_); refine goD (some 25) Tryz.func72 #[.string a1] (rFTop.calls k a1 t856 _ A11.out) ?_; intro nd) | ((with_reducible refine gc_ 99 rfl ?_); refine goB (some 26) Tryz.func99 #[.string t855, .string t856] bq (rEProduct.calls k t855 t856 t857 _ A12.out) ?_; clear HB; intro w26 HB) | ((with_reducible refine gc_ 100 rfl ?_); refine goD (some 28) Tryz.func100 #[.string t854] (rFlarge.calls t854 false _ A13.out) ?_; intro nd) | (go_at_call 100; (with_reducible refine (rFlarge.calls t857 false _ A18.out).mono ?_); rintro e w' ⟨rfl, ⟨nd, rfl⟩⟩) | ((with_reducible refine gc_ 85 rfl ?_); refine goB (some 35) Tryz.func85 #[.string t854, .string t857] bq (rFFrac.calls k t854 t857 t860 _ A23.out) ?_; clear HB; intro w27 HB))
  go_ret2
  exact finE
 simp only [Option.some.injEq, Prod.mk.injEq] at H
 obtain ⟨rfl, rfl⟩ := H
 go_enter Tryz.func49, Tryz.ntmps49
 go_wp2_with (first | ((with_reducible refine gc_ 98 rfl ?_); refine goB (some 11) Tryz.func98 #[.string a0, .string a1] bq (rFboth.calls k a0 a1 t851 _ A3.out) ?_; clear HB; intro w28 HB))
 go_ret2
 exact finE
theorem rFFew.calls (a0 : ByteArray) (r : Bool) (w : World) (h : rFFew.f a0 = some r) :
  Calls Tryz.prog 16 #[.string a0] w fun e w' => e = .returned (.bool r) ∧ Drawn0 w w' := by
 have H := h
 clear h
 unfold rFFew.f at H
 obtain rfl := Option.some.inj H
 go_enter Tryz.func16, Tryz.ntmps16
 go_wp2
 go_ret
 exact finD
theorem rFMul.calls (k : Nat) (a0 : ByteArray) (a1 : ByteArray) (r1 : ByteArray) (r2 : Int) (w : World) (h : rFMul.f k a0 a1 = some (r1, r2)) :
  Calls Tryz.prog 42 #[.string a0, .string a1] w fun e w' => e = .returned (.tuple #[.string r1, .int .i64 r2]) ∧ Below w.heap.size w w' := by
 have HB := Z0.mk (Below.refl w.heap.size w)
 have H := h
 clear h
 unfold rFMul.f at H
 obtain ⟨t758, A3, H⟩ := bnd H
 rcases je H with ⟨-, c4b0, c4b1, H⟩ | ⟨c4, c4b0, c4b1, H⟩
 ·obtain ⟨t759, A5, H⟩ := bnd H
  obtain ⟨t760, A6, H⟩ := bnd H
  obtain ⟨t761, A7, H⟩ := bnd H
  obtain ⟨t762, A8, H⟩ := bnd H
  obtain ⟨t763, A9, H⟩ := bnd H
  obtain ⟨t764, A10, H⟩ := bnd H
  obtain ⟨t765, A11, H⟩ := bnd H
  by_cases c12 : t765 = true
  ·subst c12
   have H1 : (some ((⟨#[]⟩ : ByteArray), 10)) = some (r1, r2) := by rw [if_pos rfl] at H; exact H
   clear H
   have H := H1
   clear H1
   simp only [Option.some.injEq, Prod.mk.injEq] at H
   obtain ⟨rfl, rfl⟩ := H
   go_enter Tryz.func42, Tryz.ntmps42
   go_wp2_with (first | ((with_reducible refine gc_ 98 rfl ?_); refine goB (some 11) Tryz.func98 #[.string a0, .string a1] bq (rFboth.calls k a0 a1 t758 _ A3.out) ?_; clear HB; intro w13 HB) | ((with_reducible refine gc_ 72 rfl ?_); refine goD (some 16) Tryz.func72 #[.string a0] (rFTop.calls k a0 t759 _ A5.out) ?_; intro nd) | ((with_reducible refine gc_ 72 rfl ?_); refine goD (some 18) Tryz.func72 #[.string a1] (rFTop.calls k a1 t760 _ A6.out) ?_; intro nd) | ((with_reducible refine gc_ 99 rfl ?_); refine goB (some 19) Tryz.func99 #[.string t759, .string t760] bq (rEProduct.calls k t759 t760 t761 _ A7.out) ?_; clear HB; intro w14 HB) | ((with_reducible refine gc_ 73 rfl ?_); refine goD (some 21) Tryz.func73 #[.string a0] (rFBottom.calls k a0 t762 _ A8.out) ?_; intro nd) | ((with_reducible refine gc_ 73 rfl ?_); refine goD (some 23) Tryz.func73 #[.string a1] (rFBottom.calls k a1 t763 _ A9.out) ?_; intro nd) | ((with_reducible refine gc_ 99 rfl ?_); refine goB (some 24) Tryz.func99 #[.string t762, .string t763] bq (rEProduct.calls k t762 t763 t764 _ A10.out) ?_; clear HB; intro w15 HB) | ((with_reducible refine gc_ 100 rfl ?_); refine goD (some 26) Tryz.func100 #[.string t761] (rFlarge.calls t761 true _ A11.out) ?_; intro nd))
   go_ret2
   exact finE
  replace c12 := Bool.eq_false_iff.mpr c12
  subst c12
  have H1 : ((rFlarge.f t764).bind fun t766 => (if t766 = true then (some ((⟨#[]⟩ : ByteArray), 10)) else ((rFFrac.f k t761 t764).bind fun t767 => (some (t767, 0))))) = some (r1, r2) := by rw [if_neg (show ¬ (false = true) by decide)] at H; exact H
  clear H
  have H := H1
  clear H1
  obtain ⟨t766, A16, H⟩ := bnd H
  by_cases c17 : t766 = true
  ·subst c17
   have H1 : (some ((⟨#[]⟩ : ByteArray), 10)) = some (r1, r2) := by rw [if_pos rfl] at H; exact H
   clear H
   have H := H1
   clear H1
   simp only [Option.some.injEq, Prod.mk.injEq] at H
   obtain ⟨rfl, rfl⟩ := H
   go_enter Tryz.func42, Tryz.ntmps42
   go_wp2_with (first | ((with_reducible refine gc_ 98 rfl ?_); refine goB (some 11) Tryz.func98 #[.string a0, .string a1] bq (rFboth.calls k a0 a1 t758 _ A3.out) ?_; clear HB; intro w18 HB) | ((with_reducible refine gc_ 72 rfl ?_); refine goD (some 16) Tryz.func72 #[.string a0] (rFTop.calls k a0 t759 _ A5.out) ?_; intro nd) | ((with_reducible refine gc_ 72 rfl ?_); refine goD (some 18) Tryz.func72 #[.string a1] (rFTop.calls k a1 t760 _ A6.out) ?_; intro nd) | ((with_reducible refine gc_ 99 rfl ?_); refine goB (some 19) Tryz.func99 #[.string t759, .string t760] bq (rEProduct.calls k t759 t760 t761 _ A7.out) ?_; clear HB; intro w19 HB) | ((with_reducible refine gc_ 73 rfl ?_); refine goD (some 21) Tryz.func73 #[.string a0] (rFBottom.calls k a0 t762 _ A8.out) ?_; intro nd) | ((with_reducible refine gc_ 73 rfl ?_); refine goD (some 23) Tryz.func73 #[.string a1] (rFBottom.calls k a1 t763 _ A9.out) ?_; intro nd) | ((with_reducible refine gc_ 99 rfl ?_); refine goB (some 24) Tryz.func99 #[.string t762, .string t763] bq (rEProduct.calls k t762 t763 t764 _ A10.out) ?_; clear HB; intro w20 HB) | ((with_reducible refine gc_ 100 rfl ?_); refine goD (some 26) Tryz.func100 #[.string t761] (rFlarge.calls t761 false _ A11.out) ?_; intro nd) | (go_at_call 100; (with_reducible refine (rFlarge.calls t764 true _ A16.out).mono ?_); rintro e w' ⟨rfl, ⟨nd, rfl⟩⟩))
   go_ret2
   exact finE
  replace c17 := Bool.eq_false_iff.mpr c17
  subst c17
  have H1 : ((rFFrac.f k t761 t764).bind fun t767 => (some (t767, 0))) = some (r1, r2) := by rw [if_neg (show ¬ (false = true) by decide)] at H; exact H
  clear H
  have H := H1
  clear H1
  obtain ⟨t767, A21, H⟩ := bnd H
  simp only [Option.some.injEq, Prod.mk.injEq] at H
  obtain ⟨rfl, rfl⟩ := H
  go_enter Tryz.func42, Tryz.ntmps42
  go_wp2_with (first | ((with_reducible refine gc_ 98 rfl ?_); refine goB (some 11) Tryz.func98 #[.string a0, .string a1] bq (rFboth.calls k a0 a1 t758 _ A3.out) ?_; clear HB; intro w22 HB) | ((with_reducible refine gc_ 72 rfl ?_); refine goD (some 16) Tryz.func72 #[.string a0] (rFTop.calls k a0 t759 _ A5.out) ?_; intro nd) | ((with_reducible refine gc_ 72 rfl ?_); refine goD (some 18) Tryz.func72 #[.string a1] (rFTop.calls k a1 t760 _ A6.out) ?_; intro nd) | ((with_reducible refine gc_ 99 rfl ?_); refine goB (some 19) Tryz.func99 #[.string t759, .string t760] bq (rEProduct.calls k t759 t760 t761 _ A7.out) ?_; clear HB; intro w23 HB) | ((with_reducible refine gc_ 73 rfl ?_); refine goD (some 21) Tryz.func73 #[.string a0] (rFBottom.calls k a0 t762 _ A8.out) ?_; intro nd) | ((with_reducible refine gc_ 73 rfl ?_); refine goD (some 23) Tryz.func73 #[.string a1] (rFBottom.calls k a1 t763 _ A9.out) ?_; intro nd) | ((with_reducible refine gc_ 99 rfl ?_); refine goB (some 24) Tryz.func99 #[.string t762, .string t763] bq (rEProduct.calls k t762 t763 t764 _ A10.out) ?_; clear HB; intro w24 HB) | ((with_reducible refine gc_ 100 rfl ?_); refine goD (some 26) Tryz.func100 #[.string t761] (rFlarge.calls t761 false _ A11.out) ?_; intro nd) | (go_at_call 100; (with_reducible refine (rFlarge.calls t764 false _ A16.out).mono ?_); rintro e w' ⟨rfl, ⟨nd, rfl⟩⟩) | ((with_reducible refine gc_ 85 rfl ?_); refine goB (some 33) Tryz.func85 #[.string t761, .string t764] bq (rFFrac.calls k t761 t764 t767 _ A21.out) ?_; clear HB; intro w25 HB))
  go_ret2
  exact finE
 simp only [Option.some.injEq, Prod.mk.injEq] at H
 obtain ⟨rfl, rfl⟩ := H
 go_enter Tryz.func42, Tryz.ntmps42
 go_wp2_with (first | ((with_reducible refine gc_ 98 rfl ?_); refine goB (some 11) Tryz.func98 #[.string a0, .string a1] bq (rFboth.calls k a0 a1 t758 _ A3.out) ?_; clear HB; intro w26 HB))
 go_ret2
 exact finE
theorem rFSub.calls (k : Nat) (a0 : ByteArray) (a1 : ByteArray) (r1 : ByteArray) (r2 : Int) (w : World) (h : rFSub.f k a0 a1 = some (r1, r2)) :
  Calls Tryz.prog 47 #[.string a0, .string a1] w fun e w' => e = .returned (.tuple #[.string r1, .int .i64 r2]) ∧ Below w.heap.size w w' := by
 have HB := Z0.mk (Below.refl w.heap.size w)
 have H := h
 clear h
 unfold rFSub.f at H
 obtain ⟨⟨t849, t850⟩, A3, H⟩ := bnd H
 try dsimp only at H
 simp only [Option.some.injEq, Prod.mk.injEq] at H
 obtain ⟨rfl, rfl⟩ := H
 go_enter Tryz.func47, Tryz.ntmps47
 go_wp2_with (first | ((with_reducible refine gc_ 101 rfl ?_); refine goB (some 8) Tryz.func101 #[.string a0, .string a1, .bool true] bq (rFsum.calls k a0 a1 true t849 t850 _ A3.out) ?_; clear HB; intro w4 HB))
 go_ret2
 exact finE
theorem lWRationalComputes.calls (k : Nat) (a0 : ByteArray) (a1 : ByteArray) (r : Bool) (w : World) (hL : LaidW w) (h : lWRationalComputes.f k a0 a1 = some r) :
  Calls Tryz.prog 9 #[.string a0, .string a1] w fun e w' => e = .returned (.bool r) ∧ Below w.heap.size w w' := by
 have HB := Z0.mk (Below.refl w.heap.size w)
 have H := h
 clear h
 unfold lWRationalComputes.f at H
 have HC3 := Z0.mk H
 clear H
 go_enter Tryz.func9, Tryz.ntmps9
 go_upto_region 1 with (fail)
 go_cut [22] (fun v22 wc => ∃ (kq : Nat) (x22_2 : Bool), v22 = .bool x22_2 ∧ Z0 (lWRationalComputes.j0 kq a0 a1 x22_2 = some r) ∧ Z0 (kq ≤ k) ∧ Z0 (Below w.heap.size w wc))
 case first =>
  have H := HC3.out
  clear HC3
  obtain ⟨t861, A4, H⟩ := bnd H
  by_cases c5 : t861 = true
  ·subst c5
   have H1 : ((rFFew.f a1).bind fun t862 => (lWRationalComputes.j0 k a0 a1 (!t862))) = some r := by rw [if_pos rfl] at H; exact H
   clear H
   have H := H1
   clear H1
   obtain ⟨t862, A6, H⟩ := bnd H
   have H' := Z0.mk H
   clear H
   go_wp2_with (first | ((with_reducible refine gc_ 16 rfl ?_); refine goD (some 16) Tryz.func16 #[.string a0] (rFFew.calls a0 true _ A4.out) ?_; intro nd) | (go_at_call 16; (with_reducible refine (rFFew.calls a1 t862 _ A6.out).mono ?_); rintro e w' ⟨rfl, ⟨nd, rfl⟩⟩))
   go_meet
   case rel => exact ⟨_, (!t862), fs, H', ⟨by first | omega | exact Nat.le_refl _⟩, ⟨bqs⟩⟩
  replace c5 := Bool.eq_false_iff.mpr c5
  subst c5
  have H1 : (lWRationalComputes.j0 k a0 a1 true) = some r := by rw [if_neg (show ¬ (false = true) by decide)] at H; exact H
  clear H
  have H := H1
  clear H1
  have H' := Z0.mk H
  clear H
  go_wp2_with (first | ((with_reducible refine gc_ 16 rfl ?_); refine goD (some 16) Tryz.func16 #[.string a0] (rFFew.calls a0 false _ A4.out) ?_; intro nd))
  go_meet
  case rel => exact ⟨_, (true), fs, H', ⟨by first | omega | exact Nat.le_refl _⟩, ⟨bqs⟩⟩
 case rest =>
  clear HC3
  try clear c1
  try clear p2
  try clear c5
  obtain ⟨kq, x22_2, rfl, HA, HJ2, HB⟩ := hcut
  cases kq with
  | zero => exact absurd HA.out (by simp [lWRationalComputes.j0])
  | succ kj2 =>
   have H := HA.out
   clear HA
   simp only [lWRationalComputes.j0] at H
   by_cases c7 : x22_2 = true
   ·subst c7
    have H1 : ((lWawake.f kj2).bind fun t863 => (some t863)) = some r := by rw [if_pos rfl] at H; exact H
    clear H
    have H := H1
    clear H1
    obtain ⟨t863, A8, H⟩ := bnd H
    obtain rfl := Option.some.inj H
    go_wp2_with (first | ((with_reducible refine gc_ 17 rfl ?_); refine goB (some 23) Tryz.func17 #[] bq (lWawake.calls kj2  t863 _ (hL.below bq) A8.out) ?_; clear HB; intro w9 HB))
    go_ret
    exact finE
   replace c7 := Bool.eq_false_iff.mpr c7
   subst c7
   have H1 : ((rACompare.f kj2 a0 a1).bind fun bt864 => ((rFCompare.f kj2 a0 a1).bind fun bt866 => ((lWawake.f kj2).bind fun t868 => (if t868 = true then (if bt864.1 = bt866.1 then (lWRationalComputes.j1 kj2 a0 a1 (bt864.2 != bt866.2)) else (lWRationalComputes.j1 kj2 a0 a1 true)) else (lWRationalComputes.j1 kj2 a0 a1 true))))) = some r := by rw [if_neg (show ¬ (false = true) by decide)] at H; exact H
   clear H
   have H := H1
   clear H1
   obtain ⟨⟨t864, t865⟩, A10, H⟩ := bnd H
   try dsimp only at H
   obtain ⟨⟨t866, t867⟩, A11, H⟩ := bnd H
   try dsimp only at H
   have HC12 := Z0.mk H
   clear H
   go_upto_region 5 with (first | ((with_reducible refine gc_ 34 rfl ?_); refine goB (some 27) Tryz.func34 #[.string a0, .string a1] bq (rACompare.calls kj2 a0 a1 t864 t865 _ (hL.below bq) A10.out) ?_; clear HB; intro w13 HB) | ((with_reducible refine gc_ 45 rfl ?_); refine goB (some 33) Tryz.func45 #[.string a0, .string a1] bq (rFCompare.calls kj2 a0 a1 t866 t867 _ A11.out) ?_; clear HB; intro w14 HB))
   (try simp only [Act.put, List.setIfInBounds_toArray, List.set_cons_zero, List.set_cons_succ])
   go_cut [47] (fun v47 wc => ∃ (kq : Nat) (x47_11 : Bool), v47 = .bool x47_11 ∧ Z0 (lWRationalComputes.j1 kq a0 a1 x47_11 = some r) ∧ Z0 (kq ≤ kj2) ∧ Z0 (Below w.heap.size w wc))
   case first =>
    have H := HC12.out
    clear HC12
    obtain ⟨t868, A15, H⟩ := bnd H
    by_cases c16 : t868 = true
    ·subst c16
     have H1 : (if t864 = t866 then (lWRationalComputes.j1 kj2 a0 a1 (t865 != t867)) else (lWRationalComputes.j1 kj2 a0 a1 true)) = some r := by rw [if_pos rfl] at H; exact H
     clear H
     have H := H1
     clear H1
     rcases je H with ⟨-, c17b0, c17b1, H⟩ | ⟨c17, c17b0, c17b1, H⟩
     ·(first | rw [c17b0] | (simp only [i64_w, i32_w]; rw [c17b0]) | skip)
      have H' := Z0.mk H
      clear H
      go_wp2_with (first | ((with_reducible refine gc_ 17 rfl ?_); refine goB (some 36) Tryz.func17 #[] bq (lWawake.calls kj2  true _ (hL.below bq) A15.out) ?_; clear HB; intro w18 HB))
      go_meet
      case rel => exact ⟨_, ((t865 != t867)), fs, H', ⟨by have := HJ2.out; first | omega | exact Nat.le_refl _⟩, ⟨bqs⟩⟩
     (first | rw [c17b0] | (simp only [i64_w, i32_w]; rw [c17b0]) | skip)
     have H' := Z0.mk H
     clear H
     go_wp2_with (first | ((with_reducible refine gc_ 17 rfl ?_); refine goB (some 36) Tryz.func17 #[] bq (lWawake.calls kj2  true _ (hL.below bq) A15.out) ?_; clear HB; intro w19 HB))
     go_meet
     case rel => exact ⟨_, (true), fs, H', ⟨by have := HJ2.out; first | omega | exact Nat.le_refl _⟩, ⟨bqs⟩⟩
    replace c16 := Bool.eq_false_iff.mpr c16
    subst c16
    have H1 : (lWRationalComputes.j1 kj2 a0 a1 true) = some r := by rw [if_neg (show ¬ (false = true) by decide)] at H; exact H
    clear H
    have H := H1
    clear H1
    have H' := Z0.mk H
    clear H
    go_wp2_with (first | ((with_reducible refine gc_ 17 rfl ?_); refine goB (some 36) Tryz.func17 #[] bq (lWawake.calls kj2  false _ (hL.below bq) A15.out) ?_; clear HB; intro w20 HB))
    go_meet
    case rel => exact ⟨_, (true), fs, H', ⟨by have := HJ2.out; first | omega | exact Nat.le_refl _⟩, ⟨bqs⟩⟩
   case rest =>
    clear HC12
    try clear c1
    try clear p2
    try clear c3
    try clear c4
    try clear c5
    try clear c7
    try clear c9
    try clear c16
    try clear c17
    try clear c17b0
    try clear c17b1
    try clear p2
    obtain ⟨kq, x47_11, rfl, HA, HJ11, HB⟩ := hcut
    cases kq with
    | zero => exact absurd HA.out (by simp [lWRationalComputes.j1])
    | succ kj11 =>
     have H := HA.out
     clear HA
     simp only [lWRationalComputes.j1] at H
     by_cases c21 : x47_11 = true
     ·subst c21
      have H1 : (some false) = some r := by rw [if_pos rfl] at H; exact H
      clear H
      have H := H1
      clear H1
      obtain rfl := Option.some.inj H
      go_wp2
      go_ret
      exact finE
     replace c21 := Bool.eq_false_iff.mpr c21
     subst c21
     have H1 : ((rAAdd.f kj11 a0 a1).bind fun bt869 => ((rFAdd.f kj11 a0 a1).bind fun bt871 => ((rASub.f kj11 a0 a1).bind fun bt873 => ((rFSub.f kj11 a0 a1).bind fun bt875 => (if bt869.1.toList = bt871.1.toList then (if bt869.2 = bt871.2 then (if bt873.1.toList = bt875.1.toList then (lWRationalComputes.j2 kj11 a0 a1 (bt873.2 != bt875.2)) else (lWRationalComputes.j2 kj11 a0 a1 true)) else (lWRationalComputes.j2 kj11 a0 a1 true)) else (lWRationalComputes.j2 kj11 a0 a1 true)))))) = some r := by rw [if_neg (show ¬ (false = true) by decide)] at H; exact H
     clear H
     have H := H1
     clear H1
     obtain ⟨⟨t869, t870⟩, A22, H⟩ := bnd H
     try dsimp only at H
     obtain ⟨⟨t871, t872⟩, A23, H⟩ := bnd H
     try dsimp only at H
     obtain ⟨⟨t873, t874⟩, A24, H⟩ := bnd H
     try dsimp only at H
     obtain ⟨⟨t875, t876⟩, A25, H⟩ := bnd H
     try dsimp only at H
     have HC26 := Z0.mk H
     clear H
     go_upto_region 11 with (first | ((with_reducible refine gc_ 43 rfl ?_); refine goB (some 51) Tryz.func43 #[.string a0, .string a1] bq (rAAdd.calls kj11 a0 a1 t869 t870 _ (hL.below bq) A22.out) ?_; clear HB; intro w27 HB) | ((with_reducible refine gc_ 44 rfl ?_); refine goB (some 57) Tryz.func44 #[.string a0, .string a1] bq (rFAdd.calls kj11 a0 a1 t871 t872 _ A23.out) ?_; clear HB; intro w28 HB) | ((with_reducible refine gc_ 46 rfl ?_); refine goB (some 63) Tryz.func46 #[.string a0, .string a1] bq (rASub.calls kj11 a0 a1 t873 t874 _ (hL.below bq) A24.out) ?_; clear HB; intro w29 HB) | ((with_reducible refine gc_ 47 rfl ?_); refine goB (some 69) Tryz.func47 #[.string a0, .string a1] bq (rFSub.calls kj11 a0 a1 t875 t876 _ A25.out) ?_; clear HB; intro w30 HB))
     (try simp only [Act.put, List.setIfInBounds_toArray, List.set_cons_zero, List.set_cons_succ])
     go_cut [89] (fun v89 wc => ∃ (kq : Nat) (x89_25 : Bool), v89 = .bool x89_25 ∧ Z0 (lWRationalComputes.j2 kq a0 a1 x89_25 = some r) ∧ Z0 (kq ≤ kj11) ∧ Z0 (Below w.heap.size w wc))
     case first =>
      have H := HC26.out
      clear HC26
      rcases je H with ⟨-, c31b0, c31b1, H⟩ | ⟨c31, c31b0, c31b1, H⟩
      ·(first | rw [c31b0] | (simp only [i64_w, i32_w]; rw [c31b0]) | skip)
       rcases je H with ⟨-, c32b0, c32b1, H⟩ | ⟨c32, c32b0, c32b1, H⟩
       ·rcases je H with ⟨-, c33b0, c33b1, H⟩ | ⟨c33, c33b0, c33b1, H⟩
        ·have H' := Z0.mk H
         clear H
         go_wp2
         go_meet
         case rel => exact ⟨_, ((t874 != t876)), fs, H', ⟨by have := HJ2.out; have := HJ11.out; first | omega | exact Nat.le_refl _⟩, ⟨bqs⟩⟩
        have H' := Z0.mk H
        clear H
        go_wp2
        go_meet
        case rel => exact ⟨_, (true), fs, H', ⟨by have := HJ2.out; have := HJ11.out; first | omega | exact Nat.le_refl _⟩, ⟨bqs⟩⟩
       have H' := Z0.mk H
       clear H
       go_wp2
       go_meet
       case rel => exact ⟨_, (true), fs, H', ⟨by have := HJ2.out; have := HJ11.out; first | omega | exact Nat.le_refl _⟩, ⟨bqs⟩⟩
      (first | rw [c31b0] | (simp only [i64_w, i32_w]; rw [c31b0]) | skip)
      have H' := Z0.mk H
      clear H
      go_wp2
      go_meet
      case rel => exact ⟨_, (true), fs, H', ⟨by have := HJ2.out; have := HJ11.out; first | omega | exact Nat.le_refl _⟩, ⟨bqs⟩⟩
     case rest =>
      clear HC26
      try clear c1
      try clear c2
      try clear p2
      try clear c3
      try clear c4
      try clear c5
      try clear c7
      try clear c9
      try clear c16
      try clear c17
      try clear c17b0
      try clear c17b1
      try clear c21
      try clear c31
      try clear c31b0
      try clear c31b1
      try clear c32
      try clear c32b0
      try clear c32b1
      try clear c33
      try clear c33b0
      try clear c33b1
      try clear p2
      obtain ⟨kq, x89_25, rfl, HA, HJ25, HB⟩ := hcut
      cases kq with
      | zero => exact absurd HA.out (by simp [lWRationalComputes.j2])
      | succ kj25 =>
       have H := HA.out
       clear HA
       simp only [lWRationalComputes.j2] at H
       by_cases c34 : x89_25 = true
       ·subst c34
        have H1 : (some false) = some r := by rw [if_pos rfl] at H; exact H
        clear H
        have H := H1
        clear H1
        obtain rfl := Option.some.inj H
        go_wp2
        go_ret
        exact finE
       replace c34 := Bool.eq_false_iff.mpr c34
       subst c34
       have H1 : ((rAMul.f kj25 a0 a1).bind fun bt877 => ((rFMul.f kj25 a0 a1).bind fun bt879 => ((rADiv.f kj25 a0 a1).bind fun bt881 => ((rFDiv.f kj25 a0 a1).bind fun bt883 => (if bt877.1.toList = bt879.1.toList then (if bt877.2 = bt879.2 then (if bt881.1.toList = bt883.1.toList then (some (bt881.2 == bt883.2)) else (some false)) else (some false)) else (some false)))))) = some r := by rw [if_neg (show ¬ (false = true) by decide)] at H; exact H
       clear H
       have H := H1
       clear H1
       obtain ⟨⟨t877, t878⟩, A35, H⟩ := bnd H
       try dsimp only at H
       obtain ⟨⟨t879, t880⟩, A36, H⟩ := bnd H
       try dsimp only at H
       obtain ⟨⟨t881, t882⟩, A37, H⟩ := bnd H
       try dsimp only at H
       obtain ⟨⟨t883, t884⟩, A38, H⟩ := bnd H
       try dsimp only at H
       rcases je H with ⟨-, c39b0, c39b1, H⟩ | ⟨c39, c39b0, c39b1, H⟩
       ·rcases je H with ⟨-, c40b0, c40b1, H⟩ | ⟨c40, c40b0, c40b1, H⟩
        ·rcases je H with ⟨-, c41b0, c41b1, H⟩ | ⟨c41, c41b0, c41b1, H⟩
         ·obtain rfl := Option.some.inj H
          go_wp2_with (first | ((with_reducible refine gc_ 41 rfl ?_); refine goB (some 93) Tryz.func41 #[.string a0, .string a1] bq (rAMul.calls kj25 a0 a1 t877 t878 _ (hL.below bq) A35.out) ?_; clear HB; intro w42 HB) | ((with_reducible refine gc_ 42 rfl ?_); refine goB (some 99) Tryz.func42 #[.string a0, .string a1] bq (rFMul.calls kj25 a0 a1 t879 t880 _ A36.out) ?_; clear HB; intro w43 HB) | ((with_reducible refine gc_ 48 rfl ?_); refine goB (some 105) Tryz.func48 #[.string a0, .string a1] bq (rADiv.calls kj25 a0 a1 t881 t882 _ (hL.below bq) A37.out) ?_; clear HB; intro w44 HB) | ((with_reducible refine gc_ 49 rfl ?_); refine goB (some 111) Tryz.func49 #[.string a0, .string a1] bq (rFDiv.calls kj25 a0 a1 t883 t884 _ A38.out) ?_; clear HB; intro w45 HB))
          go_ret
          exact finE
         obtain rfl := Option.some.inj H
         go_wp2_with (first | ((with_reducible refine gc_ 41 rfl ?_); refine goB (some 93) Tryz.func41 #[.string a0, .string a1] bq (rAMul.calls kj25 a0 a1 t877 t878 _ (hL.below bq) A35.out) ?_; clear HB; intro w46 HB) | ((with_reducible refine gc_ 42 rfl ?_); refine goB (some 99) Tryz.func42 #[.string a0, .string a1] bq (rFMul.calls kj25 a0 a1 t879 t880 _ A36.out) ?_; clear HB; intro w47 HB) | ((with_reducible refine gc_ 48 rfl ?_); refine goB (some 105) Tryz.func48 #[.string a0, .string a1] bq (rADiv.calls kj25 a0 a1 t881 t882 _ (hL.below bq) A37.out) ?_; clear HB; intro w48 HB) | ((with_reducible refine gc_ 49 rfl ?_); refine goB (some 111) Tryz.func49 #[.string a0, .string a1] bq (rFDiv.calls kj25 a0 a1 t883 t884 _ A38.out) ?_; clear HB; intro w49 HB))
         go_ret
         exact finE
        obtain rfl := Option.some.inj H
        go_wp2_with (first | ((with_reducible refine gc_ 41 rfl ?_); refine goB (some 93) Tryz.func41 #[.string a0, .string a1] bq (rAMul.calls kj25 a0 a1 t877 t878 _ (hL.below bq) A35.out) ?_; clear HB; intro w50 HB) | ((with_reducible refine gc_ 42 rfl ?_); refine goB (some 99) Tryz.func42 #[.string a0, .string a1] bq (rFMul.calls kj25 a0 a1 t879 t880 _ A36.out) ?_; clear HB; intro w51 HB) | ((with_reducible refine gc_ 48 rfl ?_); refine goB (some 105) Tryz.func48 #[.string a0, .string a1] bq (rADiv.calls kj25 a0 a1 t881 t882 _ (hL.below bq) A37.out) ?_; clear HB; intro w52 HB) | ((with_reducible refine gc_ 49 rfl ?_); refine goB (some 111) Tryz.func49 #[.string a0, .string a1] bq (rFDiv.calls kj25 a0 a1 t883 t884 _ A38.out) ?_; clear HB; intro w53 HB))
        go_ret
        exact finE
       obtain rfl := Option.some.inj H
       go_wp2_with (first | ((with_reducible refine gc_ 41 rfl ?_); refine goB (some 93) Tryz.func41 #[.string a0, .string a1] bq (rAMul.calls kj25 a0 a1 t877 t878 _ (hL.below bq) A35.out) ?_; clear HB; intro w54 HB) | ((with_reducible refine gc_ 42 rfl ?_); refine goB (some 99) Tryz.func42 #[.string a0, .string a1] bq (rFMul.calls kj25 a0 a1 t879 t880 _ A36.out) ?_; clear HB; intro w55 HB) | ((with_reducible refine gc_ 48 rfl ?_); refine goB (some 105) Tryz.func48 #[.string a0, .string a1] bq (rADiv.calls kj25 a0 a1 t881 t882 _ (hL.below bq) A37.out) ?_; clear HB; intro w56 HB) | ((with_reducible refine gc_ 49 rfl ?_); refine goB (some 111) Tryz.func49 #[.string a0, .string a1] bq (rFDiv.calls kj25 a0 a1 t883 t884 _ A38.out) ?_; clear HB; intro w57 HB))
       go_ret
       exact finE
end Go.Proofs.YthnfajboebaajaaGreatDoor.PA
namespace Go.Proofs.YthnfajboebaajaaGreatDoor.Rb
open Go.ChangeShapes Go.WideShapes Go.ChangeAt Go.RowKit
theorem and_ {a b : Bool} (h : a = true) (k : b = true) : (a && b) = true := by rw [h, k]; rfl
theorem own : ownKnob Tryz.prog.godebug = none := by kernel_rfl
abbrev laid : List (String × DataW Unit) := Rows.rationalMakesRow.laid
theorem shaped (os : Os) (args : Array Value) : ((World.laidAll Tryz.prog os laid).forCall (fun _ _ => 0) ⟨#[], args, []⟩).Shaped Tryz.checked.prog := World.shaped_of_ZipB (by kernel_rfl) (by kernel_rfl)
theorem met (os : Os) (args : Array Value) : laidMetH Tryz.prog laid ((World.laidAll Tryz.prog os laid).forCall (fun _ _ => 0) ⟨#[], args, []⟩).memory := by
 rw [MakeChecks.laidMetH_plain _ _ _ (by kernel_rfl)]
 exact laidMet_laidAll _ (by kernel_rfl) (by kernel_rfl)
theorem gPow : Tryz.prog.globalNamed "internal/strconv.uint64pow10" = some 1 := by kernel_rfl
theorem tPow : (Tryz.prog.globals[1]?).map (·.type) = some 206 := by kernel_rfl
theorem dPow : (Rows.laid_internal_strconv_uint64pow10 : DataW Unit) = Lib.tabData .u64 Lib.pow10Tab := rfl
theorem of_laid {W : World} (h : laidMetH Tryz.prog laid W) : LaidW W := by
 rw [MakeChecks.laidMetH_plain _ _ _ (by kernel_rfl)] at h
 obtain ⟨_, ⟨_, _, _, _, _, _, _, _, _, _, ⟨_, _, _, _, _, _, _, _, _, _, ⟨g', t', cs, fuel, p, q, hg', ht', hvar, hd, _⟩, _⟩, _⟩, _⟩ := h
 obtain rfl := Option.some.inj (gPow.symm.trans hg')
 obtain rfl := Option.some.inj (tPow.symm.trans ht')
 unfold LaidW Lib.TabIs
 rw [hvar, ← Lib.cells_of_tab Tryz.underlying206 Tryz.underlying182 (by kernel_rfl) (by kernel_rfl) (dPow ▸ hd)]
end Go.Proofs.YthnfajboebaajaaGreatDoor.Rb
