import Derived.Test.YtinpcbjjnlpblaaGreatDoorAG1
import Derived.Test.YtinpcbjjnlpblaaGreatDoorAD
import Derived.Test.YtinpcbjjnlpblaaGreatDoorAG10
import Derived.Test.YtinpcbjjnlpblaaGreatDoorAG9
import Derived.Test.YtinpcbjjnlpblaaGreatDoorAG8
import Derived.Test.YtinpcbjjnlpblaaGreatDoorAG7
import Derived.Test.YtinpcbjjnlpblaaGreatDoorAG2
import Derived.Test.YtinpcbjjnlpblaaGreatDoorRows
import Derived.ProofKit
import Derived.OpenShut
import Derived.Lay
import Derived.LaidOnce
import Derived.SevenTiedAt
import Derived.Test.YtinpcbjjnlpblaaGreatDoorProg
import Derived.ChangeMaps5
import Derived.WideShapes
import Derived.ChangeReads
import Derived.Lib.SmallJoins
set_option maxHeartbeats 8000000
set_option maxRecDepth 100000
set_option linter.unusedVariables false
namespace Go.Proofs.YtinpcbjjnlpblaaGreatDoor.PA
set_option linter.unusedVariables false
open Go.RowKit Go.Proofs.WWords Go.Proofs.WLast Go.Proofs.WMore
attribute [local go_sem] max2_int min2_int max_two min_two max_three min_three max_four min_four
set_option linter.unusedSimpArgs false
theorem rFboth.calls (k : Nat) (a0 : ByteArray) (a1 : ByteArray) (r : Int) (w : World) (h : rFboth.f k a0 a1 = some r) :
  Calls Tryz.prog 29 #[.string a0, .string a1] w fun e w' => e = .returned (.int .i64 r) ∧ Below w.heap.size w w' := by
 have HB := Z0.mk (Below.refl w.heap.size w)
 have H := h
 clear h
 unfold rFboth.f at H
 obtain ⟨t755, A3, H⟩ := bnd H
 rcases je H with ⟨-, c4b0, c4b1, H⟩ | ⟨c4, c4b0, c4b1, H⟩
 ·obtain ⟨t756, A5, H⟩ := bnd H
  obtain rfl := Option.some.inj H
  go_enter Tryz.func29, Tryz.ntmps29
  go_wp2_with (first | ((with_reducible refine gc_ 14 rfl ?_); refine goB (some 7) Tryz.func14 #[.string a0] bq (rFCheck.calls k a0 t755 _ A3.out) ?_; clear HB; intro w6 HB) | ((with_reducible refine gc_ 14 rfl ?_); refine goB (some 12) Tryz.func14 #[.string a1] bq (rFCheck.calls k a1 t756 _ A5.out) ?_; clear HB; intro w7 HB))
  go_ret
  exact finE
 obtain rfl := Option.some.inj H
 go_enter Tryz.func29, Tryz.ntmps29
 go_wp2_with (first | ((with_reducible refine gc_ 14 rfl ?_); refine goB (some 7) Tryz.func14 #[.string a0] bq (rFCheck.calls k a0 t755 _ A3.out) ?_; clear HB; intro w8 HB))
 go_ret
 exact finE
theorem rFlarge.calls (a0 : ByteArray) (r : Bool) (w : World) (h : rFlarge.f a0 = some r) :
  Calls Tryz.prog 33 #[.string a0] w fun e w' => e = .returned (.bool r) ∧ Drawn0 w w' := by
 have H := h
 clear h
 unfold rFlarge.f at H
 obtain ⟨t757, A2, H⟩ := bnd H
 obtain rfl := Option.some.inj H
 go_enter Tryz.func33, Tryz.ntmps33
 go_wp2_with (first | ((with_reducible refine gc_ 72 rfl ?_); refine goD (some 4) Tryz.func72 #[.string a0] (rEDigits.calls a0 t757 _ A2.out) ?_; intro nd))
 go_ret
 exact finD
theorem rFMul.calls (k : Nat) (a0 : ByteArray) (a1 : ByteArray) (r1 : ByteArray) (r2 : Int) (w : World) (h : rFMul.f k a0 a1 = some (r1, r2)) :
  Calls Tryz.prog 7 #[.string a0, .string a1] w fun e w' => e = .returned (.tuple #[.string r1, .int .i64 r2]) ∧ Below w.heap.size w w' := by
 have HB := Z0.mk (Below.refl w.heap.size w)
 have H := h
 clear h
 unfold rFMul.f at H
 obtain ⟨t758, A3, H⟩ := bnd H
 rcases je H with ⟨-, c4b0, c4b1, H⟩ | ⟨c4, c4b0, c4b1, H⟩
 ·obtain ⟨t759, A5, H⟩ := bnd H
  obtain ⟨t760, A6, H⟩ := bnd H
  obtain ⟨t761, A7, H⟩ := bnd H
  obtain ⟨t762, A8, H⟩ := bnd H
  obtain ⟨t763, A9, H⟩ := bnd H
  obtain ⟨t764, A10, H⟩ := bnd H
  obtain ⟨t765, A11, H⟩ := bnd H
  by_cases c12 : t765 = true
  ·subst c12
   have H1 : (some ((⟨#[]⟩ : ByteArray), 10)) = some (r1, r2) := by rw [if_pos rfl] at H; exact H
   clear H
   have H := H1
   clear H1
   simp only [Option.some.injEq, Prod.mk.injEq] at H
   obtain ⟨rfl, rfl⟩ := H
   go_enter Tryz.func7, Tryz.ntmps7
   go_wp2_with (first | ((with_reducible refine gc_ 29 rfl ?_); refine goB (some 11) Tryz.func29 #[.string a0, .string a1] bq (rFboth.calls k a0 a1 t758 _ A3.out) ?_; clear HB; intro w13 HB) | ((with_reducible refine gc_ 31 rfl ?_); refine goD (some 16) Tryz.func31 #[.string a0] (rFTop.calls k a0 t759 _ A5.out) ?_; intro nd) | ((with_reducible refine gc_ 31 rfl ?_); refine goD (some 18) Tryz.func31 #[.string a1] (rFTop.calls k a1 t760 _ A6.out) ?_; intro nd) | ((with_reducible refine gc_ 30 rfl ?_); refine goB (some 19) Tryz.func30 #[.string t759, .string t760] bq (rEProduct.calls k t759 t760 t761 _ A7.out) ?_; clear HB; intro w14 HB) | ((with_reducible refine gc_ 32 rfl ?_); refine goD (some 21) Tryz.func32 #[.string a0] (rFBottom.calls k a0 t762 _ A8.out) ?_; intro nd) | ((with_reducible refine gc_ 32 rfl ?_); refine goD (some 23) Tryz.func32 #[.string a1] (rFBottom.calls k a1 t763 _ A9.out) ?_; intro nd) | ((with_reducible refine gc_ 30 rfl ?_); refine goB (some 24) Tryz.func30 #[.string t762, .string t763] bq (rEProduct.calls k t762 t763 t764 _ A10.out) ?_; clear HB; intro w15 HB) | ((with_reducible refine gc_ 33 rfl ?_); refine goD (some 26) Tryz.func33 #[.string t761] (rFlarge.calls t761 true _ A11.out) ?_; intro nd))
   go_ret2
   exact finE
  replace c12 := Bool.eq_false_iff.mpr c12
  subst c12
  have H1 : ((rFlarge.f t764).bind fun t766 => (if t766 = true then (some ((⟨#[]⟩ : ByteArray), 10)) else ((rFFrac.f k t761 t764).bind fun t767 => (some (t767, 0))))) = some (r1, r2) := by rw [if_neg (show ¬ (false = true) by decide)] at H; exact H
  clear H
  have H := H1
  clear H1
  obtain ⟨t766, A16, H⟩ := bnd H
  by_cases c17 : t766 = true
  ·subst c17
   have H1 : (some ((⟨#[]⟩ : ByteArray), 10)) = some (r1, r2) := by rw [if_pos rfl] at H; exact H
   clear H
   have H := H1
   clear H1
   simp only [Option.some.injEq, Prod.mk.injEq] at H
   obtain ⟨rfl, rfl⟩ := H
   go_enter Tryz.func7, Tryz.ntmps7
   go_wp2_with (first | ((with_reducible refine gc_ 29 rfl ?_); refine goB (some 11) Tryz.func29 #[.string a0, .string a1] bq (rFboth.calls k a0 a1 t758 _ A3.out) ?_; clear HB; intro w18 HB) | ((with_reducible refine gc_ 31 rfl ?_); refine goD (some 16) Tryz.func31 #[.string a0] (rFTop.calls k a0 t759 _ A5.out) ?_; intro nd) | ((with_reducible refine gc_ 31 rfl ?_); refine goD (some 18) Tryz.func31 #[.string a1] (rFTop.calls k a1 t760 _ A6.out) ?_; intro nd) | ((with_reducible refine gc_ 30 rfl ?_); refine goB (some 19) Tryz.func30 #[.string t759, .string t760] bq (rEProduct.calls k t759 t760 t761 _ A7.out) ?_; clear HB; intro w19 HB) | ((with_reducible refine gc_ 32 rfl ?_); refine goD (some 21) Tryz.func32 #[.string a0] (rFBottom.calls k a0 t762 _ A8.out) ?_; intro nd) | ((with_reducible refine gc_ 32 rfl ?_); refine goD (some 23) Tryz.func32 #[.string a1] (rFBottom.calls k a1 t763 _ A9.out) ?_; intro nd) | ((with_reducible refine gc_ 30 rfl ?_); refine goB (some 24) Tryz.func30 #[.string t762, .string t763] bq (rEProduct.calls k t762 t763 t764 _ A10.out) ?_; clear HB; intro w20 HB) | ((with_reducible refine gc_ 33 rfl ?_); refine goD (some 26) Tryz.func33 #[.string t761] (rFlarge.calls t761 false _ A11.out) ?_; intro nd) | (go_at_call 33; (with_reducible refine (rFlarge.calls t764 true _ A16.out).mono ?_); rintro e w' ⟨rfl, ⟨nd, rfl⟩⟩))
   go_ret2
   exact finE
  replace c17 := Bool.eq_false_iff.mpr c17
  subst c17
  have H1 : ((rFFrac.f k t761 t764).bind fun t767 => (some (t767, 0))) = some (r1, r2) := by rw [if_neg (show ¬ (false = true) by decide)] at H; exact H
  clear H
  have H := H1
  clear H1
  obtain ⟨t767, A21, H⟩ := bnd H
  simp only [Option.some.injEq, Prod.mk.injEq] at H
  obtain ⟨rfl, rfl⟩ := H
  go_enter Tryz.func7, Tryz.ntmps7
  go_wp2_with (first | ((with_reducible refine gc_ 29 rfl ?_); refine goB (some 11) Tryz.func29 #[.string a0, .string a1] bq (rFboth.calls k a0 a1 t758 _ A3.out) ?_; clear HB; intro w22 HB) | ((with_reducible refine gc_ 31 rfl ?_); refine goD (some 16) Tryz.func31 #[.string a0] (rFTop.calls k a0 t759 _ A5.out) ?_; intro nd) | ((with_reducible refine gc_ 31 rfl ?_); refine goD (some 18) Tryz.func31 #[.string a1] (rFTop.calls k a1 t760 _ A6.out) ?_; intro nd) | ((with_reducible refine gc_ 30 rfl ?_); refine goB (some 19) Tryz.func30 #[.string t759, .string t760] bq (rEProduct.calls k t759 t760 t761 _ A7.out) ?_; clear HB; intro w23 HB) | ((with_reducible refine gc_ 32 rfl ?_); refine goD (some 21) Tryz.func32 #[.string a0] (rFBottom.calls k a0 t762 _ A8.out) ?_; intro nd) | ((with_reducible refine gc_ 32 rfl ?_); refine goD (some 23) Tryz.func32 #[.string a1] (rFBottom.calls k a1 t763 _ A9.out) ?_; intro nd) | ((with_reducible refine gc_ 30 rfl ?_); refine goB (some 24) Tryz.func30 #[.string t762, .string t763] bq (rEProduct.calls k t762 t763 t764 _ A10.out) ?_; clear HB; intro w24 HB) | ((with_reducible refine gc_ 33 rfl ?_); refine goD (some 26) Tryz.func33 #[.string t761] (rFlarge.calls t761 false _ A11.out) ?_; intro nd) | (go_at_call 33; (with_reducible refine (rFlarge.calls t764 false _ A16.out).mono ?_); rintro e w' ⟨rfl, ⟨nd, rfl⟩⟩) | ((with_reducible refine gc_ 34 rfl ?_); refine goB (some 33) Tryz.func34 #[.string t761, .string t764] bq (rFFrac.calls k t761 t764 t767 _ A21.out) ?_; clear HB; intro w25 HB))
  go_ret2
  exact finE
 simp only [Option.some.injEq, Prod.mk.injEq] at H
 obtain ⟨rfl, rfl⟩ := H
 go_enter Tryz.func7, Tryz.ntmps7
 go_wp2_with (first | ((with_reducible refine gc_ 29 rfl ?_); refine goB (some 11) Tryz.func29 #[.string a0, .string a1] bq (rFboth.calls k a0 a1 t758 _ A3.out) ?_; clear HB; intro w26 HB))
 go_ret2
 exact finE
theorem rFsum.calls (k : Nat) (a0 : ByteArray) (a1 : ByteArray) (a2 : Bool) (r1 : ByteArray) (r2 : Int) (w : World) (h : rFsum.f k a0 a1 a2 = some (r1, r2)) :
  Calls Tryz.prog 35 #[.string a0, .string a1, .bool a2] w fun e w' => e = .returned (.tuple #[.string r1, .int .i64 r2]) ∧ Below w.heap.size w w' := by
 have HB := Z0.mk (Below.refl w.heap.size w)
 have H := h
 clear h
 unfold rFsum.f at H
 obtain ⟨t768, A4, H⟩ := bnd H
 rcases je H with ⟨-, c5b0, c5b1, H⟩ | ⟨c5, c5b0, c5b1, H⟩
 ·obtain ⟨t769, A6, H⟩ := bnd H
  obtain ⟨t770, A7, H⟩ := bnd H
  obtain ⟨t771, A8, H⟩ := bnd H
  obtain ⟨t772, A9, H⟩ := bnd H
  obtain ⟨t773, A10, H⟩ := bnd H
  obtain ⟨t774, A11, H⟩ := bnd H
  obtain ⟨t775, A12, H⟩ := bnd H
  obtain ⟨t776, A13, H⟩ := bnd H
  obtain ⟨t777, A14, H⟩ := bnd H
  obtain ⟨t778, A15, H⟩ := bnd H
  have HC16 := Z0.mk H
  clear H
  go_enter Tryz.func35, Tryz.ntmps35
  go_upto_if 37 with (first | ((with_reducible refine gc_ 29 rfl ?_); refine goB (some 15) Tryz.func29 #[.string a0, .string a1] bq (rFboth.calls k a0 a1 t768 _ A4.out) ?_; clear HB; intro w17 HB) | ((with_reducible refine gc_ 31 rfl ?_); refine goD (some 20) Tryz.func31 #[.string a0] (rFTop.calls k a0 t769 _ A6.out) ?_; intro nd) | ((with_reducible refine gc_ 32 rfl ?_); refine goD (some 22) Tryz.func32 #[.string a1] (rFBottom.calls k a1 t770 _ A7.out) ?_; intro nd) | ((with_reducible refine gc_ 30 rfl ?_); refine goB (some 23) Tryz.func30 #[.string t769, .string t770] bq (rEProduct.calls k t769 t770 t771 _ A8.out) ?_; clear HB; intro w18 HB) | ((with_reducible refine gc_ 31 rfl ?_); refine goD (some 25) Tryz.func31 #[.string a1] (rFTop.calls k a1 t772 _ A9.out) ?_; intro nd) | ((with_reducible refine gc_ 32 rfl ?_); refine goD (some 27) Tryz.func32 #[.string a0] (rFBottom.calls k a0 t773 _ A10.out) ?_; intro nd) | ((with_reducible refine gc_ 30 rfl ?_); refine goB (some 28) Tryz.func30 #[.string t772, .string t773] bq (rEProduct.calls k t772 t773 t774 _ A11.out) ?_; clear HB; intro w19 HB) | ((with_reducible refine gc_ 32 rfl ?_); refine goD (some 30) Tryz.func32 #[.string a0] (rFBottom.calls k a0 t775 _ A12.out) ?_; intro nd) | ((with_reducible refine gc_ 32 rfl ?_); refine goD (some 32) Tryz.func32 #[.string a1] (rFBottom.calls k a1 t776 _ A13.out) ?_; intro nd) | ((with_reducible refine gc_ 30 rfl ?_); refine goB (some 33) Tryz.func30 #[.string t775, .string t776] bq (rEProduct.calls k t775 t776 t777 _ A14.out) ?_; clear HB; intro w20 HB) | ((with_reducible refine gc_ 84 rfl ?_); refine goB (some 36) Tryz.func84 #[.string t771, .string t774] bq (rESum.calls k t771 t774 t778 _ A15.out) ?_; clear HB; intro w21 HB))
  (try simp only [Act.put, List.setIfInBounds_toArray, List.set_cons_zero, List.set_cons_succ])
  go_cut [12] (fun v12 wc => ∃ (kq : Nat) (x12_15 : ByteArray), v12 = .string x12_15 ∧ Z0 (rFsum.j0 kq t771 t774 t777 x12_15 = some (r1, r2)) ∧ Z0 (kq ≤ k) ∧ Z0 (Below w.heap.size w wc))
  case first =>
   have H := HC16.out
   clear HC16
   by_cases c22 : a2 = true
   ·subst c22
    have H1 : ((rEDiff.f k t771 t774).bind fun t779 => (rFsum.j0 k t771 t774 t777 t779)) = some (r1, r2) := by rw [if_pos rfl] at H; exact H
    clear H
    have H := H1
    clear H1
    obtain ⟨t779, A23, H⟩ := bnd H
    have H' := Z0.mk H
    clear H
    go_wp2_with (first | ((with_reducible refine gc_ 85 rfl ?_); refine goB (some 40) Tryz.func85 #[.string t771, .string t774] bq (rEDiff.calls k t771 t774 t779 _ A23.out) ?_; clear HB; intro w24 HB))
    go_meet
    case rel => exact ⟨_, (t779), fs, H', ⟨by first | omega | exact Nat.le_refl _⟩, ⟨bqs⟩⟩
   replace c22 := Bool.eq_false_iff.mpr c22
   subst c22
   have H1 : (rFsum.j0 k t771 t774 t777 t778) = some (r1, r2) := by rw [if_neg (show ¬ (false = true) by decide)] at H; exact H
   clear H
   have H := H1
   clear H1
   have H' := Z0.mk H
   clear H
   go_wp2
   go_meet
   case rel => exact ⟨_, (t778), fs, H', ⟨by first | omega | exact Nat.le_refl _⟩, ⟨bqs⟩⟩
  case rest =>
   clear HC16
   try clear c1
   try clear c2
   try clear p2
   try clear c5
   try clear c5b0
   try clear c5b1
   try clear c7
   try clear c9
   try clear c10
   try clear c13
   try clear c14
   try clear c22
   obtain ⟨kq, x12_15, rfl, HA, HJ15, HB⟩ := hcut
   cases kq with
   | zero => exact absurd HA.out (by simp [rFsum.j0])
   | succ kj15 =>
    have H := HA.out
    clear HA
    simp only [rFsum.j0] at H
    obtain ⟨t780, A25, H⟩ := bnd H
    by_cases c26 : t780 = true
    ·subst c26
     have H1 : (some ((⟨#[]⟩ : ByteArray), 10)) = some (r1, r2) := by rw [if_pos rfl] at H; exact H
     clear H
     have H := H1
     clear H1
     simp only [Option.some.injEq, Prod.mk.injEq] at H
     obtain ⟨rfl, rfl⟩ := H
     go_wp2_with (first | ((with_reducible refine gc_ 33 rfl ?_); refine goD (some 42) Tryz.func33 #[.string t771] (rFlarge.calls t771 true _ A25.out) ?_; intro nd))
     go_ret2
     exact finE
    replace c26 := Bool.eq_false_iff.mpr c26
    subst c26
    have H1 : ((rFlarge.f t774).bind fun t781 => (if t781 = true then (some ((⟨#[]⟩ : ByteArray), 10)) else ((rFlarge.f x12_15).bind fun t782 => (if t782 = true then (some ((⟨#[]⟩ : ByteArray), 10)) else ((rFlarge.f t777).bind fun t783 => (if t783 = true then (some ((⟨#[]⟩ : ByteArray), 10)) else ((rFFrac.f kj15 x12_15 t777).bind fun t784 => (some (t784, 0))))))))) = some (r1, r2) := by rw [if_neg (show ¬ (false = true) by decide)] at H; exact H
    clear H
    have H := H1
    clear H1
    obtain ⟨t781, A27, H⟩ := bnd H
    by_cases c28 : t781 = true
    ·subst c28
     have H1 : (some ((⟨#[]⟩ : ByteArray), 10)) = some (r1, r2) := by rw [if_pos rfl] at H; exact H
     clear H
     have H := H1
     clear H1
     simp only [Option.some.injEq, Prod.mk.injEq] at H
     obtain ⟨rfl, rfl⟩ := H
     go_wp2_with (first | ((with_reducible refine gc_ 33 rfl ?_); refine goD (some 42) Tryz.func33 #[.string t771] (rFlarge.calls t771 false _ A25.out) ?_; intro nd) | (go_at_call 33; (with_reducible refine (rFlarge.calls t774 true _ A27.out).mono ?_); rintro e w' ⟨rfl, ⟨nd, rfl⟩⟩))
     go_ret2
     exact finE
    replace c28 := Bool.eq_false_iff.mpr c28
    subst c28
    have H1 : ((rFlarge.f x12_15).bind fun t782 => (if t782 = true then (some ((⟨#[]⟩ : ByteArray), 10)) else ((rFlarge.f t777).bind fun t783 => (if t783 = true then (some ((⟨#[]⟩ : ByteArray), 10)) else ((rFFrac.f kj15 x12_15 t777).bind fun t784 => (some (t784, 0))))))) = some (r1, r2) := by rw [if_neg (show ¬ (false = true) by decide)] at H; exact H
    clear H
    have H := H1
    clear H1
    obtain ⟨t782, A29, H⟩ := bnd H
    by_cases c30 : t782 = true
    ·subst c30
     have H1 : (some ((⟨#[]⟩ : ByteArray), 10)) = some (r1, r2) := by rw [if_pos rfl] at H; exact H
     clear H
     have H := H1
     clear H1
     simp only [Option.some.injEq, Prod.mk.injEq] at H
     obtain ⟨rfl, rfl⟩ := H
     go_wp2_with (first | ((with_reducible refine gc_ 33 rfl ?_); refine goD (some 42) Tryz.func33 #[.string t771] (rFlarge.calls t771 false _ A25.out) ?_; intro nd) | (go_at_call 33; (with_reducible refine (rFlarge.calls t774 false _ A27.out).mono ?_); rintro e w' ⟨rfl, ⟨nd, rfl⟩⟩) | (go_at_call 33; (with_reducible refine (rFlarge.calls x12_15 true _ A29.out).mono ?_); rintro e w' ⟨rfl, ⟨nd, rfl⟩⟩))
     go_ret2
     exact finE
    replace c30 := Bool.eq_false_iff.mpr c30
    subst c30
    have H1 : ((rFlarge.f t777).bind fun t783 => (if t783 = true then (some ((⟨#[]⟩ : ByteArray), 10)) else ((rFFrac.f kj15 x12_15 t777).bind fun t784 => (some (t784, 0))))) = some (r1, r2) := by rw [if_neg (show ¬ (false = true) by decide)] at H; exact H
    clear H
    have H := H1
    clear H1
    obtain ⟨t783, A31, H⟩ := bnd H
    by_cases c32 : t783 = true
    ·subst c32
     have H1 : (some ((⟨#[]⟩ : ByteArray), 10)) = some (r1, r2) := by rw [if_pos rfl] at H; exact H
     clear H
     have H := H1
     clear H1
     simp only [Option.some.injEq, Prod.mk.injEq] at H
     obtain ⟨rfl, rfl⟩ := H
     go_wp2_with (first | ((with_reducible refine gc_ 33 rfl ?_); refine goD (some 42) Tryz.func33 #[.string t771] (rFlarge.calls t771 false _ A25.out) ?_; intro nd) | (go_at_call 33; (with_reducible refine (rFlarge.calls t774 false _ A27.out).mono ?_); rintro e w' ⟨rfl, ⟨nd, rfl⟩⟩) | (go_at_call 33; (with_reducible refine (rFlarge.calls x12_15 false _ A29.out).mono ?_); rintro e w' ⟨rfl, ⟨nd, rfl⟩⟩) | (go_at_call 33; (with_reducible refine (rFlarge.calls t777 true _ A31.out).mono ?_); rintro e w' ⟨rfl, ⟨nd, rfl⟩⟩))
     go_ret2
     exact finE
    replace c32 := Bool.eq_false_iff.mpr c32
    subst c32
    have H1 : ((rFFrac.f kj15 x12_15 t777).bind fun t784 => (some (t784, 0))) = some (r1, r2) := by rw [if_neg (show ¬ (false = true) by decide)] at H; exact H
    clear H
    have H := H1
    clear H1
    obtain ⟨t784, A33, H⟩ := bnd H
    simp only [Option.some.injEq, Prod.mk.injEq] at H
    obtain ⟨rfl, rfl⟩ := H
    go_wp2_with (first | ((with_reducible refine gc_ 33 rfl ?_); refine goD (some 42) Tryz.func33 #[.string t771] (rFlarge.calls t771 false _ A25.out) ?_; intro nd) | (go_at_call 33; (with_reducible refine (rFlarge.calls t774 false _ A27.out).mono ?_); rintro e w' ⟨rfl, ⟨nd, rfl⟩⟩) | (go_at_call 33; (with_reducible refine (rFlarge.calls x12_15 false _ A29.out).mono ?_); rintro e w' ⟨rfl, ⟨nd, rfl⟩⟩) | (go_at_call 33; (with_reducible refine (rFlarge.calls t777 false _ A31.out).mono ?_); rintro e w' ⟨rfl, ⟨nd, rfl⟩⟩) | ((with_reducible refine gc_ 34 rfl ?_); refine goB (some 57) Tryz.func34 #[.string x12_15, .string t777] bq (rFFrac.calls kj15 x12_15 t777 t784 _ A33.out) ?_; clear HB; intro w34 HB))
    go_ret2
    exact finE
 simp only [Option.some.injEq, Prod.mk.injEq] at H
 obtain ⟨rfl, rfl⟩ := H
 go_enter Tryz.func35, Tryz.ntmps35
 go_wp2_with (first | ((with_reducible refine gc_ 29 rfl ?_); refine goB (some 15) Tryz.func29 #[.string a0, .string a1] bq (rFboth.calls k a0 a1 t768 _ A4.out) ?_; clear HB; intro w35 HB))
 go_ret2
 exact finE
theorem rFAdd.calls (k : Nat) (a0 : ByteArray) (a1 : ByteArray) (r1 : ByteArray) (r2 : Int) (w : World) (h : rFAdd.f k a0 a1 = some (r1, r2)) :
  Calls Tryz.prog 9 #[.string a0, .string a1] w fun e w' => e = .returned (.tuple #[.string r1, .int .i64 r2]) ∧ Below w.heap.size w w' := by
 have HB := Z0.mk (Below.refl w.heap.size w)
 have H := h
 clear h
 unfold rFAdd.f at H
 obtain ⟨⟨t785, t786⟩, A3, H⟩ := bnd H
 try dsimp only at H
 simp only [Option.some.injEq, Prod.mk.injEq] at H
 obtain ⟨rfl, rfl⟩ := H
 go_enter Tryz.func9, Tryz.ntmps9
 go_wp2_with (first | ((with_reducible refine gc_ 35 rfl ?_); refine goB (some 8) Tryz.func35 #[.string a0, .string a1, .bool false] bq (rFsum.calls k a0 a1 false t785 t786 _ A3.out) ?_; clear HB; intro w4 HB))
 go_ret2
 exact finE
theorem rFCompare.calls (k : Nat) (a0 : ByteArray) (a1 : ByteArray) (r1 : Int) (r2 : Int) (w : World) (h : rFCompare.f k a0 a1 = some (r1, r2)) :
  Calls Tryz.prog 11 #[.string a0, .string a1] w fun e w' => e = .returned (.tuple #[.int .i64 r1, .int .i64 r2]) ∧ Below w.heap.size w w' := by
 have HB := Z0.mk (Below.refl w.heap.size w)
 have H := h
 clear h
 unfold rFCompare.f at H
 obtain ⟨t787, A3, H⟩ := bnd H
 rcases je H with ⟨-, c4b0, c4b1, H⟩ | ⟨c4, c4b0, c4b1, H⟩
 ·obtain ⟨t788, A5, H⟩ := bnd H
  obtain ⟨t789, A6, H⟩ := bnd H
  obtain ⟨t790, A7, H⟩ := bnd H
  obtain ⟨t791, A8, H⟩ := bnd H
  obtain ⟨t792, A9, H⟩ := bnd H
  obtain ⟨t793, A10, H⟩ := bnd H
  obtain ⟨t794, A11, H⟩ := bnd H
  by_cases c12 : t794 = true
  ·subst c12
   have H1 : (some (0, 10)) = some (r1, r2) := by rw [if_pos rfl] at H; exact H
   clear H
   have H := H1
   clear H1
   simp only [Option.some.injEq, Prod.mk.injEq] at H
   obtain ⟨rfl, rfl⟩ := H
   go_enter Tryz.func11, Tryz.ntmps11
   go_wp2_with (first | ((with_reducible refine gc_ 29 rfl ?_); refine goB (some 11) Tryz.func29 #[.string a0, .string a1] bq (rFboth.calls k a0 a1 t787 _ A3.out) ?_; clear HB; intro w13 HB) | ((with_reducible refine gc_ 31 rfl ?_); refine goD (some 16) Tryz.func31 #[.string a0] (rFTop.calls k a0 t788 _ A5.out) ?_; intro nd) | ((with_reducible refine gc_ 32 rfl ?_); refine goD (some 18) Tryz.func32 #[.string a1] (rFBottom.calls k a1 t789 _ A6.out) ?_; intro nd) | ((with_reducible refine gc_ 30 rfl ?_); refine goB (some 19) Tryz.func30 #[.string t788, .string t789] bq (rEProduct.calls k t788 t789 t790 _ A7.out) ?_; clear HB; intro w14 HB) | ((with_reducible refine gc_ 31 rfl ?_); refine goD (some 21) Tryz.func31 #[.string a1] (rFTop.calls k a1 t791 _ A8.out) ?_; intro nd) | ((with_reducible refine gc_ 32 rfl ?_); refine goD (some 23) Tryz.func32 #[.string a0] (rFBottom.calls k a0 t792 _ A9.out) ?_; intro nd) | ((with_reducible refine gc_ 30 rfl ?_); refine goB (some 24) Tryz.func30 #[.string t791, .string t792] bq (rEProduct.calls k t791 t792 t793 _ A10.out) ?_; clear HB; intro w15 HB) | ((with_reducible refine gc_ 33 rfl ?_); refine goD (some 26) Tryz.func33 #[.string t790] (rFlarge.calls t790 true _ A11.out) ?_; intro nd))
   go_ret2
   exact finE
  replace c12 := Bool.eq_false_iff.mpr c12
  subst c12
  have H1 : ((rFlarge.f t793).bind fun t795 => (if t795 = true then (some (0, 10)) else ((rEOrder.f k t790 t793).bind fun t796 => (some (t796, 0))))) = some (r1, r2) := by rw [if_neg (show ¬ (false = true) by decide)] at H; exact H
  clear H
  have H := H1
  clear H1
  obtain ⟨t795, A16, H⟩ := bnd H
  by_cases c17 : t795 = true
  ·subst c17
   have H1 : (some (0, 10)) = some (r1, r2) := by rw [if_pos rfl] at H; exact H
   clear H
   have H := H1
   clear H1
   simp only [Option.some.injEq, Prod.mk.injEq] at H
   obtain ⟨rfl, rfl⟩ := H
   go_enter Tryz.func11, Tryz.ntmps11
   go_wp2_with (first | ((with_reducible refine gc_ 29 rfl ?_); refine goB (some 11) Tryz.func29 #[.string a0, .string a1] bq (rFboth.calls k a0 a1 t787 _ A3.out) ?_; clear HB; intro w18 HB) | ((with_reducible refine gc_ 31 rfl ?_); refine goD (some 16) Tryz.func31 #[.string a0] (rFTop.calls k a0 t788 _ A5.out) ?_; intro nd) | ((with_reducible refine gc_ 32 rfl ?_); refine goD (some 18) Tryz.func32 #[.string a1] (rFBottom.calls k a1 t789 _ A6.out) ?_; intro nd) | ((with_reducible refine gc_ 30 rfl ?_); refine goB (some 19) Tryz.func30 #[.string t788, .string t789] bq (rEProduct.calls k t788 t789 t790 _ A7.out) ?_; clear HB; intro w19 HB) | ((with_reducible refine gc_ 31 rfl ?_); refine goD (some 21) Tryz.func31 #[.string a1] (rFTop.calls k a1 t791 _ A8.out) ?_; intro nd) | ((with_reducible refine gc_ 32 rfl ?_); refine goD (some 23) Tryz.func32 #[.string a0] (rFBottom.calls k a0 t792 _ A9.out) ?_; intro nd) | ((with_reducible refine gc_ 30 rfl ?_); refine goB (some 24) Tryz.func30 #[.string t791, .string t792] bq (rEProduct.calls k t791 t792 t793 _ A10.out) ?_; clear HB; intro w20 HB) | ((with_reducible refine gc_ 33 rfl ?_); refine goD (some 26) Tryz.func33 #[.string t790] (rFlarge.calls t790 false _ A11.out) ?_; intro nd) | (go_at_call 33; (with_reducible refine (rFlarge.calls t793 true _ A16.out).mono ?_); rintro e w' ⟨rfl, ⟨nd, rfl⟩⟩))
   go_ret2
   exact finE
  replace c17 := Bool.eq_false_iff.mpr c17
  subst c17
  have H1 : ((rEOrder.f k t790 t793).bind fun t796 => (some (t796, 0))) = some (r1, r2) := by rw [if_neg (show ¬ (false = true) by decide)] at H; exact H
  clear H
  have H := H1
  clear H1
  obtain ⟨t796, A21, H⟩ := bnd H
  simp only [Option.some.injEq, Prod.mk.injEq] at H
  obtain ⟨rfl, rfl⟩ := H
  go_enter Tryz.func11, Tryz.ntmps11
  go_wp2_with (first | ((with_reducible refine gc_ 29 rfl ?_); refine goB (some 11) Tryz.func29 #[.string a0, .string a1] bq (rFboth.calls k a0 a1 t787 _ A3.out) ?_; clear HB; intro w22 HB) | ((with_reducible refine gc_ 31 rfl ?_); refine goD (some 16) Tryz.func31 #[.string a0] (rFTop.calls k a0 t788 _ A5.out) ?_; intro nd) | ((with_reducible refine gc_ 32 rfl ?_); refine goD (some 18) Tryz.func32 #[.string a1] (rFBottom.calls k a1 t789 _ A6.out) ?_; intro nd) | ((with_reducible refine gc_ 30 rfl ?_); refine goB (some 19) Tryz.func30 #[.string t788, .string t789] bq (rEProduct.calls k t788 t789 t790 _ A7.out) ?_; clear HB; intro w23 HB) | ((with_reducible refine gc_ 31 rfl ?_); refine goD (some 21) Tryz.func31 #[.string a1] (rFTop.calls k a1 t791 _ A8.out) ?_; intro nd) | ((with_reducible refine gc_ 32 rfl ?_); refine goD (some 23) Tryz.func32 #[.string a0] (rFBottom.calls k a0 t792 _ A9.out) ?_; intro nd) | ((with_reducible refine gc_ 30 rfl ?_); refine goB (some 24) Tryz.func30 #[.string t791, .string t792] bq (rEProduct.calls k t791 t792 t793 _ A10.out) ?_; clear HB; intro w24 HB) | ((with_reducible refine gc_ 33 rfl ?_); refine goD (some 26) Tryz.func33 #[.string t790] (rFlarge.calls t790 false _ A11.out) ?_; intro nd) | (go_at_call 33; (with_reducible refine (rFlarge.calls t793 false _ A16.out).mono ?_); rintro e w' ⟨rfl, ⟨nd, rfl⟩⟩) | ((with_reducible refine gc_ 38 rfl ?_); refine goB (some 33) Tryz.func38 #[.string t790, .string t793] bq (rEOrder.calls k t790 t793 t796 _ A21.out) ?_; clear HB; intro w25 HB))
  go_ret2
  exact finE
 simp only [Option.some.injEq, Prod.mk.injEq] at H
 obtain ⟨rfl, rfl⟩ := H
 go_enter Tryz.func11, Tryz.ntmps11
 go_wp2_with (first | ((with_reducible refine gc_ 29 rfl ?_); refine goB (some 11) Tryz.func29 #[.string a0, .string a1] bq (rFboth.calls k a0 a1 t787 _ A3.out) ?_; clear HB; intro w26 HB))
 go_ret2
 exact finE
theorem rAFloor.calls (k : Nat) (a0 : ByteArray) (r1 : ByteArray) (r2 : Int) (w : World) (hL : LaidW w) (h : rAFloor.f k a0 = some (r1, r2)) :
  Calls Tryz.prog 42 #[.string a0] w fun e w' => e = .returned (.tuple #[.string r1, .int .i64 r2]) ∧ Below w.heap.size w w' := by
 have HB := Z0.mk (Below.refl w.heap.size w)
 have H := h
 clear h
 unfold rAFloor.f at H
 obtain ⟨t286, A2, H⟩ := bnd H
 rcases je H with ⟨-, c3b0, c3b1, H⟩ | ⟨c3, c3b0, c3b1, H⟩
 ·obtain ⟨⟨t287, t288⟩, A4, H⟩ := bnd H
  try dsimp only at H
  obtain ⟨⟨t289, t290⟩, A5, H⟩ := bnd H
  try dsimp only at H
  simp only [Option.some.injEq, Prod.mk.injEq] at H
  obtain ⟨rfl, rfl⟩ := H
  go_enter Tryz.func42, Tryz.ntmps42
  go_wp2_with (first | ((with_reducible refine gc_ 13 rfl ?_); refine goB (some 8) Tryz.func13 #[.string a0] bq (rACheck.calls k a0 t286 _ (hL.below bq) A2.out) ?_; clear HB; intro w6 HB) | ((with_reducible refine gc_ 45 rfl ?_); refine goB (some 14) Tryz.func45 #[.string a0] bq (rAsplit.calls a0 t287 t288 _ A4.out) ?_; clear HB; intro w7 HB) | ((with_reducible refine gc_ 24 rfl ?_); refine goB (some 19) Tryz.func24 #[.string t287, .string t288] bq (bIQuo.calls k t287 t288 t289 t290 _ (hL.below bq) A5.out) ?_; clear HB; intro w8 HB))
  go_ret2
  exact finE
 simp only [Option.some.injEq, Prod.mk.injEq] at H
 obtain ⟨rfl, rfl⟩ := H
 go_enter Tryz.func42, Tryz.ntmps42
 go_wp2_with (first | ((with_reducible refine gc_ 13 rfl ?_); refine goB (some 8) Tryz.func13 #[.string a0] bq (rACheck.calls k a0 t286 _ (hL.below bq) A2.out) ?_; clear HB; intro w9 HB))
 go_ret2
 exact finE
theorem rANeg.calls (k : Nat) (a0 : ByteArray) (r1 : ByteArray) (r2 : Int) (w : World) (hL : LaidW w) (h : rANeg.f k a0 = some (r1, r2)) :
  Calls Tryz.prog 88 #[.string a0] w fun e w' => e = .returned (.tuple #[.string r1, .int .i64 r2]) ∧ Below w.heap.size w w' := by
 have HB := Z0.mk (Below.refl w.heap.size w)
 have H := h
 clear h
 unfold rANeg.f at H
 obtain ⟨t291, A2, H⟩ := bnd H
 rcases je H with ⟨-, c3b0, c3b1, H⟩ | ⟨c3, c3b0, c3b1, H⟩
 ·rcases je H with ⟨-, c4b0, c4b1, H⟩ | ⟨c4, c4b0, c4b1, H⟩
  ·simp only [Option.some.injEq, Prod.mk.injEq] at H
   obtain ⟨rfl, rfl⟩ := H
   go_enter Tryz.func88, Tryz.ntmps88
   go_wp2_with (first | ((with_reducible refine gc_ 13 rfl ?_); refine goB (some 6) Tryz.func13 #[.string a0] bq (rACheck.calls k a0 t291 _ (hL.below bq) A2.out) ?_; clear HB; intro w5 HB))
   go_ret2
   exact finE
  obtain ⟨c6, c6b0, H⟩ := gd H
  have c6b1 : decide (0 < a0.size) = true := decide_eq_true (by omega)
  clear c6
  rcases je H with ⟨-, c8b0, c8b1, H⟩ | ⟨c8, c8b0, c8b1, H⟩
  ·obtain ⟨-, c9b0, c9b1, H⟩ := gt H
   simp only [Option.some.injEq, Prod.mk.injEq] at H
   obtain ⟨rfl, rfl⟩ := H
   go_enter Tryz.func88, Tryz.ntmps88
   go_wp2_with (first | ((with_reducible refine gc_ 13 rfl ?_); refine gL 6 Tryz.func13 (rACheck.calls k a0 t291 _ ?side1 A2.out) ?_; (case side1 => exact LaidW.below hL bqs); rintro _ w10 ⟨rfl, hb⟩; refine ⟨_, rfl, ?_⟩; replace HB := fB HB hb; clear hb; have p7 : 0 ≤ (0 : Int) := (by omega); have q7 : 0 < a0.size := (by have : (0 : Int) < (a0.size : Int) := od; omega); have hx7 : ∀ h : 0 < a0.size, ((a0[0]'h).toNat : Int) = bt a0 0 := bt_at a0 0; clear p7; have qi7 : (0 < (a0.size : Int)) = True := eq_true od; replace q7 := eq_true q7))
   go_ret2
   exact finE
  obtain ⟨c11, c11b0, c11b1, H⟩ := gt H
  try have c11b2 : (9223372036854775807 < 1 + a0.size) = False := eq_false (Nat.not_lt.2 c11)
  simp only [Option.some.injEq, Prod.mk.injEq] at H
  obtain ⟨rfl, rfl⟩ := H
  go_enter Tryz.func88, Tryz.ntmps88
  go_wp2_with (first | ((with_reducible refine gc_ 13 rfl ?_); refine gL 6 Tryz.func13 (rACheck.calls k a0 t291 _ ?side1 A2.out) ?_; (case side1 => exact LaidW.below hL bqs); rintro _ w12 ⟨rfl, hb⟩; refine ⟨_, rfl, ?_⟩; replace HB := fB HB hb; clear hb; have p7 : 0 ≤ (0 : Int) := (by omega); have q7 : 0 < a0.size := (by have : (0 : Int) < (a0.size : Int) := od; omega); have hx7 : ∀ h : 0 < a0.size, ((a0[0]'h).toNat : Int) = bt a0 0 := bt_at a0 0; clear p7; have qi7 : (0 < (a0.size : Int)) = True := eq_true od; replace q7 := eq_true q7))
  go_ret2
  exact finE
 simp only [Option.some.injEq, Prod.mk.injEq] at H
 obtain ⟨rfl, rfl⟩ := H
 go_enter Tryz.func88, Tryz.ntmps88
 go_wp2_with (first | ((with_reducible refine gc_ 13 rfl ?_); refine goB (some 6) Tryz.func13 #[.string a0] bq (rACheck.calls k a0 t291 _ (hL.below bq) A2.out) ?_; clear HB; intro w13 HB))
 go_ret2
 exact finE
theorem rACeil.calls (k : Nat) (a0 : ByteArray) (r1 : ByteArray) (r2 : Int) (w : World) (hL : LaidW w) (h : rACeil.f k a0 = some (r1, r2)) :
  Calls Tryz.prog 43 #[.string a0] w fun e w' => e = .returned (.tuple #[.string r1, .int .i64 r2]) ∧ Below w.heap.size w w' := by
 have HB := Z0.mk (Below.refl w.heap.size w)
 have H := h
 clear h
 unfold rACeil.f at H
 obtain ⟨⟨t323, t324⟩, A2, H⟩ := bnd H
 try dsimp only at H
 rcases je H with ⟨-, c3b0, c3b1, H⟩ | ⟨c3, c3b0, c3b1, H⟩
 ·obtain ⟨⟨t325, t326⟩, A4, H⟩ := bnd H
  try dsimp only at H
  rcases je H with ⟨-, c5b0, c5b1, H⟩ | ⟨c5, c5b0, c5b1, H⟩
  ·obtain ⟨⟨t327, t328⟩, A6, H⟩ := bnd H
   try dsimp only at H
   simp only [Option.some.injEq, Prod.mk.injEq] at H
   obtain ⟨rfl, rfl⟩ := H
   go_enter Tryz.func43, Tryz.ntmps43
   go_wp2_with (first | ((with_reducible refine gc_ 88 rfl ?_); refine goB (some 9) Tryz.func88 #[.string a0] bq (rANeg.calls k a0 t323 t324 _ (hL.below bq) A2.out) ?_; clear HB; intro w7 HB) | ((with_reducible refine gc_ 42 rfl ?_); refine goB (some 17) Tryz.func42 #[.string t323] bq (rAFloor.calls k t323 t325 t326 _ (hL.below bq) A4.out) ?_; clear HB; intro w8 HB) | ((with_reducible refine gc_ 89 rfl ?_); refine goB (some 24) Tryz.func89 #[.string t325] bq (bINeg.calls k t325 t327 t328 _ (hL.below bq) A6.out) ?_; clear HB; intro w9 HB))
   go_ret2
   exact finE
  simp only [Option.some.injEq, Prod.mk.injEq] at H
  obtain ⟨rfl, rfl⟩ := H
  go_enter Tryz.func43, Tryz.ntmps43
  go_wp2_with (first | ((with_reducible refine gc_ 88 rfl ?_); refine goB (some 9) Tryz.func88 #[.string a0] bq (rANeg.calls k a0 t323 t324 _ (hL.below bq) A2.out) ?_; clear HB; intro w10 HB) | ((with_reducible refine gc_ 42 rfl ?_); refine goB (some 17) Tryz.func42 #[.string t323] bq (rAFloor.calls k t323 t325 t326 _ (hL.below bq) A4.out) ?_; clear HB; intro w11 HB))
  go_ret2
  exact finE
 simp only [Option.some.injEq, Prod.mk.injEq] at H
 obtain ⟨rfl, rfl⟩ := H
 go_enter Tryz.func43, Tryz.ntmps43
 go_wp2_with (first | ((with_reducible refine gc_ 88 rfl ?_); refine goB (some 9) Tryz.func88 #[.string a0] bq (rANeg.calls k a0 t323 t324 _ (hL.below bq) A2.out) ?_; clear HB; intro w12 HB))
 go_ret2
 exact finE
theorem rADen.calls (k : Nat) (a0 : ByteArray) (r1 : ByteArray) (r2 : Int) (w : World) (hL : LaidW w) (h : rADen.f k a0 = some (r1, r2)) :
  Calls Tryz.prog 41 #[.string a0] w fun e w' => e = .returned (.tuple #[.string r1, .int .i64 r2]) ∧ Below w.heap.size w w' := by
 have HB := Z0.mk (Below.refl w.heap.size w)
 have H := h
 clear h
 unfold rADen.f at H
 obtain ⟨t226, A2, H⟩ := bnd H
 rcases je H with ⟨-, c3b0, c3b1, H⟩ | ⟨c3, c3b0, c3b1, H⟩
 ·obtain ⟨⟨t227, t228⟩, A4, H⟩ := bnd H
  try dsimp only at H
  simp only [Option.some.injEq, Prod.mk.injEq] at H
  obtain ⟨rfl, rfl⟩ := H
  go_enter Tryz.func41, Tryz.ntmps41
  go_wp2_with (first | ((with_reducible refine gc_ 13 rfl ?_); refine goB (some 8) Tryz.func13 #[.string a0] bq (rACheck.calls k a0 t226 _ (hL.below bq) A2.out) ?_; clear HB; intro w5 HB) | ((with_reducible refine gc_ 45 rfl ?_); refine goB (some 14) Tryz.func45 #[.string a0] bq (rAsplit.calls a0 t227 t228 _ A4.out) ?_; clear HB; intro w6 HB))
  go_ret2
  exact finE
 simp only [Option.some.injEq, Prod.mk.injEq] at H
 obtain ⟨rfl, rfl⟩ := H
 go_enter Tryz.func41, Tryz.ntmps41
 go_wp2_with (first | ((with_reducible refine gc_ 13 rfl ?_); refine goB (some 8) Tryz.func13 #[.string a0] bq (rACheck.calls k a0 t226 _ (hL.below bq) A2.out) ?_; clear HB; intro w7 HB))
 go_ret2
 exact finE
theorem rANum.calls (k : Nat) (a0 : ByteArray) (r1 : ByteArray) (r2 : Int) (w : World) (hL : LaidW w) (h : rANum.f k a0 = some (r1, r2)) :
  Calls Tryz.prog 40 #[.string a0] w fun e w' => e = .returned (.tuple #[.string r1, .int .i64 r2]) ∧ Below w.heap.size w w' := by
 have HB := Z0.mk (Below.refl w.heap.size w)
 have H := h
 clear h
 unfold rANum.f at H
 obtain ⟨t223, A2, H⟩ := bnd H
 rcases je H with ⟨-, c3b0, c3b1, H⟩ | ⟨c3, c3b0, c3b1, H⟩
 ·obtain ⟨⟨t224, t225⟩, A4, H⟩ := bnd H
  try dsimp only at H
  simp only [Option.some.injEq, Prod.mk.injEq] at H
  obtain ⟨rfl, rfl⟩ := H
  go_enter Tryz.func40, Tryz.ntmps40
  go_wp2_with (first | ((with_reducible refine gc_ 13 rfl ?_); refine goB (some 8) Tryz.func13 #[.string a0] bq (rACheck.calls k a0 t223 _ (hL.below bq) A2.out) ?_; clear HB; intro w5 HB) | ((with_reducible refine gc_ 45 rfl ?_); refine goB (some 14) Tryz.func45 #[.string a0] bq (rAsplit.calls a0 t224 t225 _ A4.out) ?_; clear HB; intro w6 HB))
  go_ret2
  exact finE
 simp only [Option.some.injEq, Prod.mk.injEq] at H
 obtain ⟨rfl, rfl⟩ := H
 go_enter Tryz.func40, Tryz.ntmps40
 go_wp2_with (first | ((with_reducible refine gc_ 13 rfl ?_); refine goB (some 8) Tryz.func13 #[.string a0] bq (rACheck.calls k a0 t223 _ (hL.below bq) A2.out) ?_; clear HB; intro w7 HB))
 go_ret2
 exact finE
theorem rAOf.calls (k : Nat) (a0 : ByteArray) (a1 : ByteArray) (r1 : ByteArray) (r2 : Int) (w : World) (hL : LaidW w) (h : rAOf.f k a0 a1 = some (r1, r2)) :
  Calls Tryz.prog 39 #[.string a0, .string a1] w fun e w' => e = .returned (.tuple #[.string r1, .int .i64 r2]) ∧ Below w.heap.size w w' := by
 have HB := Z0.mk (Below.refl w.heap.size w)
 have H := h
 clear h
 unfold rAOf.f at H
 obtain ⟨t362, A3, H⟩ := bnd H
 rcases je H with ⟨-, c4b0, c4b1, H⟩ | ⟨c4, c4b0, c4b1, H⟩
 ·obtain ⟨t363, A5, H⟩ := bnd H
  rcases je H with ⟨-, c6b0, c6b1, H⟩ | ⟨c6, c6b0, c6b1, H⟩
  ·rcases je H with ⟨-, c7b0, c7b1, H⟩ | ⟨c7, c7b0, c7b1, H⟩
   ·simp only [Option.some.injEq, Prod.mk.injEq] at H
    obtain ⟨rfl, rfl⟩ := H
    go_enter Tryz.func39, Tryz.ntmps39
    go_wp2_with (first | ((with_reducible refine gc_ 67 rfl ?_); refine goB (some 9) Tryz.func67 #[.string a0] bq (bICheck.calls a0 t362 _ A3.out) ?_; clear HB; intro w8 HB) | ((with_reducible refine gc_ 67 rfl ?_); refine goB (some 14) Tryz.func67 #[.string a1] bq (bICheck.calls a1 t363 _ A5.out) ?_; clear HB; intro w9 HB))
    go_ret2
    exact finE
   obtain ⟨⟨t364, t365⟩, A10, H⟩ := bnd H
   try dsimp only at H
   simp only [Option.some.injEq, Prod.mk.injEq] at H
   obtain ⟨rfl, rfl⟩ := H
   go_enter Tryz.func39, Tryz.ntmps39
   go_wp2_with (first | ((with_reducible refine gc_ 67 rfl ?_); refine goB (some 9) Tryz.func67 #[.string a0] bq (bICheck.calls a0 t362 _ A3.out) ?_; clear HB; intro w11 HB) | ((with_reducible refine gc_ 67 rfl ?_); refine goB (some 14) Tryz.func67 #[.string a1] bq (bICheck.calls a1 t363 _ A5.out) ?_; clear HB; intro w12 HB) | ((with_reducible refine gc_ 71 rfl ?_); refine goB (some 22) Tryz.func71 #[.string a0, .string a1] bq (rAwhole.calls k a0 a1 t364 t365 _ (hL.below bq) A10.out) ?_; clear HB; intro w13 HB))
   go_ret2
   exact finE
  simp only [Option.some.injEq, Prod.mk.injEq] at H
  obtain ⟨rfl, rfl⟩ := H
  go_enter Tryz.func39, Tryz.ntmps39
  go_wp2_with (first | ((with_reducible refine gc_ 67 rfl ?_); refine goB (some 9) Tryz.func67 #[.string a0] bq (bICheck.calls a0 t362 _ A3.out) ?_; clear HB; intro w14 HB) | ((with_reducible refine gc_ 67 rfl ?_); refine goB (some 14) Tryz.func67 #[.string a1] bq (bICheck.calls a1 t363 _ A5.out) ?_; clear HB; intro w15 HB))
  go_ret2
  exact finE
 simp only [Option.some.injEq, Prod.mk.injEq] at H
 obtain ⟨rfl, rfl⟩ := H
 go_enter Tryz.func39, Tryz.ntmps39
 go_wp2_with (first | ((with_reducible refine gc_ 67 rfl ?_); refine goB (some 9) Tryz.func67 #[.string a0] bq (bICheck.calls a0 t362 _ A3.out) ?_; clear HB; intro w16 HB))
 go_ret2
 exact finE
theorem lWawake.calls (k : Nat)  (r : Bool) (w : World) (hL : LaidW w) (h : lWawake.f k  = some r) :
  Calls Tryz.prog 12 #[] w fun e w' => e = .returned (.bool r) ∧ Below w.heap.size w w' := by
 have HB := Z0.mk (Below.refl w.heap.size w)
 have H := h
 clear h
 unfold lWawake.f at H
 obtain ⟨⟨t415, t416⟩, A1, H⟩ := bnd H
 try dsimp only at H
 obtain ⟨⟨t417, t418⟩, A2, H⟩ := bnd H
 try dsimp only at H
 obtain ⟨⟨t419, t420⟩, A3, H⟩ := bnd H
 try dsimp only at H
 obtain ⟨⟨t421, t422⟩, A4, H⟩ := bnd H
 try dsimp only at H
 obtain ⟨⟨t423, t424⟩, A5, H⟩ := bnd H
 try dsimp only at H
 have HC6 := Z0.mk H
 clear H
 go_enter Tryz.func12, Tryz.ntmps12
 go_upto_region 6 with (first | ((with_reducible refine gc_ 39 rfl ?_); refine goB (some 17) Tryz.func39 #[.string (⟨#[54]⟩ : ByteArray), .string (⟨#[45, 52]⟩ : ByteArray)] bq (rAOf.calls k (⟨#[54]⟩ : ByteArray) (⟨#[45, 52]⟩ : ByteArray) t415 t416 _ (hL.below bq) A1.out) ?_; clear HB; intro w7 HB) | ((with_reducible refine gc_ 40 rfl ?_); refine goB (some 22) Tryz.func40 #[.string t415] bq (rANum.calls k t415 t417 t418 _ (hL.below bq) A2.out) ?_; clear HB; intro w8 HB) | ((with_reducible refine gc_ 41 rfl ?_); refine goB (some 27) Tryz.func41 #[.string t415] bq (rADen.calls k t415 t419 t420 _ (hL.below bq) A3.out) ?_; clear HB; intro w9 HB) | ((with_reducible refine gc_ 42 rfl ?_); refine goB (some 32) Tryz.func42 #[.string t415] bq (rAFloor.calls k t415 t421 t422 _ (hL.below bq) A4.out) ?_; clear HB; intro w10 HB) | ((with_reducible refine gc_ 43 rfl ?_); refine goB (some 37) Tryz.func43 #[.string t415] bq (rACeil.calls k t415 t423 t424 _ (hL.below bq) A5.out) ?_; clear HB; intro w11 HB))
 (try simp only [Act.put, List.setIfInBounds_toArray, List.set_cons_zero, List.set_cons_succ])
 go_cut [69] (fun v69 wc => ∃ (kq : Nat) (x69_5 : Bool), v69 = .bool x69_5 ∧ Z0 (lWawake.j0 kq x69_5 = some r) ∧ Z0 (kq ≤ k) ∧ Z0 (Below w.heap.size w wc))
 case first =>
  have H := HC6.out
  clear HC6
  rcases je H with ⟨-, c12b0, c12b1, H⟩ | ⟨c12, c12b0, c12b1, H⟩
  ·(first | rw [c12b0] | (simp only [i64_w, i32_w]; rw [c12b0]) | skip)
   rcases je H with ⟨-, c13b0, c13b1, H⟩ | ⟨c13, c13b0, c13b1, H⟩
   ·rcases je H with ⟨-, c14b0, c14b1, H⟩ | ⟨c14, c14b0, c14b1, H⟩
    ·rcases je H with ⟨-, c15b0, c15b1, H⟩ | ⟨c15, c15b0, c15b1, H⟩
     ·rcases je H with ⟨-, c16b0, c16b1, H⟩ | ⟨c16, c16b0, c16b1, H⟩
      ·have H' := Z0.mk H
       clear H
       go_wp2
       go_meet
       case rel => exact ⟨_, ((t423.toList != ([45, 49] : List UInt8))), fs, H', ⟨by first | omega | exact Nat.le_refl _⟩, ⟨bqs⟩⟩
      have H' := Z0.mk H
      clear H
      go_wp2
      go_meet
      case rel => exact ⟨_, (true), fs, H', ⟨by first | omega | exact Nat.le_refl _⟩, ⟨bqs⟩⟩
     have H' := Z0.mk H
     clear H
     go_wp2
     go_meet
     case rel => exact ⟨_, (true), fs, H', ⟨by first | omega | exact Nat.le_refl _⟩, ⟨bqs⟩⟩
    have H' := Z0.mk H
    clear H
    go_wp2
    go_meet
    case rel => exact ⟨_, (true), fs, H', ⟨by first | omega | exact Nat.le_refl _⟩, ⟨bqs⟩⟩
   have H' := Z0.mk H
   clear H
   go_wp2
   go_meet
   case rel => exact ⟨_, (true), fs, H', ⟨by first | omega | exact Nat.le_refl _⟩, ⟨bqs⟩⟩
  (first | rw [c12b0] | (simp only [i64_w, i32_w]; rw [c12b0]) | skip)
  have H' := Z0.mk H
  clear H
  go_wp2
  go_meet
  case rel => exact ⟨_, (true), fs, H', ⟨by first | omega | exact Nat.le_refl _⟩, ⟨bqs⟩⟩
 case rest =>
  clear HC6
  try clear c1
  try clear c2
  try clear p2
  try clear c3
  try clear p6
  try clear c12
  try clear c12b0
  try clear c12b1
  try clear c13
  try clear c13b0
  try clear c13b1
  try clear c14
  try clear c14b0
  try clear c14b1
  try clear c15
  try clear c15b0
  try clear c15b1
  try clear c16
  try clear c16b0
  try clear c16b1
  obtain ⟨kq, x69_5, rfl, HA, HJ5, HB⟩ := hcut
  cases kq with
  | zero => exact absurd HA.out (by simp [lWawake.j0])
  | succ kj5 =>
   have H := HA.out
   clear HA
   simp only [lWawake.j0] at H
   by_cases c17 : x69_5 = true
   ·subst c17
    have H1 : (some false) = some r := by rw [if_pos rfl] at H; exact H
    clear H
    have H := H1
    clear H1
    obtain rfl := Option.some.inj H
    go_wp2
    go_ret
    exact finE
   replace c17 := Bool.eq_false_iff.mpr c17
   subst c17
   have H1 : ((rAAdd.f kj5 (⟨#[49, 47, 50]⟩ : ByteArray) (⟨#[49, 47, 51]⟩ : ByteArray)).bind fun bt425 => ((rADiv.f kj5 (⟨#[49, 47, 50]⟩ : ByteArray) (⟨#[45, 51]⟩ : ByteArray)).bind fun bt427 => ((rACompare.f kj5 (⟨#[49, 47, 51]⟩ : ByteArray) (⟨#[50, 47, 53]⟩ : ByteArray)).bind fun bt429 => (if (wrap64 ((wrap64 (bt425.2 + bt427.2)) + bt429.2)) = 0 then (if bt425.1.toList = ([53, 47, 54] : List UInt8) then (if bt427.1.toList = ([45, 49, 47, 54] : List UInt8) then (lWawake.j1 kj5 (bt429.1 != (-1))) else (lWawake.j1 kj5 true)) else (lWawake.j1 kj5 true)) else (lWawake.j1 kj5 true))))) = some r := by rw [if_neg (show ¬ (false = true) by decide)] at H; exact H
   clear H
   have H := H1
   clear H1
   obtain ⟨⟨t425, t426⟩, A18, H⟩ := bnd H
   try dsimp only at H
   obtain ⟨⟨t427, t428⟩, A19, H⟩ := bnd H
   try dsimp only at H
   obtain ⟨⟨t429, t430⟩, A20, H⟩ := bnd H
   try dsimp only at H
   have HC21 := Z0.mk H
   clear H
   go_upto_region 11 with (first | ((with_reducible refine gc_ 8 rfl ?_); refine goB (some 71) Tryz.func8 #[.string (⟨#[49, 47, 50]⟩ : ByteArray), .string (⟨#[49, 47, 51]⟩ : ByteArray)] bq (rAAdd.calls kj5 (⟨#[49, 47, 50]⟩ : ByteArray) (⟨#[49, 47, 51]⟩ : ByteArray) t425 t426 _ (hL.below bq) A18.out) ?_; clear HB; intro w22 HB) | ((with_reducible refine gc_ 44 rfl ?_); refine goB (some 75) Tryz.func44 #[.string (⟨#[49, 47, 50]⟩ : ByteArray), .string (⟨#[45, 51]⟩ : ByteArray)] bq (rADiv.calls kj5 (⟨#[49, 47, 50]⟩ : ByteArray) (⟨#[45, 51]⟩ : ByteArray) t427 t428 _ (hL.below bq) A19.out) ?_; clear HB; intro w23 HB) | ((with_reducible refine gc_ 10 rfl ?_); refine goB (some 79) Tryz.func10 #[.string (⟨#[49, 47, 51]⟩ : ByteArray), .string (⟨#[50, 47, 53]⟩ : ByteArray)] bq (rACompare.calls kj5 (⟨#[49, 47, 51]⟩ : ByteArray) (⟨#[50, 47, 53]⟩ : ByteArray) t429 t430 _ (hL.below bq) A20.out) ?_; clear HB; intro w24 HB))
   (try simp only [Act.put, List.setIfInBounds_toArray, List.set_cons_zero, List.set_cons_succ])
   go_cut [99] (fun v99 wc => ∃ (kq : Nat) (x99_20 : Bool), v99 = .bool x99_20 ∧ Z0 (lWawake.j1 kq x99_20 = some r) ∧ Z0 (kq ≤ kj5) ∧ Z0 (Below w.heap.size w wc))
   case first =>
    have H := HC21.out
    clear HC21
    rcases je H with ⟨-, c25b0, c25b1, H⟩ | ⟨c25, c25b0, c25b1, H⟩
    ·(first | rw [c25b0] | (simp only [i64_w, i32_w]; rw [c25b0]) | skip)
     rcases je H with ⟨-, c26b0, c26b1, H⟩ | ⟨c26, c26b0, c26b1, H⟩
     ·rcases je H with ⟨-, c27b0, c27b1, H⟩ | ⟨c27, c27b0, c27b1, H⟩
      ·have H' := Z0.mk H
       clear H
       go_wp2
       go_meet
       case rel => exact ⟨_, ((t429 != (-1))), fs, H', ⟨by have := HJ5.out; first | omega | exact Nat.le_refl _⟩, ⟨bqs⟩⟩
      have H' := Z0.mk H
      clear H
      go_wp2
      go_meet
      case rel => exact ⟨_, (true), fs, H', ⟨by have := HJ5.out; first | omega | exact Nat.le_refl _⟩, ⟨bqs⟩⟩
     have H' := Z0.mk H
     clear H
     go_wp2
     go_meet
     case rel => exact ⟨_, (true), fs, H', ⟨by have := HJ5.out; first | omega | exact Nat.le_refl _⟩, ⟨bqs⟩⟩
    (first | rw [c25b0] | (simp only [i64_w, i32_w]; rw [c25b0]) | skip)
    have H' := Z0.mk H
    clear H
    go_wp2
    go_meet
    case rel => exact ⟨_, (true), fs, H', ⟨by have := HJ5.out; first | omega | exact Nat.le_refl _⟩, ⟨bqs⟩⟩
   case rest =>
    clear HC21
    try clear c1
    try clear c2
    try clear p2
    try clear c3
    try clear c4
    try clear p6
    try clear c12
    try clear c12b0
    try clear c12b1
    try clear c13
    try clear c13b0
    try clear c13b1
    try clear c14
    try clear c14b0
    try clear c14b1
    try clear c15
    try clear c15b0
    try clear c15b1
    try clear c16
    try clear c16b0
    try clear c16b1
    try clear c17
    try clear c18
    try clear c19
    try clear c21
    try clear c22
    try clear c25
    try clear c25b0
    try clear c25b1
    try clear c26
    try clear c26b0
    try clear c26b1
    try clear c27
    try clear c27b0
    try clear c27b1
    try clear p2
    try clear p6
    obtain ⟨kq, x99_20, rfl, HA, HJ20, HB⟩ := hcut
    cases kq with
    | zero => exact absurd HA.out (by simp [lWawake.j1])
    | succ kj20 =>
     have H := HA.out
     clear HA
     simp only [lWawake.j1] at H
     by_cases c28 : x99_20 = true
     ·subst c28
      have H1 : (some false) = some r := by rw [if_pos rfl] at H; exact H
      clear H
      have H := H1
      clear H1
      obtain rfl := Option.some.inj H
      go_wp2
      go_ret
      exact finE
     replace c28 := Bool.eq_false_iff.mpr c28
     subst c28
     have H1 : ((some (([(⟨#[50, 47, 52]⟩ : ByteArray), (⟨#[51, 47, 49]⟩ : ByteArray), (⟨#[49, 47, 45, 50]⟩ : ByteArray), (⟨#[45, 48]⟩ : ByteArray), (⟨#[49, 47, 48]⟩ : ByteArray), (⟨#[]⟩ : ByteArray)] : List ByteArray) : List ByteArray)).bind fun y431 => (lWawake.l0 kj20 y431 (y431.length : Int) 0)) = some r := by rw [if_neg (show ¬ (false = true) by decide)] at H; exact H
     clear H
     have H := H1
     clear H1
     obtain ⟨y431, Ny431, H⟩ := yb H
     have H' := Z0.mk H
     clear H
     go_wp2_with (first | ((with_reducible refine gd_ 100 rfl ?_); refine Kd.R_lit Kd.string _ 25 ?hg (N := 100) ?hd (xs := ([(⟨#[50, 47, 52]⟩ : ByteArray), (⟨#[51, 47, 49]⟩ : ByteArray), (⟨#[49, 47, 45, 50]⟩ : ByteArray), (⟨#[45, 48]⟩ : ByteArray), (⟨#[49, 47, 48]⟩ : ByteArray), (⟨#[]⟩ : ByteArray)] : List ByteArray)) (inner := [.string (⟨#[50, 47, 52]⟩ : ByteArray), .string (⟨#[51, 47, 49]⟩ : ByteArray), .string (⟨#[49, 47, 45, 50]⟩ : ByteArray), .string (⟨#[45, 48]⟩ : ByteArray), .string (⟨#[49, 47, 48]⟩ : ByteArray), .string (⟨#[]⟩ : ByteArray)]) (ok := fun _ => True) (okp := fun _ => True) ?hr ?hp (fun _ hk => hk) trivial (Below.refl _ _) (Nat.le_refl _) (by simp) ?_; (case hd => rfl); (case hg => rfl); (case hr => first | (go_simp; done) | (go_simp; rfl)); (case hp => exact (Reps.one (show Kd.M Kd.string _ _ _ (⟨#[50, 47, 52]⟩ : ByteArray) [.string (⟨#[50, 47, 52]⟩ : ByteArray)] from rfl) (Reps.one (show Kd.M Kd.string _ _ _ (⟨#[51, 47, 49]⟩ : ByteArray) [.string (⟨#[51, 47, 49]⟩ : ByteArray)] from rfl) (Reps.one (show Kd.M Kd.string _ _ _ (⟨#[49, 47, 45, 50]⟩ : ByteArray) [.string (⟨#[49, 47, 45, 50]⟩ : ByteArray)] from rfl) (Reps.one (show Kd.M Kd.string _ _ _ (⟨#[45, 48]⟩ : ByteArray) [.string (⟨#[45, 48]⟩ : ByteArray)] from rfl) (Reps.one (show Kd.M Kd.string _ _ _ (⟨#[49, 47, 48]⟩ : ByteArray) [.string (⟨#[49, 47, 48]⟩ : ByteArray)] from rfl) (Reps.one (show Kd.M Kd.string _ _ _ (⟨#[]⟩ : ByteArray) [.string (⟨#[]⟩ : ByteArray)] from rfl) (Reps.none _ _)))))))); intro v432 w29 ho30 hb hg_ hnew_; clear hg_ hnew_; (first | rw [← Ny431.out] at ho30 | (simp only [Int.reduceToNat] at ho30; rw [← Ny431.out] at ho30)); have HO433 := Z0.mk (Kd.R_lower ho30 (below_size bqs)); replace HB := fB HB hb; clear hb ho30; obtain ⟨Ao31, co31, eo31⟩ := Kd.R_slice HO433.out; subst eo31))
     go_loopg [102] kj20 (fun kq v102 w' => ∃ (x102_3 : Int), v102 = .int .i64 x102_3 ∧ Z0 (lWawake.l0 kq y431 (y431.length : Int) x102_3 = some r) ∧ Z0 (kq ≤ kj20) ∧ Z0 (Kd.R Kd.string 25 w' w.heap.size (fun _ => True) (.slice Ao31 y431.length co31) y431) ∧ Z0 (Below w.heap.size w w'))
     case atStart => exact ⟨(0), fs, H', ⟨Nat.le_refl _⟩, ⟨rq HO433⟩, ⟨bqs⟩⟩
     case round =>
      clear H'
      try clear c1
      try clear c2
      try clear p2
      try clear c3
      try clear c4
      try clear p6
      try clear c12
      try clear c12b0
      try clear c12b1
      try clear c13
      try clear c13b0
      try clear c13b1
      try clear c14
      try clear c14b0
      try clear c14b1
      try clear c15
      try clear c15b0
      try clear c15b1
      try clear c16
      try clear c16b0
      try clear c16b1
      try clear c17
      try clear c18
      try clear c19
      try clear c21
      try clear c22
      try clear c25
      try clear c25b0
      try clear c25b1
      try clear c26
      try clear c26b0
      try clear c26b1
      try clear c27
      try clear c27b0
      try clear c27b1
      try clear c28
      try clear c30
      try clear p2
      try clear p6
      obtain ⟨x102_3, rfl, HA, HK3, HO_100, HB⟩ := hrel
      cases gk with
      | zero => exact absurd HA.out (by simp [lWawake.l0])
      | succ k3 =>
       have H := HA.out
       clear HA
       simp only [lWawake.l0] at H
       rcases jd H with ⟨-, c32b0, H⟩ | ⟨-, c32b0, H⟩
       ·obtain ⟨-, c33b0, H⟩ := gd H
        obtain ⟨-, c34b0, H⟩ := gd H
        obtain ⟨t435, A35, H⟩ := bnd H
        rcases je H with ⟨-, c36b0, c36b1, H⟩ | ⟨c36, c36b0, c36b1, H⟩
        ·have H' := Z0.mk H
         clear H
         obtain ⟨ad434, e434, hx434_0, p434, q434⟩ := asI (Kd.R_reads' HO_100.out).2.2 x102_3
         cases e434
         go_wp2_with (first | ((with_reducible refine gc_ 13 rfl ?_); refine gL 107 Tryz.func13 (rACheck.calls k3 (rdOf ByteArray.empty y431 x102_3) t435 _ ?side1 A35.out) ?_; (case side1 => exact LaidW.below hL bqs); rintro _ w37 ⟨rfl, hb⟩; refine ⟨_, rfl, ?_⟩; replace HO_100 := fR HO_100 hb; replace HB := fB HB hb; clear hb))
         go_roundg k3
         case measure => have := HJ5.out; have := HJ20.out; have := HK3.out; omega
         case rel => exact ⟨(wrap64 (x102_3 + 1)), fs, H', ⟨by have := HJ5.out; have := HJ20.out; have := HK3.out; omega⟩, ⟨rq HO_100⟩, ⟨bqs⟩⟩
        obtain rfl := Option.some.inj H
        obtain ⟨ad434, e434, hx434_0, p434, q434⟩ := asI (Kd.R_reads' HO_100.out).2.2 x102_3
        cases e434
        go_wp2_with (first | ((with_reducible refine gc_ 13 rfl ?_); refine gL 107 Tryz.func13 (rACheck.calls k3 (rdOf ByteArray.empty y431 x102_3) t435 _ ?side1 A35.out) ?_; (case side1 => exact LaidW.below hL bqs); rintro _ w38 ⟨rfl, hb⟩; refine ⟨_, rfl, ?_⟩; replace HO_100 := fR HO_100 hb; replace HB := fB HB hb; clear hb))
        go_ret
        exact finE
       obtain ⟨⟨t436, t437⟩, A39, H⟩ := bnd H
       try dsimp only at H
       obtain rfl := Option.some.inj H
       go_wp2_with (first | ((with_reducible refine gc_ 44 rfl ?_); refine gL 111 Tryz.func44 (rADiv.calls k3 (⟨#[49]⟩ : ByteArray) (⟨#[48]⟩ : ByteArray) t436 t437 _ ?side1 A39.out) ?_; (case side1 => exact LaidW.below hL bqs); rintro _ w40 ⟨rfl, hb⟩; refine ⟨_, rfl, ?_⟩; replace HO_100 := fR HO_100 hb; replace HB := fB HB hb; clear hb))
       go_ret
       exact finE
end Go.Proofs.YtinpcbjjnlpblaaGreatDoor.PA
namespace Go.Proofs.YtinpcbjjnlpblaaGreatDoor.Rb
set_option linter.unusedVariables false
open Go.ChangeShapes Go.WideShapes Go.ChangeAt Go.RowKit
theorem and_ {a b : Bool} (h : a = true) (k : b = true) : (a && b) = true := by rw [h, k]; rfl
theorem own : ownKnob Tryz.prog.godebug = none := by kernel_rfl
abbrev laid : List (String × DataW Unit) := Rows.rationalLimitsRow.laid
theorem shaped (os : Os) (args : Array Value) : ((World.laidAll Tryz.prog os laid).forCall (fun _ _ => 0) ⟨#[], args, []⟩).Shaped Tryz.checked.prog := World.shaped_of_ZipB (by kernel_rfl) (by kernel_rfl)
theorem met (os : Os) (args : Array Value) : laidMetH Tryz.prog laid ((World.laidAll Tryz.prog os laid).forCall (fun _ _ => 0) ⟨#[], args, []⟩).memory := by
 rw [MakeChecks.laidMetH_plain _ _ _ (by kernel_rfl)]
 exact laidMet_laidAll _ (by kernel_rfl) (by kernel_rfl)
theorem gPow : Tryz.prog.globalNamed "internal/strconv.uint64pow10" = some 1 := by kernel_rfl
theorem tPow : (Tryz.prog.globals[1]?).map (·.type) = some 190 := by kernel_rfl
theorem dPow : (Rows.laid_internal_strconv_uint64pow10 : DataW Unit) = Lib.tabData .u64 Lib.pow10Tab := rfl
theorem of_laid {W : World} (h : laidMetH Tryz.prog laid W) : LaidW W := by
 rw [MakeChecks.laidMetH_plain _ _ _ (by kernel_rfl)] at h
 obtain ⟨_, ⟨_, _, _, _, _, _, _, _, _, _, ⟨_, _, _, _, _, _, _, _, _, _, ⟨g', t', cs, fuel, p, q, hg', ht', hvar, hd, _⟩, _⟩, _⟩, _⟩ := h
 obtain rfl := Option.some.inj (gPow.symm.trans hg')
 obtain rfl := Option.some.inj (tPow.symm.trans ht')
 unfold LaidW Lib.TabIs
 rw [hvar, ← Lib.cells_of_tab Tryz.underlying190 Tryz.underlying161 (by kernel_rfl) (by kernel_rfl) (dPow ▸ hd)]
end Go.Proofs.YtinpcbjjnlpblaaGreatDoor.Rb
namespace Go.Proofs.YtinpcbjjnlpblaaGreatDoor
open Go.ChangeShapes Go.WideShapes Go.ChangeAt Go.ChangeMaps Go.RowKit
section
variable {H : Type} {enc : TypeId × Value → H} {w : World} {base : Nat} {sp : Nat → Bool} {held : Bool}
theorem open_long {r : Reach} {b0 : Nat} {v : Value} {d : DataW H} {ps : List MemPlace} (hval : Value.okWide Tryz.prog w r b0 24 v) (hd : DataW.Trod enc Tryz.prog w base sp held 24 v d ps) :
    ∃ z a : Int, v = .agg #[.int .u16 z, .int .u8 a] ∧ d = .agg [.lit (.int .u16 z), .lit (.int .u8 a)] ∧ ps = [] ∧ (Lit.int .u16 z).wf = true ∧ (Lit.int .u8 a).wf = true := by
  obtain ⟨v0, v1, y0, y1, n, rfl, rfl, rfl, h0, h1⟩ := Go.Joins.open_agg2 Tryz.underlying24 (by kernel_rfl) (by kernel_rfl) hval hd
  obtain ⟨z, e0, rfl, w0⟩ := DataW.trod_int Tryz.underlying22 h0
  obtain ⟨a, e1, rfl, w1⟩ := DataW.trod_int Tryz.underlying5 h1
  simp at e0 e1
  subst e0 e1
  exact ⟨z, a, rfl, rfl, rfl, w0, w1⟩
theorem shut_long {z a : Int} (h0 : (Lit.int .u16 z).wf = true) (h1 : (Lit.int .u8 a).wf = true) : DataW.Trod enc Tryz.prog w base sp held 24 (.agg #[.int .u16 z, .int .u8 a]) (.agg [.lit (.int .u16 z), .lit (.int .u8 a)]) [] :=
  Go.Joins.shut_agg2 (y0 := (.lit (.int .u16 z), [])) (y1 := (.lit (.int .u8 a), [])) Tryz.underlying24 (by kernel_rfl) (by kernel_rfl) ⟨1, by simp [DataW.trod, Tryz.underlying22, h0]⟩ ⟨1, by simp [DataW.trod, Tryz.underlying5, h1]⟩
end
theorem long_bounds {z a : Int} (h : (Lit.int .u16 z).wf = true) (h' : (Lit.int .u8 a).wf = true) : 0 ≤ z ∧ z < 65536 ∧ 0 ≤ a ∧ a < 256 := by
  simp only [Lit.wf, Bool.and_eq_true, decide_eq_true_eq] at h h'
  have e1 : IntKind.min .u16 = 0 := rfl
  have e2 : IntKind.max .u16 = 65535 := rfl
  have e3 : IntKind.min .u8 = 0 := rfl
  have e4 : IntKind.max .u8 = 255 := rfl
  omega
end Go.Proofs.YtinpcbjjnlpblaaGreatDoor
