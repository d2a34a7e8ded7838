import Derived.Test.YthnfajboebaajaaGreatDoorAG1
import Derived.Test.YthnfajboebaajaaGreatDoorAD
import Derived.Test.YthnfajboebaajaaGreatDoorAG9
import Derived.Test.YthnfajboebaajaaGreatDoorAG11
import Derived.Test.YthnfajboebaajaaGreatDoorRows
import Derived.ProofKit
import Derived.OpenShut
import Derived.Lay
import Derived.LaidOnce
import Derived.SevenTiedAt
set_option maxHeartbeats 8000000
set_option maxRecDepth 100000
set_option linter.unusedVariables false
namespace Go.Proofs.YthnfajboebaajaaGreatDoor.PA
open Go.RowKit Go.Proofs.WWords Go.Proofs.WLast Go.Proofs.WMore
attribute [local go_sem] max2_int min2_int max_two min_two max_three min_three max_four min_four
set_option linter.unusedVariables false
set_option linter.unusedSimpArgs false
theorem lWRationalOrders.calls (k : Nat) (a0 : ByteArray) (a1 : ByteArray) (a2 : ByteArray) (r : Bool) (w : World) (hL : LaidW w) (h : lWRationalOrders.f k a0 a1 a2 = some r) :
  Calls Tryz.prog 8 #[.string a0, .string a1, .string a2] w fun e w' => e = .returned (.bool r) ∧ Below w.heap.size w w' := by
 have HB := Z0.mk (Below.refl w.heap.size w)
 have H := h
 clear h
 unfold lWRationalOrders.f at H
 generalize hy819 : (([a0, a1, a2] : List ByteArray) : List ByteArray) = y819 at H
 have Ny819 := Z0.mk hy819.symm
 clear hy819
 obtain ⟨t822, A4, H⟩ := bnd H
 by_cases c5 : t822 = true
 ·subst c5
  have H1 : ((rACompare.f k a0 a1).bind fun bt824 => ((rACompare.f k a1 a0).bind fun bt826 => ((rACompare.f k a1 a2).bind fun bt828 => ((rACompare.f k a0 a2).bind fun bt830 => (if (wrap64 ((wrap64 ((wrap64 (bt824.2 + bt826.2)) + bt828.2)) + bt830.2)) = 0 then (if bt824.1 = (wrap64 (-bt826.1)) then (if bt824.1 < (-1) then (lWRationalOrders.j0 k a0 a1 a2 bt824.1 true) else (if bt824.1 > 1 then (lWRationalOrders.j0 k a0 a1 a2 bt824.1 true) else (if ((bt824.1 == 0) != (a0.toList == a1.toList)) = true then (lWRationalOrders.j0 k a0 a1 a2 bt824.1 true) else (if bt824.1 ≤ 0 then (if bt828.1 ≤ 0 then (lWRationalOrders.j0 k a0 a1 a2 bt824.1 (decide (bt830.1 > 0))) else (lWRationalOrders.j0 k a0 a1 a2 bt824.1 false)) else (lWRationalOrders.j0 k a0 a1 a2 bt824.1 false))))) else (lWRationalOrders.j0 k a0 a1 a2 bt824.1 true)) else (lWRationalOrders.j0 k a0 a1 a2 bt824.1 true)))))) = some r := by rw [if_pos rfl] at H; exact H
  clear H
  have H := H1
  clear H1
  obtain ⟨⟨t824, t825⟩, A6, H⟩ := bnd H
  try dsimp only at H
  obtain ⟨⟨t826, t827⟩, A7, H⟩ := bnd H
  try dsimp only at H
  obtain ⟨⟨t828, t829⟩, A8, H⟩ := bnd H
  try dsimp only at H
  obtain ⟨⟨t830, t831⟩, A9, H⟩ := bnd H
  try dsimp only at H
  have HC10 := Z0.mk H
  clear H
  go_enter Tryz.func8, Tryz.ntmps8
  go_upto_region 7 with (first | ((with_reducible refine gd_ 28 rfl ?_); refine Kd.R_lit Kd.string _ 22 ?hg (N := 28) ?hd (xs := ([a0, a1, a2] : List ByteArray)) (inner := [.string a0, .string a1, .string a2]) (ok := fun _ => True) (okp := fun _ => True) ?hr ?hp (fun _ hk => hk) trivial (Below.refl _ _) (Nat.le_refl _) (by simp) ?_; (case hd => rfl); (case hg => rfl); (case hr => first | (go_simp; done) | (go_simp; rfl)); (case hp => exact (Reps.one (show Kd.M Kd.string _ _ _ a0 [.string a0] from rfl) (Reps.one (show Kd.M Kd.string _ _ _ a1 [.string a1] from rfl) (Reps.one (show Kd.M Kd.string _ _ _ a2 [.string a2] from rfl) (Reps.none _ _))))); intro v820 w11 ho12 hb hg_ hnew_; clear hg_ hnew_; (first | rw [← Ny819.out] at ho12 | (simp only [Int.reduceToNat] at ho12; rw [← Ny819.out] at ho12)); have HO821 := Z0.mk (Kd.R_lower ho12 (below_size bqs)); replace HB := fB HB hb; clear hb ho12; obtain ⟨Ao13, co13, eo13⟩ := Kd.R_slice HO821.out; subst eo13) | ((with_reducible refine gc_ 32 rfl ?_); refine gL 29 Tryz.func32 (lWright.calls k _ _ y819 true _ ?side1 ?side2 A4.out) ?_; (case side1 => exact cq (Kd.R_reads' HO821.out).2.2); (case side2 => exact (Kd.R_reads' HO821.out).2.1); rintro _ w14 ⟨rfl, hb⟩; refine ⟨_, rfl, ?_⟩; replace HO821 := fR HO821 hb; replace HB := fB HB hb; clear hb) | ((with_reducible refine gc_ 34 rfl ?_); refine gL 35 Tryz.func34 (rACompare.calls k a0 a1 t824 t825 _ ?side1 A6.out) ?_; (case side1 => exact LaidW.below hL bqs); rintro _ w15 ⟨rfl, hb⟩; refine ⟨_, rfl, ?_⟩; replace HO821 := fR HO821 hb; replace HB := fB HB hb; clear hb) | ((with_reducible refine gc_ 34 rfl ?_); refine gL 41 Tryz.func34 (rACompare.calls k a1 a0 t826 t827 _ ?side1 A7.out) ?_; (case side1 => exact LaidW.below hL bqs); rintro _ w16 ⟨rfl, hb⟩; refine ⟨_, rfl, ?_⟩; replace HO821 := fR HO821 hb; replace HB := fB HB hb; clear hb) | ((with_reducible refine gc_ 34 rfl ?_); refine gL 47 Tryz.func34 (rACompare.calls k a1 a2 t828 t829 _ ?side1 A8.out) ?_; (case side1 => exact LaidW.below hL bqs); rintro _ w17 ⟨rfl, hb⟩; refine ⟨_, rfl, ?_⟩; replace HO821 := fR HO821 hb; replace HB := fB HB hb; clear hb) | ((with_reducible refine gc_ 34 rfl ?_); refine gL 53 Tryz.func34 (rACompare.calls k a0 a2 t830 t831 _ ?side1 A9.out) ?_; (case side1 => exact LaidW.below hL bqs); rintro _ w18 ⟨rfl, hb⟩; refine ⟨_, rfl, ?_⟩; replace HO821 := fR HO821 hb; replace HB := fB HB hb; clear hb))
  (try simp only [Act.put, List.setIfInBounds_toArray, List.set_cons_zero, List.set_cons_succ])
  go_cut [97] (fun v97 wc => ∃ (kq : Nat) (x97_9 : Bool), v97 = .bool x97_9 ∧ Z0 (lWRationalOrders.j0 kq a0 a1 a2 t824 x97_9 = some r) ∧ Z0 (kq ≤ k) ∧ Z0 (Below w.heap.size w wc))
  case first =>
   have H := HC10.out
   clear HC10
   rcases je H with ⟨-, c19b0, c19b1, H⟩ | ⟨c19, c19b0, c19b1, H⟩
   ·(first | rw [c19b0] | (simp only [i64_w, i32_w]; rw [c19b0]) | skip)
    rcases je H with ⟨-, c20b0, c20b1, H⟩ | ⟨c20, c20b0, c20b1, H⟩
    ·rcases jd H with ⟨-, c21b0, H⟩ | ⟨-, c21b0, H⟩
     ·have H' := Z0.mk H
      clear H
      go_wp2
      go_meet
      case rel => exact ⟨_, (true), fs, H', ⟨by first | omega | exact Nat.le_refl _⟩, ⟨bqs⟩⟩
     rcases jg H with ⟨-, c22b0, H⟩ | ⟨-, c22b0, H⟩
     ·have H' := Z0.mk H
      clear H
      go_wp2
      go_meet
      case rel => exact ⟨_, (true), fs, H', ⟨by first | omega | exact Nat.le_refl _⟩, ⟨bqs⟩⟩
     rcases jn H with ⟨c23, H⟩ | ⟨c23, H⟩
     ·have c23b0 : ((t824 == 0) != (a0.toList == a1.toList)) = true := c23
      (try (have c23b1 : decide ((t824 == 0) = (a0.toList == a1.toList)) = false := by simpa using c23))
      (try (have c23b2 : ((t824 == 0) == (a0.toList == a1.toList)) = false := by simpa using c23))
      (try (have c23b3 : ¬ ((t824 == 0) = (a0.toList == a1.toList)) := by simpa using c23))
      clear c23
      have H' := Z0.mk H
      clear H
      go_wp2
      go_meet
      case rel => exact ⟨_, (true), fs, H', ⟨by first | omega | exact Nat.le_refl _⟩, ⟨bqs⟩⟩
     have c23b0 : ((t824 == 0) != (a0.toList == a1.toList)) = false := by simpa using c23
     (try (have c23b1 : decide ((t824 == 0) = (a0.toList == a1.toList)) = true := by simpa using c23))
     (try (have c23b2 : ((t824 == 0) == (a0.toList == a1.toList)) = true := by simpa using c23))
     clear c23
     rcases jd H with ⟨-, c24b0, H⟩ | ⟨-, c24b0, H⟩
     ·rcases jd H with ⟨-, c25b0, H⟩ | ⟨-, c25b0, H⟩
      ·have H' := Z0.mk H
       clear H
       go_wp2
       go_meet
       case rel => exact ⟨_, (decide (t830 > 0)), fs, H', ⟨by first | omega | exact Nat.le_refl _⟩, ⟨bqs⟩⟩
      have H' := Z0.mk H
      clear H
      go_wp2
      go_meet
      case rel => exact ⟨_, (false), fs, H', ⟨by first | omega | exact Nat.le_refl _⟩, ⟨bqs⟩⟩
     have H' := Z0.mk H
     clear H
     go_wp2
     go_meet
     case rel => exact ⟨_, (false), fs, H', ⟨by first | omega | exact Nat.le_refl _⟩, ⟨bqs⟩⟩
    have H' := Z0.mk H
    clear H
    go_wp2
    go_meet
    case rel => exact ⟨_, (true), fs, H', ⟨by first | omega | exact Nat.le_refl _⟩, ⟨bqs⟩⟩
   (first | rw [c19b0] | (simp only [i64_w, i32_w]; rw [c19b0]) | skip)
   have H' := Z0.mk H
   clear H
   go_wp2
   go_meet
   case rel => exact ⟨_, (true), fs, H', ⟨by first | omega | exact Nat.le_refl _⟩, ⟨bqs⟩⟩
  case rest =>
   clear HC10
   try clear c1
   try clear c2
   try clear p2
   try clear c3
   try clear c5
   try clear p6
   try clear c8
   try clear c19
   try clear c19b0
   try clear c19b1
   try clear c20
   try clear c20b0
   try clear c20b1
   try clear c21
   try clear c21b0
   try clear c22
   try clear c22b0
   try clear c23
   try clear c23b0
   try clear c23b1
   try clear c23b2
   try clear c24
   try clear c24b0
   try clear c25
   try clear c25b0
   obtain ⟨kq, x97_9, rfl, HA, HJ9, HB⟩ := hcut
   cases kq with
   | zero => exact absurd HA.out (by simp [lWRationalOrders.j0])
   | succ kj9 =>
    have H := HA.out
    clear HA
    simp only [lWRationalOrders.j0] at H
    by_cases c26 : x97_9 = true
    ·subst c26
     have H1 : (some false) = some r := by rw [if_pos rfl] at H; exact H
     clear H
     have H := H1
     clear H1
     obtain rfl := Option.some.inj H
     go_wp2
     go_ret
     exact finE
    replace c26 := Bool.eq_false_iff.mpr c26
    subst c26
    have H1 : ((rAAdd.f kj9 a0 a2).bind fun bt832 => ((rAAdd.f kj9 a1 a2).bind fun bt834 => ((rACompare.f kj9 bt832.1 bt834.1).bind fun bt836 => ((rACompare.f kj9 a2 (⟨#[48]⟩ : ByteArray)).bind fun bt838 => ((rAMul.f kj9 a0 a2).bind fun bt840 => ((rAMul.f kj9 a1 a2).bind fun bt842 => ((rACompare.f kj9 bt840.1 bt842.1).bind fun bt844 => (if (wrap64 ((wrap64 ((wrap64 ((wrap64 ((wrap64 ((wrap64 (bt832.2 + bt834.2)) + bt836.2)) + bt838.2)) + bt840.2)) + bt842.2)) + bt844.2)) = 0 then (if bt836.1 = t824 then (if bt844.1 = (wrap64 (t824 * bt838.1)) then ((lWawake.f kj9).bind fun t846 => (some t846)) else (some false)) else (some false)) else (some false))))))))) = some r := by rw [if_neg (show ¬ (false = true) by decide)] at H; exact H
    clear H
    have H := H1
    clear H1
    obtain ⟨⟨t832, t833⟩, A27, H⟩ := bnd H
    try dsimp only at H
    obtain ⟨⟨t834, t835⟩, A28, H⟩ := bnd H
    try dsimp only at H
    obtain ⟨⟨t836, t837⟩, A29, H⟩ := bnd H
    try dsimp only at H
    obtain ⟨⟨t838, t839⟩, A30, H⟩ := bnd H
    try dsimp only at H
    obtain ⟨⟨t840, t841⟩, A31, H⟩ := bnd H
    try dsimp only at H
    obtain ⟨⟨t842, t843⟩, A32, H⟩ := bnd H
    try dsimp only at H
    obtain ⟨⟨t844, t845⟩, A33, H⟩ := bnd H
    try dsimp only at H
    rcases je H with ⟨-, c34b0, c34b1, H⟩ | ⟨c34, c34b0, c34b1, H⟩
    ·rcases je H with ⟨-, c35b0, c35b1, H⟩ | ⟨c35, c35b0, c35b1, H⟩
     ·rcases je H with ⟨-, c36b0, c36b1, H⟩ | ⟨c36, c36b0, c36b1, H⟩
      ·obtain ⟨t846, A37, H⟩ := bnd H
       obtain rfl := Option.some.inj H
       go_wp2_with (first | ((with_reducible refine gc_ 43 rfl ?_); refine goB (some 101) Tryz.func43 #[.string a0, .string a2] bq (rAAdd.calls kj9 a0 a2 t832 t833 _ (hL.below bq) A27.out) ?_; clear HB; intro w38 HB) | ((with_reducible refine gc_ 43 rfl ?_); refine goB (some 107) Tryz.func43 #[.string a1, .string a2] bq (rAAdd.calls kj9 a1 a2 t834 t835 _ (hL.below bq) A28.out) ?_; clear HB; intro w39 HB) | ((with_reducible refine gc_ 34 rfl ?_); refine goB (some 113) Tryz.func34 #[.string t832, .string t834] bq (rACompare.calls kj9 t832 t834 t836 t837 _ (hL.below bq) A29.out) ?_; clear HB; intro w40 HB) | ((with_reducible refine gc_ 34 rfl ?_); refine goB (some 118) Tryz.func34 #[.string a2, .string (⟨#[48]⟩ : ByteArray)] bq (rACompare.calls kj9 a2 (⟨#[48]⟩ : ByteArray) t838 t839 _ (hL.below bq) A30.out) ?_; clear HB; intro w41 HB) | ((with_reducible refine gc_ 41 rfl ?_); refine goB (some 124) Tryz.func41 #[.string a0, .string a2] bq (rAMul.calls kj9 a0 a2 t840 t841 _ (hL.below bq) A31.out) ?_; clear HB; intro w42 HB) | ((with_reducible refine gc_ 41 rfl ?_); refine goB (some 130) Tryz.func41 #[.string a1, .string a2] bq (rAMul.calls kj9 a1 a2 t842 t843 _ (hL.below bq) A32.out) ?_; clear HB; intro w43 HB) | ((with_reducible refine gc_ 34 rfl ?_); refine goB (some 136) Tryz.func34 #[.string t840, .string t842] bq (rACompare.calls kj9 t840 t842 t844 t845 _ (hL.below bq) A33.out) ?_; clear HB; intro w44 HB) | (go_at_call 17; (with_reducible refine (lWawake.calls kj9  t846 _ ?side1 A37.out).mono ?_); (case side1 => exact LaidW.below hL bqs); rintro e w45 ⟨rfl, hb⟩; replace HB := fB HB hb; clear hb))
       go_ret
       exact finE
      obtain rfl := Option.some.inj H
      go_wp2_with (first | ((with_reducible refine gc_ 43 rfl ?_); refine goB (some 101) Tryz.func43 #[.string a0, .string a2] bq (rAAdd.calls kj9 a0 a2 t832 t833 _ (hL.below bq) A27.out) ?_; clear HB; intro w46 HB) | ((with_reducible refine gc_ 43 rfl ?_); refine goB (some 107) Tryz.func43 #[.string a1, .string a2] bq (rAAdd.calls kj9 a1 a2 t834 t835 _ (hL.below bq) A28.out) ?_; clear HB; intro w47 HB) | ((with_reducible refine gc_ 34 rfl ?_); refine goB (some 113) Tryz.func34 #[.string t832, .string t834] bq (rACompare.calls kj9 t832 t834 t836 t837 _ (hL.below bq) A29.out) ?_; clear HB; intro w48 HB) | ((with_reducible refine gc_ 34 rfl ?_); refine goB (some 118) Tryz.func34 #[.string a2, .string (⟨#[48]⟩ : ByteArray)] bq (rACompare.calls kj9 a2 (⟨#[48]⟩ : ByteArray) t838 t839 _ (hL.below bq) A30.out) ?_; clear HB; intro w49 HB) | ((with_reducible refine gc_ 41 rfl ?_); refine goB (some 124) Tryz.func41 #[.string a0, .string a2] bq (rAMul.calls kj9 a0 a2 t840 t841 _ (hL.below bq) A31.out) ?_; clear HB; intro w50 HB) | ((with_reducible refine gc_ 41 rfl ?_); refine goB (some 130) Tryz.func41 #[.string a1, .string a2] bq (rAMul.calls kj9 a1 a2 t842 t843 _ (hL.below bq) A32.out) ?_; clear HB; intro w51 HB) | ((with_reducible refine gc_ 34 rfl ?_); refine goB (some 136) Tryz.func34 #[.string t840, .string t842] bq (rACompare.calls kj9 t840 t842 t844 t845 _ (hL.below bq) A33.out) ?_; clear HB; intro w52 HB))
      go_ret
      exact finE
     obtain rfl := Option.some.inj H
     go_wp2_with (first | ((with_reducible refine gc_ 43 rfl ?_); refine goB (some 101) Tryz.func43 #[.string a0, .string a2] bq (rAAdd.calls kj9 a0 a2 t832 t833 _ (hL.below bq) A27.out) ?_; clear HB; intro w53 HB) | ((with_reducible refine gc_ 43 rfl ?_); refine goB (some 107) Tryz.func43 #[.string a1, .string a2] bq (rAAdd.calls kj9 a1 a2 t834 t835 _ (hL.below bq) A28.out) ?_; clear HB; intro w54 HB) | ((with_reducible refine gc_ 34 rfl ?_); refine goB (some 113) Tryz.func34 #[.string t832, .string t834] bq (rACompare.calls kj9 t832 t834 t836 t837 _ (hL.below bq) A29.out) ?_; clear HB; intro w55 HB) | ((with_reducible refine gc_ 34 rfl ?_); refine goB (some 118) Tryz.func34 #[.string a2, .string (⟨#[48]⟩ : ByteArray)] bq (rACompare.calls kj9 a2 (⟨#[48]⟩ : ByteArray) t838 t839 _ (hL.below bq) A30.out) ?_; clear HB; intro w56 HB) | ((with_reducible refine gc_ 41 rfl ?_); refine goB (some 124) Tryz.func41 #[.string a0, .string a2] bq (rAMul.calls kj9 a0 a2 t840 t841 _ (hL.below bq) A31.out) ?_; clear HB; intro w57 HB) | ((with_reducible refine gc_ 41 rfl ?_); refine goB (some 130) Tryz.func41 #[.string a1, .string a2] bq (rAMul.calls kj9 a1 a2 t842 t843 _ (hL.below bq) A32.out) ?_; clear HB; intro w58 HB) | ((with_reducible refine gc_ 34 rfl ?_); refine goB (some 136) Tryz.func34 #[.string t840, .string t842] bq (rACompare.calls kj9 t840 t842 t844 t845 _ (hL.below bq) A33.out) ?_; clear HB; intro w59 HB))
     go_ret
     exact finE
    obtain rfl := Option.some.inj H
    go_wp2_with (first | ((with_reducible refine gc_ 43 rfl ?_); refine goB (some 101) Tryz.func43 #[.string a0, .string a2] bq (rAAdd.calls kj9 a0 a2 t832 t833 _ (hL.below bq) A27.out) ?_; clear HB; intro w60 HB) | ((with_reducible refine gc_ 43 rfl ?_); refine goB (some 107) Tryz.func43 #[.string a1, .string a2] bq (rAAdd.calls kj9 a1 a2 t834 t835 _ (hL.below bq) A28.out) ?_; clear HB; intro w61 HB) | ((with_reducible refine gc_ 34 rfl ?_); refine goB (some 113) Tryz.func34 #[.string t832, .string t834] bq (rACompare.calls kj9 t832 t834 t836 t837 _ (hL.below bq) A29.out) ?_; clear HB; intro w62 HB) | ((with_reducible refine gc_ 34 rfl ?_); refine goB (some 118) Tryz.func34 #[.string a2, .string (⟨#[48]⟩ : ByteArray)] bq (rACompare.calls kj9 a2 (⟨#[48]⟩ : ByteArray) t838 t839 _ (hL.below bq) A30.out) ?_; clear HB; intro w63 HB) | ((with_reducible refine gc_ 41 rfl ?_); refine goB (some 124) Tryz.func41 #[.string a0, .string a2] bq (rAMul.calls kj9 a0 a2 t840 t841 _ (hL.below bq) A31.out) ?_; clear HB; intro w64 HB) | ((with_reducible refine gc_ 41 rfl ?_); refine goB (some 130) Tryz.func41 #[.string a1, .string a2] bq (rAMul.calls kj9 a1 a2 t842 t843 _ (hL.below bq) A32.out) ?_; clear HB; intro w65 HB) | ((with_reducible refine gc_ 34 rfl ?_); refine goB (some 136) Tryz.func34 #[.string t840, .string t842] bq (rACompare.calls kj9 t840 t842 t844 t845 _ (hL.below bq) A33.out) ?_; clear HB; intro w66 HB))
    go_ret
    exact finE
 replace c5 := Bool.eq_false_iff.mpr c5
 subst c5
 have H1 : ((lWawake.f k).bind fun t823 => (some t823)) = some r := by rw [if_neg (show ¬ (false = true) by decide)] at H; exact H
 clear H
 have H := H1
 clear H1
 obtain ⟨t823, A67, H⟩ := bnd H
 obtain rfl := Option.some.inj H
 go_enter Tryz.func8, Tryz.ntmps8
 go_wp2_with (first | ((with_reducible refine gd_ 28 rfl ?_); refine Kd.R_lit Kd.string _ 22 ?hg (N := 28) ?hd (xs := ([a0, a1, a2] : List ByteArray)) (inner := [.string a0, .string a1, .string a2]) (ok := fun _ => True) (okp := fun _ => True) ?hr ?hp (fun _ hk => hk) trivial (Below.refl _ _) (Nat.le_refl _) (by simp) ?_; (case hd => rfl); (case hg => rfl); (case hr => first | (go_simp; done) | (go_simp; rfl)); (case hp => exact (Reps.one (show Kd.M Kd.string _ _ _ a0 [.string a0] from rfl) (Reps.one (show Kd.M Kd.string _ _ _ a1 [.string a1] from rfl) (Reps.one (show Kd.M Kd.string _ _ _ a2 [.string a2] from rfl) (Reps.none _ _))))); intro v820 w68 ho69 hb hg_ hnew_; clear hg_ hnew_; (first | rw [← Ny819.out] at ho69 | (simp only [Int.reduceToNat] at ho69; rw [← Ny819.out] at ho69)); have HO821 := Z0.mk (Kd.R_lower ho69 (below_size bqs)); replace HB := fB HB hb; clear hb ho69; obtain ⟨Ao70, co70, eo70⟩ := Kd.R_slice HO821.out; subst eo70) | ((with_reducible refine gc_ 32 rfl ?_); refine gL 29 Tryz.func32 (lWright.calls k _ _ y819 false _ ?side1 ?side2 A4.out) ?_; (case side1 => exact cq (Kd.R_reads' HO821.out).2.2); (case side2 => exact (Kd.R_reads' HO821.out).2.1); rintro _ w71 ⟨rfl, hb⟩; refine ⟨_, rfl, ?_⟩; replace HO821 := fR HO821 hb; replace HB := fB HB hb; clear hb) | ((with_reducible refine gc_ 17 rfl ?_); refine gL 31 Tryz.func17 (lWawake.calls k  t823 _ ?side1 A67.out) ?_; (case side1 => exact LaidW.below hL bqs); rintro _ w72 ⟨rfl, hb⟩; refine ⟨_, rfl, ?_⟩; replace HO821 := fR HO821 hb; replace HB := fB HB hb; clear hb))
 go_ret
 exact finE
end Go.Proofs.YthnfajboebaajaaGreatDoor.PA
namespace Go.Proofs.YthnfajboebaajaaGreatDoor.Rb
open Go.ChangeShapes Go.WideShapes Go.ChangeAt Go.RowKit
theorem and_ {a b : Bool} (h : a = true) (k : b = true) : (a && b) = true := by rw [h, k]; rfl
theorem own : ownKnob Tryz.prog.godebug = none := by kernel_rfl
abbrev laid : List (String × DataW Unit) := Rows.rationalMakesRow.laid
theorem shaped (os : Os) (args : Array Value) : ((World.laidAll Tryz.prog os laid).forCall (fun _ _ => 0) ⟨#[], args, []⟩).Shaped Tryz.checked.prog := World.shaped_of_ZipB (by kernel_rfl) (by kernel_rfl)
theorem met (os : Os) (args : Array Value) : laidMetH Tryz.prog laid ((World.laidAll Tryz.prog os laid).forCall (fun _ _ => 0) ⟨#[], args, []⟩).memory := by
 rw [MakeChecks.laidMetH_plain _ _ _ (by kernel_rfl)]
 exact laidMet_laidAll _ (by kernel_rfl) (by kernel_rfl)
theorem gPow : Tryz.prog.globalNamed "internal/strconv.uint64pow10" = some 1 := by kernel_rfl
theorem tPow : (Tryz.prog.globals[1]?).map (·.type) = some 206 := by kernel_rfl
theorem dPow : (Rows.laid_internal_strconv_uint64pow10 : DataW Unit) = Lib.tabData .u64 Lib.pow10Tab := rfl
theorem of_laid {W : World} (h : laidMetH Tryz.prog laid W) : LaidW W := by
 rw [MakeChecks.laidMetH_plain _ _ _ (by kernel_rfl)] at h
 obtain ⟨_, ⟨_, _, _, _, _, _, _, _, _, _, ⟨_, _, _, _, _, _, _, _, _, _, ⟨g', t', cs, fuel, p, q, hg', ht', hvar, hd, _⟩, _⟩, _⟩, _⟩ := h
 obtain rfl := Option.some.inj (gPow.symm.trans hg')
 obtain rfl := Option.some.inj (tPow.symm.trans ht')
 unfold LaidW Lib.TabIs
 rw [hvar, ← Lib.cells_of_tab Tryz.underlying206 Tryz.underlying182 (by kernel_rfl) (by kernel_rfl) (dPow ▸ hd)]
end Go.Proofs.YthnfajboebaajaaGreatDoor.Rb
