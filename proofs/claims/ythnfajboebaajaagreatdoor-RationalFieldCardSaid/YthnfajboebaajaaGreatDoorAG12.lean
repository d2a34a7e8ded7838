import Derived.Test.YthnfajboebaajaaGreatDoorAG1
import Derived.Test.YthnfajboebaajaaGreatDoorAD
import Derived.Test.YthnfajboebaajaaGreatDoorAG9
import Derived.Test.YthnfajboebaajaaGreatDoorAG11
import Derived.Test.YthnfajboebaajaaGreatDoorRows
import Derived.ProofKit
import Derived.OpenShut
import Derived.Lay
import Derived.LaidOnce
import Derived.SevenTiedAt
set_option maxHeartbeats 8000000
set_option maxRecDepth 100000
set_option linter.unusedVariables false
namespace Go.Proofs.YthnfajboebaajaaGreatDoor.PA
open Go.RowKit Go.Proofs.WWords Go.Proofs.WLast Go.Proofs.WMore
attribute [local go_sem] max2_int min2_int max_two min_two max_three min_three max_four min_four
set_option linter.unusedVariables false
set_option linter.unusedSimpArgs false
theorem lWRationalField.calls (k : Nat) (a0 : ByteArray) (a1 : ByteArray) (a2 : ByteArray) (r : Bool) (w : World) (hL : LaidW w) (h : lWRationalField.f k a0 a1 a2 = some r) :
  Calls Tryz.prog 10 #[.string a0, .string a1, .string a2] w fun e w' => e = .returned (.bool r) ∧ Below w.heap.size w w' := by
 have HB := Z0.mk (Below.refl w.heap.size w)
 have H := h
 clear h
 unfold lWRationalField.f at H
 generalize hy885 : (([a0, a1, a2] : List ByteArray) : List ByteArray) = y885 at H
 have Ny885 := Z0.mk hy885.symm
 clear hy885
 obtain ⟨t888, A4, H⟩ := bnd H
 by_cases c5 : t888 = true
 ·subst c5
  have H1 : ((rAAdd.f k a0 a1).bind fun bt890 => ((rAAdd.f k a1 a0).bind fun bt892 => ((rAAdd.f k a1 a2).bind fun bt894 => ((rAAdd.f k bt890.1 a2).bind fun bt896 => ((rAAdd.f k a0 bt894.1).bind fun bt898 => ((rASub.f k bt890.1 a1).bind fun bt900 => (if (wrap64 ((wrap64 ((wrap64 ((wrap64 ((wrap64 (bt890.2 + bt892.2)) + bt894.2)) + bt896.2)) + bt898.2)) + bt900.2)) = 0 then (if bt890.1.toList = bt892.1.toList then (if bt896.1.toList = bt898.1.toList then (lWRationalField.j0 k a0 a1 a2 bt894.1 (bt900.1.toList != a0.toList)) else (lWRationalField.j0 k a0 a1 a2 bt894.1 true)) else (lWRationalField.j0 k a0 a1 a2 bt894.1 true)) else (lWRationalField.j0 k a0 a1 a2 bt894.1 true)))))))) = some r := by rw [if_pos rfl] at H; exact H
  clear H
  have H := H1
  clear H1
  obtain ⟨⟨t890, t891⟩, A6, H⟩ := bnd H
  try dsimp only at H
  obtain ⟨⟨t892, t893⟩, A7, H⟩ := bnd H
  try dsimp only at H
  obtain ⟨⟨t894, t895⟩, A8, H⟩ := bnd H
  try dsimp only at H
  obtain ⟨⟨t896, t897⟩, A9, H⟩ := bnd H
  try dsimp only at H
  obtain ⟨⟨t898, t899⟩, A10, H⟩ := bnd H
  try dsimp only at H
  obtain ⟨⟨t900, t901⟩, A11, H⟩ := bnd H
  try dsimp only at H
  have HC12 := Z0.mk H
  clear H
  go_enter Tryz.func10, Tryz.ntmps10
  go_upto_region 9 with (first | ((with_reducible refine gd_ 33 rfl ?_); refine Kd.R_lit Kd.string _ 22 ?hg (N := 33) ?hd (xs := ([a0, a1, a2] : List ByteArray)) (inner := [.string a0, .string a1, .string a2]) (ok := fun _ => True) (okp := fun _ => True) ?hr ?hp (fun _ hk => hk) trivial (Below.refl _ _) (Nat.le_refl _) (by simp) ?_; (case hd => rfl); (case hg => rfl); (case hr => first | (go_simp; done) | (go_simp; rfl)); (case hp => exact (Reps.one (show Kd.M Kd.string _ _ _ a0 [.string a0] from rfl) (Reps.one (show Kd.M Kd.string _ _ _ a1 [.string a1] from rfl) (Reps.one (show Kd.M Kd.string _ _ _ a2 [.string a2] from rfl) (Reps.none _ _))))); intro v886 w13 ho14 hb hg_ hnew_; clear hg_ hnew_; (first | rw [← Ny885.out] at ho14 | (simp only [Int.reduceToNat] at ho14; rw [← Ny885.out] at ho14)); have HO887 := Z0.mk (Kd.R_lower ho14 (below_size bqs)); replace HB := fB HB hb; clear hb ho14; obtain ⟨Ao15, co15, eo15⟩ := Kd.R_slice HO887.out; subst eo15) | ((with_reducible refine gc_ 32 rfl ?_); refine gL 34 Tryz.func32 (lWright.calls k _ _ y885 true _ ?side1 ?side2 A4.out) ?_; (case side1 => exact cq (Kd.R_reads' HO887.out).2.2); (case side2 => exact (Kd.R_reads' HO887.out).2.1); rintro _ w16 ⟨rfl, hb⟩; refine ⟨_, rfl, ?_⟩; replace HO887 := fR HO887 hb; replace HB := fB HB hb; clear hb) | ((with_reducible refine gc_ 43 rfl ?_); refine gL 40 Tryz.func43 (rAAdd.calls k a0 a1 t890 t891 _ ?side1 A6.out) ?_; (case side1 => exact LaidW.below hL bqs); rintro _ w17 ⟨rfl, hb⟩; refine ⟨_, rfl, ?_⟩; replace HO887 := fR HO887 hb; replace HB := fB HB hb; clear hb) | ((with_reducible refine gc_ 43 rfl ?_); refine gL 46 Tryz.func43 (rAAdd.calls k a1 a0 t892 t893 _ ?side1 A7.out) ?_; (case side1 => exact LaidW.below hL bqs); rintro _ w18 ⟨rfl, hb⟩; refine ⟨_, rfl, ?_⟩; replace HO887 := fR HO887 hb; replace HB := fB HB hb; clear hb) | ((with_reducible refine gc_ 43 rfl ?_); refine gL 52 Tryz.func43 (rAAdd.calls k a1 a2 t894 t895 _ ?side1 A8.out) ?_; (case side1 => exact LaidW.below hL bqs); rintro _ w19 ⟨rfl, hb⟩; refine ⟨_, rfl, ?_⟩; replace HO887 := fR HO887 hb; replace HB := fB HB hb; clear hb) | ((with_reducible refine gc_ 43 rfl ?_); refine gL 58 Tryz.func43 (rAAdd.calls k t890 a2 t896 t897 _ ?side1 A9.out) ?_; (case side1 => exact LaidW.below hL bqs); rintro _ w20 ⟨rfl, hb⟩; refine ⟨_, rfl, ?_⟩; replace HO887 := fR HO887 hb; replace HB := fB HB hb; clear hb) | ((with_reducible refine gc_ 43 rfl ?_); refine gL 64 Tryz.func43 (rAAdd.calls k a0 t894 t898 t899 _ ?side1 A10.out) ?_; (case side1 => exact LaidW.below hL bqs); rintro _ w21 ⟨rfl, hb⟩; refine ⟨_, rfl, ?_⟩; replace HO887 := fR HO887 hb; replace HB := fB HB hb; clear hb) | ((with_reducible refine gc_ 46 rfl ?_); refine gL 70 Tryz.func46 (rASub.calls k t890 a1 t900 t901 _ ?side1 A11.out) ?_; (case side1 => exact LaidW.below hL bqs); rintro _ w22 ⟨rfl, hb⟩; refine ⟨_, rfl, ?_⟩; replace HO887 := fR HO887 hb; replace HB := fB HB hb; clear hb))
  (try simp only [Act.put, List.setIfInBounds_toArray, List.set_cons_zero, List.set_cons_succ])
  go_cut [99] (fun v99 wc => ∃ (kq : Nat) (x99_11 : Bool), v99 = .bool x99_11 ∧ Z0 (lWRationalField.j0 kq a0 a1 a2 t894 x99_11 = some r) ∧ Z0 (kq ≤ k) ∧ Z0 (Below w.heap.size w wc))
  case first =>
   have H := HC12.out
   clear HC12
   rcases je H with ⟨-, c23b0, c23b1, H⟩ | ⟨c23, c23b0, c23b1, H⟩
   ·(first | rw [c23b0] | (simp only [i64_w, i32_w]; rw [c23b0]) | skip)
    rcases je H with ⟨-, c24b0, c24b1, H⟩ | ⟨c24, c24b0, c24b1, H⟩
    ·rcases je H with ⟨-, c25b0, c25b1, H⟩ | ⟨c25, c25b0, c25b1, H⟩
     ·have H' := Z0.mk H
      clear H
      go_wp2
      go_meet
      case rel => exact ⟨_, ((t900.toList != a0.toList)), fs, H', ⟨by first | omega | exact Nat.le_refl _⟩, ⟨bqs⟩⟩
     have H' := Z0.mk H
     clear H
     go_wp2
     go_meet
     case rel => exact ⟨_, (true), fs, H', ⟨by first | omega | exact Nat.le_refl _⟩, ⟨bqs⟩⟩
    have H' := Z0.mk H
    clear H
    go_wp2
    go_meet
    case rel => exact ⟨_, (true), fs, H', ⟨by first | omega | exact Nat.le_refl _⟩, ⟨bqs⟩⟩
   (first | rw [c23b0] | (simp only [i64_w, i32_w]; rw [c23b0]) | skip)
   have H' := Z0.mk H
   clear H
   go_wp2
   go_meet
   case rel => exact ⟨_, (true), fs, H', ⟨by first | omega | exact Nat.le_refl _⟩, ⟨bqs⟩⟩
  case rest =>
   clear HC12
   try clear c1
   try clear c2
   try clear p2
   try clear c3
   try clear c4
   try clear c5
   try clear p6
   try clear c10
   try clear c23
   try clear c23b0
   try clear c23b1
   try clear c24
   try clear c24b0
   try clear c24b1
   try clear c25
   try clear c25b0
   try clear c25b1
   obtain ⟨kq, x99_11, rfl, HA, HJ11, HB⟩ := hcut
   cases kq with
   | zero => exact absurd HA.out (by simp [lWRationalField.j0])
   | succ kj11 =>
    have H := HA.out
    clear HA
    simp only [lWRationalField.j0] at H
    by_cases c26 : x99_11 = true
    ·subst c26
     have H1 : (some false) = some r := by rw [if_pos rfl] at H; exact H
     clear H
     have H := H1
     clear H1
     obtain rfl := Option.some.inj H
     go_wp2
     go_ret
     exact finE
    replace c26 := Bool.eq_false_iff.mpr c26
    subst c26
    have H1 : ((rAMul.f kj11 a0 a1).bind fun bt902 => ((rAMul.f kj11 a1 a0).bind fun bt904 => ((rAMul.f kj11 a1 a2).bind fun bt906 => ((rAMul.f kj11 bt902.1 a2).bind fun bt908 => ((rAMul.f kj11 a0 bt906.1).bind fun bt910 => ((rAMul.f kj11 a0 t894).bind fun bt912 => ((rAMul.f kj11 a0 a2).bind fun bt914 => ((rAAdd.f kj11 bt902.1 bt914.1).bind fun bt916 => (if (wrap64 ((wrap64 ((wrap64 ((wrap64 ((wrap64 ((wrap64 ((wrap64 (bt902.2 + bt904.2)) + bt906.2)) + bt908.2)) + bt910.2)) + bt912.2)) + bt914.2)) + bt916.2)) = 0 then (if bt902.1.toList = bt904.1.toList then (if bt908.1.toList = bt910.1.toList then (lWRationalField.j1 kj11 a0 a1 bt902.1 (bt912.1.toList != bt916.1.toList)) else (lWRationalField.j1 kj11 a0 a1 bt902.1 true)) else (lWRationalField.j1 kj11 a0 a1 bt902.1 true)) else (lWRationalField.j1 kj11 a0 a1 bt902.1 true)))))))))) = some r := by rw [if_neg (show ¬ (false = true) by decide)] at H; exact H
    clear H
    have H := H1
    clear H1
    obtain ⟨⟨t902, t903⟩, A27, H⟩ := bnd H
    try dsimp only at H
    obtain ⟨⟨t904, t905⟩, A28, H⟩ := bnd H
    try dsimp only at H
    obtain ⟨⟨t906, t907⟩, A29, H⟩ := bnd H
    try dsimp only at H
    obtain ⟨⟨t908, t909⟩, A30, H⟩ := bnd H
    try dsimp only at H
    obtain ⟨⟨t910, t911⟩, A31, H⟩ := bnd H
    try dsimp only at H
    obtain ⟨⟨t912, t913⟩, A32, H⟩ := bnd H
    try dsimp only at H
    obtain ⟨⟨t914, t915⟩, A33, H⟩ := bnd H
    try dsimp only at H
    obtain ⟨⟨t916, t917⟩, A34, H⟩ := bnd H
    try dsimp only at H
    have HC35 := Z0.mk H
    clear H
    go_upto_region 19 with (first | ((with_reducible refine gc_ 41 rfl ?_); refine goB (some 103) Tryz.func41 #[.string a0, .string a1] bq (rAMul.calls kj11 a0 a1 t902 t903 _ (hL.below bq) A27.out) ?_; clear HB; intro w36 HB) | ((with_reducible refine gc_ 41 rfl ?_); refine goB (some 109) Tryz.func41 #[.string a1, .string a0] bq (rAMul.calls kj11 a1 a0 t904 t905 _ (hL.below bq) A28.out) ?_; clear HB; intro w37 HB) | ((with_reducible refine gc_ 41 rfl ?_); refine goB (some 115) Tryz.func41 #[.string a1, .string a2] bq (rAMul.calls kj11 a1 a2 t906 t907 _ (hL.below bq) A29.out) ?_; clear HB; intro w38 HB) | ((with_reducible refine gc_ 41 rfl ?_); refine goB (some 121) Tryz.func41 #[.string t902, .string a2] bq (rAMul.calls kj11 t902 a2 t908 t909 _ (hL.below bq) A30.out) ?_; clear HB; intro w39 HB) | ((with_reducible refine gc_ 41 rfl ?_); refine goB (some 127) Tryz.func41 #[.string a0, .string t906] bq (rAMul.calls kj11 a0 t906 t910 t911 _ (hL.below bq) A31.out) ?_; clear HB; intro w40 HB) | ((with_reducible refine gc_ 41 rfl ?_); refine goB (some 133) Tryz.func41 #[.string a0, .string t894] bq (rAMul.calls kj11 a0 t894 t912 t913 _ (hL.below bq) A32.out) ?_; clear HB; intro w41 HB) | ((with_reducible refine gc_ 41 rfl ?_); refine goB (some 139) Tryz.func41 #[.string a0, .string a2] bq (rAMul.calls kj11 a0 a2 t914 t915 _ (hL.below bq) A33.out) ?_; clear HB; intro w42 HB) | ((with_reducible refine gc_ 43 rfl ?_); refine goB (some 145) Tryz.func43 #[.string t902, .string t914] bq (rAAdd.calls kj11 t902 t914 t916 t917 _ (hL.below bq) A34.out) ?_; clear HB; intro w43 HB))
    (try simp only [Act.put, List.setIfInBounds_toArray, List.set_cons_zero, List.set_cons_succ])
    go_cut [178] (fun v178 wc => ∃ (kq : Nat) (x178_34 : Bool), v178 = .bool x178_34 ∧ Z0 (lWRationalField.j1 kq a0 a1 t902 x178_34 = some r) ∧ Z0 (kq ≤ kj11) ∧ Z0 (Below w.heap.size w wc))
    case first =>
     have H := HC35.out
     clear HC35
     rcases je H with ⟨-, c44b0, c44b1, H⟩ | ⟨c44, c44b0, c44b1, H⟩
     ·(first | rw [c44b0] | (simp only [i64_w, i32_w]; rw [c44b0]) | skip)
      rcases je H with ⟨-, c45b0, c45b1, H⟩ | ⟨c45, c45b0, c45b1, H⟩
      ·rcases je H with ⟨-, c46b0, c46b1, H⟩ | ⟨c46, c46b0, c46b1, H⟩
       ·have H' := Z0.mk H
        clear H
        go_wp2
        go_meet
        case rel => exact ⟨_, ((t912.toList != t916.toList)), fs, H', ⟨by have := HJ11.out; first | omega | exact Nat.le_refl _⟩, ⟨bqs⟩⟩
       have H' := Z0.mk H
       clear H
       go_wp2
       go_meet
       case rel => exact ⟨_, (true), fs, H', ⟨by have := HJ11.out; first | omega | exact Nat.le_refl _⟩, ⟨bqs⟩⟩
      have H' := Z0.mk H
      clear H
      go_wp2
      go_meet
      case rel => exact ⟨_, (true), fs, H', ⟨by have := HJ11.out; first | omega | exact Nat.le_refl _⟩, ⟨bqs⟩⟩
     (first | rw [c44b0] | (simp only [i64_w, i32_w]; rw [c44b0]) | skip)
     have H' := Z0.mk H
     clear H
     go_wp2
     go_meet
     case rel => exact ⟨_, (true), fs, H', ⟨by have := HJ11.out; first | omega | exact Nat.le_refl _⟩, ⟨bqs⟩⟩
    case rest =>
     clear HC35
     try clear c1
     try clear c2
     try clear p2
     try clear c3
     try clear c4
     try clear c5
     try clear p6
     try clear c10
     try clear c23
     try clear c23b0
     try clear c23b1
     try clear c24
     try clear c24b0
     try clear c24b1
     try clear c25
     try clear c25b0
     try clear c25b1
     try clear c26
     try clear c32
     try clear c41
     try clear c43
     try clear c44
     try clear c44b0
     try clear c44b1
     try clear c45
     try clear c45b0
     try clear c45b1
     try clear c46
     try clear c46b0
     try clear c46b1
     try clear p2
     try clear p6
     obtain ⟨kq, x178_34, rfl, HA, HJ34, HB⟩ := hcut
     cases kq with
     | zero => exact absurd HA.out (by simp [lWRationalField.j1])
     | succ kj34 =>
      have H := HA.out
      clear HA
      simp only [lWRationalField.j1] at H
      by_cases c47 : x178_34 = true
      ·subst c47
       have H1 : (some false) = some r := by rw [if_pos rfl] at H; exact H
       clear H
       have H := H1
       clear H1
       obtain rfl := Option.some.inj H
       go_wp2
       go_ret
       exact finE
      replace c47 := Bool.eq_false_iff.mpr c47
      subst c47
      have H1 : ((rADiv.f kj34 t902 a1).bind fun bt918 => (if a1.toList = ([48] : List UInt8) then (if bt918.2 = 19 then ((lWawake.f kj34).bind fun t920 => (some t920)) else (some false)) else ((rANeg.f kj34 a0).bind fun bt921 => ((rAAdd.f kj34 a0 bt921.1).bind fun bt923 => (if (wrap64 ((wrap64 (bt918.2 + bt921.2)) + bt923.2)) = 0 then (if bt918.1.toList = a0.toList then (if bt923.1.toList = ([48] : List UInt8) then ((lWawake.f kj34).bind fun t925 => (some t925)) else (some false)) else (some false)) else (some false)))))) = some r := by rw [if_neg (show ¬ (false = true) by decide)] at H; exact H
      clear H
      have H := H1
      clear H1
      obtain ⟨⟨t918, t919⟩, A48, H⟩ := bnd H
      try dsimp only at H
      rcases je H with ⟨-, c49b0, c49b1, H⟩ | ⟨c49, c49b0, c49b1, H⟩
      ·rcases je H with ⟨-, c50b0, c50b1, H⟩ | ⟨c50, c50b0, c50b1, H⟩
       ·obtain ⟨t920, A51, H⟩ := bnd H
        obtain rfl := Option.some.inj H
        go_wp2_with (first | ((with_reducible refine gc_ 48 rfl ?_); refine goB (some 182) Tryz.func48 #[.string t902, .string a1] bq (rADiv.calls kj34 t902 a1 t918 t919 _ (hL.below bq) A48.out) ?_; clear HB; intro w52 HB) | (go_at_call 17; (with_reducible refine (lWawake.calls kj34  t920 _ ?side1 A51.out).mono ?_); (case side1 => exact LaidW.below hL bqs); rintro e w53 ⟨rfl, hb⟩; replace HB := fB HB hb; clear hb))
        go_ret
        exact finE
       obtain rfl := Option.some.inj H
       go_wp2_with (first | ((with_reducible refine gc_ 48 rfl ?_); refine goB (some 182) Tryz.func48 #[.string t902, .string a1] bq (rADiv.calls kj34 t902 a1 t918 t919 _ (hL.below bq) A48.out) ?_; clear HB; intro w54 HB))
       go_ret
       exact finE
      obtain ⟨⟨t921, t922⟩, A55, H⟩ := bnd H
      try dsimp only at H
      obtain ⟨⟨t923, t924⟩, A56, H⟩ := bnd H
      try dsimp only at H
      rcases je H with ⟨-, c57b0, c57b1, H⟩ | ⟨c57, c57b0, c57b1, H⟩
      ·rcases je H with ⟨-, c58b0, c58b1, H⟩ | ⟨c58, c58b0, c58b1, H⟩
       ·rcases je H with ⟨-, c59b0, c59b1, H⟩ | ⟨c59, c59b0, c59b1, H⟩
        ·obtain ⟨t925, A60, H⟩ := bnd H
         obtain rfl := Option.some.inj H
         go_wp2_with (first | ((with_reducible refine gc_ 48 rfl ?_); refine goB (some 182) Tryz.func48 #[.string t902, .string a1] bq (rADiv.calls kj34 t902 a1 t918 t919 _ (hL.below bq) A48.out) ?_; clear HB; intro w61 HB) | ((with_reducible refine gc_ 20 rfl ?_); refine goB (some 194) Tryz.func20 #[.string a0] bq (rANeg.calls kj34 a0 t921 t922 _ (hL.below bq) A55.out) ?_; clear HB; intro w62 HB) | ((with_reducible refine gc_ 43 rfl ?_); refine goB (some 200) Tryz.func43 #[.string a0, .string t921] bq (rAAdd.calls kj34 a0 t921 t923 t924 _ (hL.below bq) A56.out) ?_; clear HB; intro w63 HB) | (go_at_call 17; (with_reducible refine (lWawake.calls kj34  t925 _ ?side1 A60.out).mono ?_); (case side1 => exact LaidW.below hL bqs); rintro e w64 ⟨rfl, hb⟩; replace HB := fB HB hb; clear hb))
         go_ret
         exact finE
        obtain rfl := Option.some.inj H
        go_wp2_with (first | ((with_reducible refine gc_ 48 rfl ?_); refine goB (some 182) Tryz.func48 #[.string t902, .string a1] bq (rADiv.calls kj34 t902 a1 t918 t919 _ (hL.below bq) A48.out) ?_; clear HB; intro w65 HB) | ((with_reducible refine gc_ 20 rfl ?_); refine goB (some 194) Tryz.func20 #[.string a0] bq (rANeg.calls kj34 a0 t921 t922 _ (hL.below bq) A55.out) ?_; clear HB; intro w66 HB) | ((with_reducible refine gc_ 43 rfl ?_); refine goB (some 200) Tryz.func43 #[.string a0, .string t921] bq (rAAdd.calls kj34 a0 t921 t923 t924 _ (hL.below bq) A56.out) ?_; clear HB; intro w67 HB))
        go_ret
        exact finE
       obtain rfl := Option.some.inj H
       go_wp2_with (first | ((with_reducible refine gc_ 48 rfl ?_); refine goB (some 182) Tryz.func48 #[.string t902, .string a1] bq (rADiv.calls kj34 t902 a1 t918 t919 _ (hL.below bq) A48.out) ?_; clear HB; intro w68 HB) | ((with_reducible refine gc_ 20 rfl ?_); refine goB (some 194) Tryz.func20 #[.string a0] bq (rANeg.calls kj34 a0 t921 t922 _ (hL.below bq) A55.out) ?_; clear HB; intro w69 HB) | ((with_reducible refine gc_ 43 rfl ?_); refine goB (some 200) Tryz.func43 #[.string a0, .string t921] bq (rAAdd.calls kj34 a0 t921 t923 t924 _ (hL.below bq) A56.out) ?_; clear HB; intro w70 HB))
       go_ret
       exact finE
      obtain rfl := Option.some.inj H
      go_wp2_with (first | ((with_reducible refine gc_ 48 rfl ?_); refine goB (some 182) Tryz.func48 #[.string t902, .string a1] bq (rADiv.calls kj34 t902 a1 t918 t919 _ (hL.below bq) A48.out) ?_; clear HB; intro w71 HB) | ((with_reducible refine gc_ 20 rfl ?_); refine goB (some 194) Tryz.func20 #[.string a0] bq (rANeg.calls kj34 a0 t921 t922 _ (hL.below bq) A55.out) ?_; clear HB; intro w72 HB) | ((with_reducible refine gc_ 43 rfl ?_); refine goB (some 200) Tryz.func43 #[.string a0, .string t921] bq (rAAdd.calls kj34 a0 t921 t923 t924 _ (hL.below bq) A56.out) ?_; clear HB; intro w73 HB))
      go_ret
      exact finE
 replace c5 := Bool.eq_false_iff.mpr c5
 subst c5
 have H1 : ((lWawake.f k).bind fun t889 => (some t889)) = some r := by rw [if_neg (show ¬ (false = true) by decide)] at H; exact H
 clear H
 have H := H1
 clear H1
 obtain ⟨t889, A74, H⟩ := bnd H
 obtain rfl := Option.some.inj H
 go_enter Tryz.func10, Tryz.ntmps10
 go_wp2_with (first | ((with_reducible refine gd_ 33 rfl ?_); refine Kd.R_lit Kd.string _ 22 ?hg (N := 33) ?hd (xs := ([a0, a1, a2] : List ByteArray)) (inner := [.string a0, .string a1, .string a2]) (ok := fun _ => True) (okp := fun _ => True) ?hr ?hp (fun _ hk => hk) trivial (Below.refl _ _) (Nat.le_refl _) (by simp) ?_; (case hd => rfl); (case hg => rfl); (case hr => first | (go_simp; done) | (go_simp; rfl)); (case hp => exact (Reps.one (show Kd.M Kd.string _ _ _ a0 [.string a0] from rfl) (Reps.one (show Kd.M Kd.string _ _ _ a1 [.string a1] from rfl) (Reps.one (show Kd.M Kd.string _ _ _ a2 [.string a2] from rfl) (Reps.none _ _))))); intro v886 w75 ho76 hb hg_ hnew_; clear hg_ hnew_; (first | rw [← Ny885.out] at ho76 | (simp only [Int.reduceToNat] at ho76; rw [← Ny885.out] at ho76)); have HO887 := Z0.mk (Kd.R_lower ho76 (below_size bqs)); replace HB := fB HB hb; clear hb ho76; obtain ⟨Ao77, co77, eo77⟩ := Kd.R_slice HO887.out; subst eo77) | ((with_reducible refine gc_ 32 rfl ?_); refine gL 34 Tryz.func32 (lWright.calls k _ _ y885 false _ ?side1 ?side2 A4.out) ?_; (case side1 => exact cq (Kd.R_reads' HO887.out).2.2); (case side2 => exact (Kd.R_reads' HO887.out).2.1); rintro _ w78 ⟨rfl, hb⟩; refine ⟨_, rfl, ?_⟩; replace HO887 := fR HO887 hb; replace HB := fB HB hb; clear hb) | ((with_reducible refine gc_ 17 rfl ?_); refine gL 36 Tryz.func17 (lWawake.calls k  t889 _ ?side1 A74.out) ?_; (case side1 => exact LaidW.below hL bqs); rintro _ w79 ⟨rfl, hb⟩; refine ⟨_, rfl, ?_⟩; replace HO887 := fR HO887 hb; replace HB := fB HB hb; clear hb))
 go_ret
 exact finE
end Go.Proofs.YthnfajboebaajaaGreatDoor.PA
namespace Go.Proofs.YthnfajboebaajaaGreatDoor.Rb
open Go.ChangeShapes Go.WideShapes Go.ChangeAt Go.RowKit
theorem and_ {a b : Bool} (h : a = true) (k : b = true) : (a && b) = true := by rw [h, k]; rfl
theorem own : ownKnob Tryz.prog.godebug = none := by kernel_rfl
abbrev laid : List (String × DataW Unit) := Rows.rationalMakesRow.laid
theorem shaped (os : Os) (args : Array Value) : ((World.laidAll Tryz.prog os laid).forCall (fun _ _ => 0) ⟨#[], args, []⟩).Shaped Tryz.checked.prog := World.shaped_of_ZipB (by kernel_rfl) (by kernel_rfl)
theorem met (os : Os) (args : Array Value) : laidMetH Tryz.prog laid ((World.laidAll Tryz.prog os laid).forCall (fun _ _ => 0) ⟨#[], args, []⟩).memory := by
 rw [MakeChecks.laidMetH_plain _ _ _ (by kernel_rfl)]
 exact laidMet_laidAll _ (by kernel_rfl) (by kernel_rfl)
theorem gPow : Tryz.prog.globalNamed "internal/strconv.uint64pow10" = some 1 := by kernel_rfl
theorem tPow : (Tryz.prog.globals[1]?).map (·.type) = some 206 := by kernel_rfl
theorem dPow : (Rows.laid_internal_strconv_uint64pow10 : DataW Unit) = Lib.tabData .u64 Lib.pow10Tab := rfl
theorem of_laid {W : World} (h : laidMetH Tryz.prog laid W) : LaidW W := by
 rw [MakeChecks.laidMetH_plain _ _ _ (by kernel_rfl)] at h
 obtain ⟨_, ⟨_, _, _, _, _, _, _, _, _, _, ⟨_, _, _, _, _, _, _, _, _, _, ⟨g', t', cs, fuel, p, q, hg', ht', hvar, hd, _⟩, _⟩, _⟩, _⟩ := h
 obtain rfl := Option.some.inj (gPow.symm.trans hg')
 obtain rfl := Option.some.inj (tPow.symm.trans ht')
 unfold LaidW Lib.TabIs
 rw [hvar, ← Lib.cells_of_tab Tryz.underlying206 Tryz.underlying182 (by kernel_rfl) (by kernel_rfl) (dPow ▸ hd)]
end Go.Proofs.YthnfajboebaajaaGreatDoor.Rb
