import Derived.Test.YthnfajboebaajaaGreatDoorAG1
import Derived.Test.YthnfajboebaajaaGreatDoorAD
import Derived.Test.YthnfajboebaajaaGreatDoorAG9
import Derived.Test.YthnfajboebaajaaGreatDoorAG10
import Derived.Test.YthnfajboebaajaaGreatDoorAG3
import Derived.Test.YthnfajboebaajaaGreatDoorAG7
import Derived.Test.YthnfajboebaajaaGreatDoorAG8
import Derived.Test.YthnfajboebaajaaGreatDoorRows
import Derived.ProofKit
import Derived.OpenShut
import Derived.Lay
import Derived.LaidOnce
import Derived.SevenTiedAt
set_option maxHeartbeats 8000000
set_option maxRecDepth 100000
set_option linter.unusedVariables false
namespace Go.Proofs.YthnfajboebaajaaGreatDoor.PA
open Go.RowKit Go.Proofs.WWords Go.Proofs.WLast Go.Proofs.WMore
attribute [local go_sem] max2_int min2_int max_two min_two max_three min_three max_four min_four
set_option linter.unusedVariables false
set_option linter.unusedSimpArgs false
theorem rESign.calls (a0 : ByteArray) (r : Int) (w : World) (h : rESign.f a0 = some r) :
  Calls Tryz.prog 122 #[.string a0] w fun e w' => e = .returned (.int .i64 r) ∧ Drawn0 w w' := by
 have H := h
 clear h
 unfold rESign.f at H
 rcases je H with ⟨-, c2b0, c2b1, H⟩ | ⟨c2, c2b0, c2b1, H⟩
 ·obtain rfl := Option.some.inj H
  go_enter Tryz.func122, Tryz.ntmps122
  go_wp2
  go_ret
  exact finD
 obtain ⟨t443, A3, H⟩ := bnd H
 by_cases c4 : t443 = true
 ·subst c4
  have H1 : (some (-1)) = some r := by rw [if_pos rfl] at H; exact H
  clear H
  have H := H1
  clear H1
  obtain rfl := Option.some.inj H
  go_enter Tryz.func122, Tryz.ntmps122
  go_wp2_with (first | ((with_reducible refine gc_ 126 rfl ?_); refine goD (some 6) Tryz.func126 #[.string a0] (rENegative.calls a0 true _ A3.out) ?_; intro nd))
  go_ret
  exact finD
 replace c4 := Bool.eq_false_iff.mpr c4
 subst c4
 have H1 : (some 1) = some r := by rw [if_neg (show ¬ (false = true) by decide)] at H; exact H
 clear H
 have H := H1
 clear H1
 obtain rfl := Option.some.inj H
 go_enter Tryz.func122, Tryz.ntmps122
 go_wp2_with (first | ((with_reducible refine gc_ 126 rfl ?_); refine goD (some 6) Tryz.func126 #[.string a0] (rENegative.calls a0 false _ A3.out) ?_; intro nd))
 go_ret
 exact finD
theorem rEOrder.calls (k : Nat) (a0 : ByteArray) (a1 : ByteArray) (r : Int) (w : World) (h : rEOrder.f k a0 a1 = some r) :
  Calls Tryz.prog 102 #[.string a0, .string a1] w fun e w' => e = .returned (.int .i64 r) ∧ Below w.heap.size w w' := by
 have HB := Z0.mk (Below.refl w.heap.size w)
 have H := h
 clear h
 unfold rEOrder.f at H
 obtain ⟨t462, A3, H⟩ := bnd H
 obtain ⟨t463, A4, H⟩ := bnd H
 rcases je H with ⟨-, c5b0, c5b1, H⟩ | ⟨c5, c5b0, c5b1, H⟩
 ·obtain ⟨t464, A6, H⟩ := bnd H
  obtain ⟨t467, A7, H⟩ := bnd H
  obtain ⟨t470, A8, H⟩ := bnd H
  obtain ⟨t473, A9, H⟩ := bnd H
  obtain ⟨t476, A10, H⟩ := bnd H
  obtain rfl := Option.some.inj H
  go_enter Tryz.func102, Tryz.ntmps102
  go_wp2_with (first | ((with_reducible refine gc_ 122 rfl ?_); refine goD (some 8) Tryz.func122 #[.string a0] (rESign.calls a0 t462 _ A3.out) ?_; intro nd) | ((with_reducible refine gc_ 122 rfl ?_); refine goD (some 10) Tryz.func122 #[.string a1] (rESign.calls a1 t463 _ A4.out) ?_; intro nd) | ((with_reducible refine gc_ 138 rfl ?_); refine gL 19 Tryz.func138 (rEdigits.calls _ _ _ _ A6.out) ?_; rintro _ w11 ⟨v465, rfl, ho0, hb⟩; refine ⟨_, rfl, ?_⟩; have HO466 := fN ho0; replace HB := fB HB hb; clear hb ho0; obtain ⟨Ao12, co12, eo12⟩ := Kd.R_slice HO466.out; subst eo12) | ((with_reducible refine gc_ 142 rfl ?_); refine gL 20 Tryz.func142 (rEcut.calls k (fun k_ => some k_ = (.slice Ao12 t464.length co12 : Value).ownBlock) _ _ t464 t467 _ ?side1 A7.out) ?_; (case side1 => exact Kd.R_V (Kd.R_tight rfl (HO466.out))); rintro _ w13 ⟨v468, rfl, ho0, hb⟩; refine ⟨_, rfl, ?_⟩; have HO469 := Z0.mk (Kd.V_lower (Kd.V_mono (ok' := fun k_ => True) ho0 (fun k_ hk_ => trivial)) (below_size bqs)); replace HO466 := fR HO466 hb; replace HB := fB HB hb; clear hb ho0) | ((with_reducible refine gc_ 138 rfl ?_); refine gL 22 Tryz.func138 (rEdigits.calls _ _ _ _ A8.out) ?_; rintro _ w14 ⟨v471, rfl, ho0, hb⟩; refine ⟨_, rfl, ?_⟩; have HO472 := Z0.mk (Kd.R_lower (Kd.R_new' ho0 (Kd.R_lt (rq HO466))) (below_size bqs)); replace HO466 := Z0.mk (Kd.R_elder' (rq HO466) (Kd.R_base ho0) hb); replace HO469 := Z0.mk (Kd.V_elder' (vq HO469) (Kd.R_base ho0) hb); replace HB := fB HB hb; clear hb ho0; obtain ⟨Ao15, co15, eo15⟩ := Kd.R_slice HO472.out; subst eo15) | ((with_reducible refine gc_ 142 rfl ?_); refine gL 23 Tryz.func142 (rEcut.calls k (fun k_ => some k_ = (.slice Ao15 t470.length co15 : Value).ownBlock) _ _ t470 t473 _ ?side1 A9.out) ?_; (case side1 => exact Kd.R_V (Kd.R_tight rfl (HO472.out))); rintro _ w16 ⟨v474, rfl, ho0, hb⟩; refine ⟨_, rfl, ?_⟩; have HO475 := Z0.mk (Kd.V_lower (Kd.V_mono (ok' := fun k_ => some k_ ≠ (.slice Ao12 t464.length co12 : Value).ownBlock) ho0 (fun k_ hk_ => Or.elim hk_ (fun hs_ => ((HO472.out).1 k_ hs_.symm).2) (fun hn_ => (Kd.fresh' (Kd.R_lt (rq HO466)) k_ hn_)))) (below_size bqs)); replace HO466 := fR HO466 hb; replace HO469 := fV HO469 hb; replace HO472 := fR HO472 hb; replace HB := fB HB hb; clear hb ho0; obtain ⟨Ao17, co17, eo17⟩ := Kd.V_slice HO469.out; subst eo17; obtain ⟨Ao18, co18, eo18⟩ := Kd.V_slice HO475.out; subst eo18) | ((with_reducible refine gc_ 141 rfl ?_); refine goesL_ (some 24) rfl rfl Tryz.func141 (by kernel_rfl) rfl #[.slice Ao17 t467.length co17, .slice Ao18 t473.length co18] rfl (by (try simp only [List.map_toArray, List.map_cons, List.map_nil]); first | done | rfl | (simp only [List.length_drop, List.length_take]; rfl)) ?_; (with_reducible refine (rEorder.calls k _ _ t467 _ _ t473 t476 _ ?side1 ?side2 ?side3 ?side4 A10.out).mono ?_); (case side1 => exact cq (Kd.V_reads' HO469.out).2.2); (case side2 => exact (Kd.V_reads' HO469.out).2.1); (case side3 => exact cq (Kd.V_reads' HO475.out).2.2); (case side4 => exact (Kd.V_reads' HO475.out).2.1); rintro e w' ⟨rfl, ⟨nd, rfl⟩⟩; refine ⟨_, rfl, ?_⟩))
  go_ret
  exact finE
 rcases jd H with ⟨-, c19b0, H⟩ | ⟨-, c19b0, H⟩
 ·obtain rfl := Option.some.inj H
  go_enter Tryz.func102, Tryz.ntmps102
  go_wp2_with (first | ((with_reducible refine gc_ 122 rfl ?_); refine goD (some 8) Tryz.func122 #[.string a0] (rESign.calls a0 t462 _ A3.out) ?_; intro nd) | ((with_reducible refine gc_ 122 rfl ?_); refine goD (some 10) Tryz.func122 #[.string a1] (rESign.calls a1 t463 _ A4.out) ?_; intro nd))
  go_ret
  exact finE
 obtain rfl := Option.some.inj H
 go_enter Tryz.func102, Tryz.ntmps102
 go_wp2_with (first | ((with_reducible refine gc_ 122 rfl ?_); refine goD (some 8) Tryz.func122 #[.string a0] (rESign.calls a0 t462 _ A3.out) ?_; intro nd) | ((with_reducible refine gc_ 122 rfl ?_); refine goD (some 10) Tryz.func122 #[.string a1] (rESign.calls a1 t463 _ A4.out) ?_; intro nd))
 go_ret
 exact finE
theorem rFformed.calls (k : Nat) (a0 : ByteArray) (r : Bool) (w : World) (h : rFformed.f k a0 = some r) :
  Calls Tryz.prog 81 #[.string a0] w fun e w' => e = .returned (.bool r) ∧ Below w.heap.size w w' := by
 have HB := Z0.mk (Below.refl w.heap.size w)
 have H := h
 clear h
 unfold rFformed.f at H
 obtain ⟨t641, A2, H⟩ := bnd H
 obtain ⟨t642, A3, H⟩ := bnd H
 have HC4 := Z0.mk H
 clear H
 go_enter Tryz.func81, Tryz.ntmps81
 go_upto_region 2 with (first | ((with_reducible refine gc_ 72 rfl ?_); refine goD (some 7) Tryz.func72 #[.string a0] (rFTop.calls k a0 t641 _ A2.out) ?_; intro nd) | ((with_reducible refine gc_ 36 rfl ?_); refine goD (some 8) Tryz.func36 #[.string t641] (rECheck.calls k t641 t642 _ A3.out) ?_; intro nd))
 (try simp only [Act.put, List.setIfInBounds_toArray, List.set_cons_zero, List.set_cons_succ])
 go_cut [14] (fun v14 wc => ∃ (kq : Nat) (x14_3 : Bool), v14 = .bool x14_3 ∧ Z0 (rFformed.j0 kq a0 x14_3 = some r) ∧ Z0 (kq ≤ k) ∧ Z0 (Below w.heap.size w wc))
 case first =>
  have H := HC4.out
  clear HC4
  rcases je H with ⟨-, c5b0, c5b1, H⟩ | ⟨c5, c5b0, c5b1, H⟩
  ·(first | rw [c5b0] | (simp only [i64_w, i32_w]; rw [c5b0]) | skip)
   have H' := Z0.mk H
   clear H
   go_wp2
   go_meet
   case rel => exact ⟨_, (false), fs, H', ⟨by first | omega | exact Nat.le_refl _⟩, ⟨bqs⟩⟩
  (first | rw [c5b0] | (simp only [i64_w, i32_w]; rw [c5b0]) | skip)
  have H' := Z0.mk H
  clear H
  go_wp2
  go_meet
  case rel => exact ⟨_, ((t642 != 10)), fs, H', ⟨by first | omega | exact Nat.le_refl _⟩, ⟨bqs⟩⟩
 case rest =>
  clear HC4
  try clear p2
  try clear c3
  try clear c5
  try clear c5b0
  try clear c5b1
  obtain ⟨kq, x14_3, rfl, HA, HJ3, HB⟩ := hcut
  cases kq with
  | zero => exact absurd HA.out (by simp [rFformed.j0])
  | succ kj3 =>
   have H := HA.out
   clear HA
   simp only [rFformed.j0] at H
   by_cases c6 : x14_3 = true
   ·subst c6
    have H1 : (some false) = some r := by rw [if_pos rfl] at H; exact H
    clear H
    have H := H1
    clear H1
    obtain rfl := Option.some.inj H
    go_wp2
    go_ret
    exact finE
   replace c6 := Bool.eq_false_iff.mpr c6
   subst c6
   have H1 : ((rFslash.f kj3 a0).bind fun t643 => (if t643 < 0 then (some true) else ((rFBottom.f kj3 a0).bind fun t644 => ((rECheck.f kj3 t644).bind fun t645 => (if t645 = 0 then (rFformed.j1 kj3 a0 t644 false) else (rFformed.j1 kj3 a0 t644 (t645 != 10))))))) = some r := by rw [if_neg (show ¬ (false = true) by decide)] at H; exact H
   clear H
   have H := H1
   clear H1
   obtain ⟨t643, A7, H⟩ := bnd H
   rcases jd H with ⟨-, c8b0, H⟩ | ⟨-, c8b0, H⟩
   ·obtain rfl := Option.some.inj H
    go_wp2_with (first | ((with_reducible refine gc_ 113 rfl ?_); refine goD (some 16) Tryz.func113 #[.string a0] (rFslash.calls kj3 a0 t643 _ A7.out) ?_; intro nd))
    go_ret
    exact finE
   obtain ⟨t644, A9, H⟩ := bnd H
   obtain ⟨t645, A10, H⟩ := bnd H
   have HC11 := Z0.mk H
   clear H
   go_upto_region 8 with (first | ((with_reducible refine gc_ 113 rfl ?_); refine goD (some 16) Tryz.func113 #[.string a0] (rFslash.calls kj3 a0 t643 _ A7.out) ?_; intro nd) | ((with_reducible refine gc_ 73 rfl ?_); refine goD (some 19) Tryz.func73 #[.string a0] (rFBottom.calls kj3 a0 t644 _ A9.out) ?_; intro nd) | ((with_reducible refine gc_ 36 rfl ?_); refine goD (some 21) Tryz.func36 #[.string t644] (rECheck.calls kj3 t644 t645 _ A10.out) ?_; intro nd))
   (try simp only [Act.put, List.setIfInBounds_toArray, List.set_cons_zero, List.set_cons_succ])
   go_cut [27] (fun v27 wc => ∃ (kq : Nat) (x27_10 : Bool), v27 = .bool x27_10 ∧ Z0 (rFformed.j1 kq a0 t644 x27_10 = some r) ∧ Z0 (kq ≤ kj3) ∧ Z0 (Below w.heap.size w wc))
   case first =>
    have H := HC11.out
    clear HC11
    rcases je H with ⟨-, c12b0, c12b1, H⟩ | ⟨c12, c12b0, c12b1, H⟩
    ·(first | rw [c12b0] | (simp only [i64_w, i32_w]; rw [c12b0]) | skip)
     have H' := Z0.mk H
     clear H
     go_wp2
     go_meet
     case rel => exact ⟨_, (false), fs, H', ⟨by have := HJ3.out; first | omega | exact Nat.le_refl _⟩, ⟨bqs⟩⟩
    (first | rw [c12b0] | (simp only [i64_w, i32_w]; rw [c12b0]) | skip)
    have H' := Z0.mk H
    clear H
    go_wp2
    go_meet
    case rel => exact ⟨_, ((t645 != 10)), fs, H', ⟨by have := HJ3.out; first | omega | exact Nat.le_refl _⟩, ⟨bqs⟩⟩
   case rest =>
    clear HC11
    try clear c1
    try clear p2
    try clear c3
    try clear c5
    try clear c5b0
    try clear c5b1
    try clear c6
    try clear c7
    try clear c8
    try clear c8b0
    try clear c11
    try clear c12
    try clear c12b0
    try clear c12b1
    try clear p2
    obtain ⟨kq, x27_10, rfl, HA, HJ10, HB⟩ := hcut
    cases kq with
    | zero => exact absurd HA.out (by simp [rFformed.j1])
    | succ kj10 =>
     have H := HA.out
     clear HA
     simp only [rFformed.j1] at H
     by_cases c13 : x27_10 = true
     ·subst c13
      have H1 : (some false) = some r := by rw [if_pos rfl] at H; exact H
      clear H
      have H := H1
      clear H1
      obtain rfl := Option.some.inj H
      go_wp2
      go_ret
      exact finE
     replace c13 := Bool.eq_false_iff.mpr c13
     subst c13
     have H1 : ((rEOrder.f kj10 t644 (⟨#[49]⟩ : ByteArray)).bind fun t646 => (if t646 > 0 then ((rFTop.f kj10 a0).bind fun t647 => ((rECommon.f kj10 t647 t644).bind fun t648 => (some (t648.toList == ([49] : List UInt8))))) else (some false))) = some r := by rw [if_neg (show ¬ (false = true) by decide)] at H; exact H
     clear H
     have H := H1
     clear H1
     obtain ⟨t646, A14, H⟩ := bnd H
     rcases jg H with ⟨-, c15b0, H⟩ | ⟨-, c15b0, H⟩
     ·obtain ⟨t647, A16, H⟩ := bnd H
      obtain ⟨t648, A17, H⟩ := bnd H
      obtain rfl := Option.some.inj H
      go_wp2_with (first | ((with_reducible refine gc_ 102 rfl ?_); refine goB (some 29) Tryz.func102 #[.string t644, .string (⟨#[49]⟩ : ByteArray)] bq (rEOrder.calls kj10 t644 (⟨#[49]⟩ : ByteArray) t646 _ A14.out) ?_; clear HB; intro w18 HB) | (go_at_call 72; (with_reducible refine (rFTop.calls kj10 a0 t647 _ A16.out).mono ?_); rintro e w' ⟨rfl, ⟨nd, rfl⟩⟩) | (go_at_call 119; (with_reducible refine (rECommon.calls kj10 t647 t644 t648 _ A17.out).mono ?_); rintro e w19 ⟨rfl, hb⟩; replace HB := fB HB hb; clear hb))
      go_ret
      exact finE
     obtain rfl := Option.some.inj H
     go_wp2_with (first | ((with_reducible refine gc_ 102 rfl ?_); refine goB (some 29) Tryz.func102 #[.string t644, .string (⟨#[49]⟩ : ByteArray)] bq (rEOrder.calls kj10 t644 (⟨#[49]⟩ : ByteArray) t646 _ A14.out) ?_; clear HB; intro w20 HB))
     go_ret
     exact finE
theorem rFCheck.calls (k : Nat) (a0 : ByteArray) (r : Int) (w : World) (h : rFCheck.f k a0 = some r) :
  Calls Tryz.prog 29 #[.string a0] w fun e w' => e = .returned (.int .i64 r) ∧ Below w.heap.size w w' := by
 have HB := Z0.mk (Below.refl w.heap.size w)
 have H := h
 clear h
 unfold rFCheck.f at H
 obtain ⟨t653, A2, H⟩ := bnd H
 by_cases c3 : t653 = true
 ·subst c3
  have H1 : ((rFDigits.f k a0).bind fun t654 => (if t654 > 4096 then (some 10) else (some 0))) = some r := by rw [if_pos rfl] at H; exact H
  clear H
  have H := H1
  clear H1
  obtain ⟨t654, A4, H⟩ := bnd H
  rcases jg H with ⟨-, c5b0, H⟩ | ⟨-, c5b0, H⟩
  ·obtain rfl := Option.some.inj H
   go_enter Tryz.func29, Tryz.ntmps29
   go_wp2_with (first | ((with_reducible refine gc_ 81 rfl ?_); refine goB (some 4) Tryz.func81 #[.string a0] bq (rFformed.calls k a0 true _ A2.out) ?_; clear HB; intro w6 HB) | ((with_reducible refine gc_ 82 rfl ?_); refine goB (some 7) Tryz.func82 #[.string a0] bq (rFDigits.calls k a0 t654 _ A4.out) ?_; clear HB; intro w7 HB))
   go_ret
   exact finE
  obtain rfl := Option.some.inj H
  go_enter Tryz.func29, Tryz.ntmps29
  go_wp2_with (first | ((with_reducible refine gc_ 81 rfl ?_); refine goB (some 4) Tryz.func81 #[.string a0] bq (rFformed.calls k a0 true _ A2.out) ?_; clear HB; intro w8 HB) | ((with_reducible refine gc_ 82 rfl ?_); refine goB (some 7) Tryz.func82 #[.string a0] bq (rFDigits.calls k a0 t654 _ A4.out) ?_; clear HB; intro w9 HB))
  go_ret
  exact finE
 replace c3 := Bool.eq_false_iff.mpr c3
 subst c3
 have H1 : (some 3) = some r := by rw [if_neg (show ¬ (false = true) by decide)] at H; exact H
 clear H
 have H := H1
 clear H1
 obtain rfl := Option.some.inj H
 go_enter Tryz.func29, Tryz.ntmps29
 go_wp2_with (first | ((with_reducible refine gc_ 81 rfl ?_); refine goB (some 4) Tryz.func81 #[.string a0] bq (rFformed.calls k a0 false _ A2.out) ?_; clear HB; intro w10 HB))
 go_ret
 exact finE
theorem rFFew.calls (a0 : ByteArray) (r : Bool) (w : World) (h : rFFew.f a0 = some r) :
  Calls Tryz.prog 16 #[.string a0] w fun e w' => e = .returned (.bool r) ∧ Drawn0 w w' := by
 have H := h
 clear h
 unfold rFFew.f at H
 obtain rfl := Option.some.inj H
 go_enter Tryz.func16, Tryz.ntmps16
 go_wp2
 go_ret
 exact finD
theorem lWright.calls (k : Nat) (A0 : Option Addr) (c0 : Nat) (l0 : List ByteArray) (r : Bool) (w : World) (hr0 : Kd.C Kd.string w A0 l0.length l0) (hc0 : l0.length ≤ c0) (h : lWright.f k l0 = some r) :
  Calls Tryz.prog 32 #[.slice A0 l0.length c0] w fun e w' => e = .returned (.bool r) ∧ Below w.heap.size w w' := by
 have HR0 := Z0.mk hr0
 have HC0 := Z0.mk hc0
 clear hr0 hc0
 have HB := Z0.mk (Below.refl w.heap.size w)
 have H := h
 clear h
 unfold lWright.f at H
 have H' := Z0.mk H
 clear H
 go_enter Tryz.func32, Tryz.ntmps32
 go_wp2
 go_loopg [7] k (fun kq v7 w' => ∃ (x7_1 : Int), v7 = .int .i64 x7_1 ∧ Z0 (lWright.l0 kq l0 (l0.length : Int) x7_1 = some r) ∧ Z0 (kq ≤ k) ∧ Z0 (Below w.heap.size w w'))
 case atStart => exact ⟨(0), fs, H', ⟨Nat.le_refl _⟩, ⟨bqs⟩⟩
 case round =>
  clear H'
  obtain ⟨x7_1, rfl, HA, HK1, HB⟩ := hrel
  cases gk with
  | zero => exact absurd HA.out (by simp [lWright.l0])
  | succ k1 =>
   have H := HA.out
   clear HA
   simp only [lWright.l0] at H
   rcases jd H with ⟨-, c2b0, H⟩ | ⟨-, c2b0, H⟩
   ·obtain ⟨-, c3b0, H⟩ := gd H
    obtain ⟨-, c4b0, H⟩ := gd H
    obtain ⟨t718, A5, H⟩ := bnd H
    by_cases c6 : t718 = true
    ·subst c6
     have H1 : ((rFCheck.f k1 (rdOf ByteArray.empty l0 x7_1)).bind fun t719 => (if t719 = 0 then (lWright.l0 k1 l0 (l0.length : Int) (wrap64 (x7_1 + 1))) else (some false))) = some r := by rw [if_pos rfl] at H; exact H
     clear H
     have H := H1
     clear H1
     obtain ⟨t719, A7, H⟩ := bnd H
     rcases je H with ⟨-, c8b0, c8b1, H⟩ | ⟨c8, c8b0, c8b1, H⟩
     ·have H' := Z0.mk H
      clear H
      obtain ⟨ad717, e717, hx717_0, p717, q717⟩ := asB HB HR0.out x7_1
      cases e717
      go_wp2_with (first | ((with_reducible refine gc_ 16 rfl ?_); refine goD (some 12) Tryz.func16 #[.string (rdOf ByteArray.empty l0 x7_1)] (rFFew.calls (rdOf ByteArray.empty l0 x7_1) true _ A5.out) ?_; intro nd) | (go_at_call 29; (with_reducible refine (rFCheck.calls k1 (rdOf ByteArray.empty l0 x7_1) t719 _ A7.out).mono ?_); rintro e w9 ⟨rfl, hb⟩; replace HB := fB HB hb; clear hb))
      go_roundg k1
      case measure => have := HK1.out; omega
      case rel => exact ⟨(wrap64 (x7_1 + 1)), fs, H', ⟨by have := HK1.out; omega⟩, ⟨bqs⟩⟩
     obtain rfl := Option.some.inj H
     obtain ⟨ad717, e717, hx717_0, p717, q717⟩ := asB HB HR0.out x7_1
     cases e717
     go_wp2_with (first | ((with_reducible refine gc_ 16 rfl ?_); refine goD (some 12) Tryz.func16 #[.string (rdOf ByteArray.empty l0 x7_1)] (rFFew.calls (rdOf ByteArray.empty l0 x7_1) true _ A5.out) ?_; intro nd) | (go_at_call 29; (with_reducible refine (rFCheck.calls k1 (rdOf ByteArray.empty l0 x7_1) t719 _ A7.out).mono ?_); rintro e w10 ⟨rfl, hb⟩; replace HB := fB HB hb; clear hb))
     go_ret
     exact finE
    replace c6 := Bool.eq_false_iff.mpr c6
    subst c6
    have H1 : (some false) = some r := by rw [if_neg (show ¬ (false = true) by decide)] at H; exact H
    clear H
    have H := H1
    clear H1
    obtain rfl := Option.some.inj H
    obtain ⟨ad717, e717, hx717_0, p717, q717⟩ := asB HB HR0.out x7_1
    cases e717
    go_wp2_with (first | ((with_reducible refine gc_ 16 rfl ?_); refine goD (some 12) Tryz.func16 #[.string (rdOf ByteArray.empty l0 x7_1)] (rFFew.calls (rdOf ByteArray.empty l0 x7_1) false _ A5.out) ?_; intro nd))
    go_ret
    exact finE
   obtain rfl := Option.some.inj H
   go_wp2
   go_ret
   exact finE
theorem lWRationalRounds.calls (k : Nat) (a0 : ByteArray) (r : Bool) (w : World) (hL : LaidW w) (h : lWRationalRounds.f k a0 = some r) :
  Calls Tryz.prog 5 #[.string a0] w fun e w' => e = .returned (.bool r) ∧ Below w.heap.size w w' := by
 have HB := Z0.mk (Below.refl w.heap.size w)
 have H := h
 clear h
 unfold lWRationalRounds.f at H
 generalize hy720 : (([a0] : List ByteArray) : List ByteArray) = y720 at H
 have Ny720 := Z0.mk hy720.symm
 clear hy720
 obtain ⟨t723, A2, H⟩ := bnd H
 by_cases c3 : t723 = true
 ·subst c3
  have H1 : ((rAFloor.f k a0).bind fun bt725 => ((rACeil.f k a0).bind fun bt727 => ((bISub.f k bt727.1 bt725.1).bind fun bt729 => ((rACompare.f k bt725.1 a0).bind fun bt731 => ((rACompare.f k a0 bt727.1).bind fun bt733 => ((rANeg.f k a0).bind fun bt735 => ((rAFloor.f k bt735.1).bind fun bt737 => ((bINeg.f k bt727.1).bind fun bt739 => ((rADen.f k a0).bind fun bt741 => (if (wrap64 ((wrap64 ((wrap64 ((wrap64 ((wrap64 ((wrap64 ((wrap64 ((wrap64 (bt725.2 + bt727.2)) + bt729.2)) + bt731.2)) + bt733.2)) + bt735.2)) + bt737.2)) + bt739.2)) + bt741.2)) = 0 then (if bt731.1 > 0 then (lWRationalRounds.j0 k bt729.1 bt731.1 bt733.1 bt741.1 true) else (if bt733.1 > 0 then (lWRationalRounds.j0 k bt729.1 bt731.1 bt733.1 bt741.1 true) else (lWRationalRounds.j0 k bt729.1 bt731.1 bt733.1 bt741.1 (bt737.1.toList != bt739.1.toList)))) else (lWRationalRounds.j0 k bt729.1 bt731.1 bt733.1 bt741.1 true))))))))))) = some r := by rw [if_pos rfl] at H; exact H
  clear H
  have H := H1
  clear H1
  obtain ⟨⟨t725, t726⟩, A4, H⟩ := bnd H
  try dsimp only at H
  obtain ⟨⟨t727, t728⟩, A5, H⟩ := bnd H
  try dsimp only at H
  obtain ⟨⟨t729, t730⟩, A6, H⟩ := bnd H
  try dsimp only at H
  obtain ⟨⟨t731, t732⟩, A7, H⟩ := bnd H
  try dsimp only at H
  obtain ⟨⟨t733, t734⟩, A8, H⟩ := bnd H
  try dsimp only at H
  obtain ⟨⟨t735, t736⟩, A9, H⟩ := bnd H
  try dsimp only at H
  obtain ⟨⟨t737, t738⟩, A10, H⟩ := bnd H
  try dsimp only at H
  obtain ⟨⟨t739, t740⟩, A11, H⟩ := bnd H
  try dsimp only at H
  obtain ⟨⟨t741, t742⟩, A12, H⟩ := bnd H
  try dsimp only at H
  have HC13 := Z0.mk H
  clear H
  go_enter Tryz.func5, Tryz.ntmps5
  go_upto_region 12 with (first | ((with_reducible refine gd_ 22 rfl ?_); refine Kd.R_lit Kd.string _ 22 ?hg (N := 22) ?hd (xs := ([a0] : List ByteArray)) (inner := [.string a0]) (ok := fun _ => True) (okp := fun _ => True) ?hr ?hp (fun _ hk => hk) trivial (Below.refl _ _) (Nat.le_refl _) (by simp) ?_; (case hd => rfl); (case hg => rfl); (case hr => first | (go_simp; done) | (go_simp; rfl)); (case hp => exact (Reps.one (show Kd.M Kd.string _ _ _ a0 [.string a0] from rfl) (Reps.none _ _))); intro v721 w14 ho15 hb hg_ hnew_; clear hg_ hnew_; (first | rw [← Ny720.out] at ho15 | (simp only [Int.reduceToNat] at ho15; rw [← Ny720.out] at ho15)); have HO722 := Z0.mk (Kd.R_lower ho15 (below_size bqs)); replace HB := fB HB hb; clear hb ho15; obtain ⟨Ao16, co16, eo16⟩ := Kd.R_slice HO722.out; subst eo16) | ((with_reducible refine gc_ 32 rfl ?_); refine gL 23 Tryz.func32 (lWright.calls k _ _ y720 true _ ?side1 ?side2 A2.out) ?_; (case side1 => exact cq (Kd.R_reads' HO722.out).2.2); (case side2 => exact (Kd.R_reads' HO722.out).2.1); rintro _ w17 ⟨rfl, hb⟩; refine ⟨_, rfl, ?_⟩; replace HO722 := fR HO722 hb; replace HB := fB HB hb; clear hb) | ((with_reducible refine gc_ 21 rfl ?_); refine gL 28 Tryz.func21 (rAFloor.calls k a0 t725 t726 _ ?side1 A4.out) ?_; (case side1 => exact LaidW.below hL bqs); rintro _ w18 ⟨rfl, hb⟩; refine ⟨_, rfl, ?_⟩; replace HO722 := fR HO722 hb; replace HB := fB HB hb; clear hb) | ((with_reducible refine gc_ 22 rfl ?_); refine gL 33 Tryz.func22 (rACeil.calls k a0 t727 t728 _ ?side1 A5.out) ?_; (case side1 => exact LaidW.below hL bqs); rintro _ w19 ⟨rfl, hb⟩; refine ⟨_, rfl, ?_⟩; replace HO722 := fR HO722 hb; replace HB := fB HB hb; clear hb) | ((with_reducible refine gc_ 33 rfl ?_); refine gL 39 Tryz.func33 (bISub.calls k t727 t725 t729 t730 _ ?side1 A6.out) ?_; (case side1 => exact LaidW.below hL bqs); rintro _ w20 ⟨rfl, hb⟩; refine ⟨_, rfl, ?_⟩; replace HO722 := fR HO722 hb; replace HB := fB HB hb; clear hb) | ((with_reducible refine gc_ 34 rfl ?_); refine gL 45 Tryz.func34 (rACompare.calls k t725 a0 t731 t732 _ ?side1 A7.out) ?_; (case side1 => exact LaidW.below hL bqs); rintro _ w21 ⟨rfl, hb⟩; refine ⟨_, rfl, ?_⟩; replace HO722 := fR HO722 hb; replace HB := fB HB hb; clear hb) | ((with_reducible refine gc_ 34 rfl ?_); refine gL 51 Tryz.func34 (rACompare.calls k a0 t727 t733 t734 _ ?side1 A8.out) ?_; (case side1 => exact LaidW.below hL bqs); rintro _ w22 ⟨rfl, hb⟩; refine ⟨_, rfl, ?_⟩; replace HO722 := fR HO722 hb; replace HB := fB HB hb; clear hb) | ((with_reducible refine gc_ 20 rfl ?_); refine gL 56 Tryz.func20 (rANeg.calls k a0 t735 t736 _ ?side1 A9.out) ?_; (case side1 => exact LaidW.below hL bqs); rintro _ w23 ⟨rfl, hb⟩; refine ⟨_, rfl, ?_⟩; replace HO722 := fR HO722 hb; replace HB := fB HB hb; clear hb) | ((with_reducible refine gc_ 21 rfl ?_); refine gL 61 Tryz.func21 (rAFloor.calls k t735 t737 t738 _ ?side1 A10.out) ?_; (case side1 => exact LaidW.below hL bqs); rintro _ w24 ⟨rfl, hb⟩; refine ⟨_, rfl, ?_⟩; replace HO722 := fR HO722 hb; replace HB := fB HB hb; clear hb) | ((with_reducible refine gc_ 35 rfl ?_); refine gL 66 Tryz.func35 (bINeg.calls k t727 t739 t740 _ ?side1 A11.out) ?_; (case side1 => exact LaidW.below hL bqs); rintro _ w25 ⟨rfl, hb⟩; refine ⟨_, rfl, ?_⟩; replace HO722 := fR HO722 hb; replace HB := fB HB hb; clear hb) | ((with_reducible refine gc_ 19 rfl ?_); refine gL 71 Tryz.func19 (rADen.calls k a0 t741 t742 _ ?side1 A12.out) ?_; (case side1 => exact LaidW.below hL bqs); rintro _ w26 ⟨rfl, hb⟩; refine ⟨_, rfl, ?_⟩; replace HO722 := fR HO722 hb; replace HB := fB HB hb; clear hb))
  (try simp only [Act.put, List.setIfInBounds_toArray, List.set_cons_zero, List.set_cons_succ])
  go_cut [104] (fun v104 wc => ∃ (kq : Nat) (x104_12 : Bool), v104 = .bool x104_12 ∧ Z0 (lWRationalRounds.j0 kq t729 t731 t733 t741 x104_12 = some r) ∧ Z0 (kq ≤ k) ∧ Z0 (Below w.heap.size w wc))
  case first =>
   have H := HC13.out
   clear HC13
   rcases je H with ⟨-, c27b0, c27b1, H⟩ | ⟨c27, c27b0, c27b1, H⟩
   ·(first | rw [c27b0] | (simp only [i64_w, i32_w]; rw [c27b0]) | skip)
    rcases jg H with ⟨-, c28b0, H⟩ | ⟨-, c28b0, H⟩
    ·have H' := Z0.mk H
     clear H
     go_wp2
     go_meet
     case rel => exact ⟨_, (true), fs, H', ⟨by first | omega | exact Nat.le_refl _⟩, ⟨bqs⟩⟩
    rcases jg H with ⟨-, c29b0, H⟩ | ⟨-, c29b0, H⟩
    ·have H' := Z0.mk H
     clear H
     go_wp2
     go_meet
     case rel => exact ⟨_, (true), fs, H', ⟨by first | omega | exact Nat.le_refl _⟩, ⟨bqs⟩⟩
    have H' := Z0.mk H
    clear H
    go_wp2
    go_meet
    case rel => exact ⟨_, ((t737.toList != t739.toList)), fs, H', ⟨by first | omega | exact Nat.le_refl _⟩, ⟨bqs⟩⟩
   (first | rw [c27b0] | (simp only [i64_w, i32_w]; rw [c27b0]) | skip)
   have H' := Z0.mk H
   clear H
   go_wp2
   go_meet
   case rel => exact ⟨_, (true), fs, H', ⟨by first | omega | exact Nat.le_refl _⟩, ⟨bqs⟩⟩
  case rest =>
   clear HC13
   try clear c1
   try clear c2
   try clear p2
   try clear c3
   try clear c5
   try clear p6
   try clear c19
   try clear c20
   try clear c21
   try clear c22
   try clear c27
   try clear c27b0
   try clear c27b1
   try clear c28
   try clear c28b0
   try clear c29
   try clear c29b0
   obtain ⟨kq, x104_12, rfl, HA, HJ12, HB⟩ := hcut
   cases kq with
   | zero => exact absurd HA.out (by simp [lWRationalRounds.j0])
   | succ kj12 =>
    have H := HA.out
    clear HA
    simp only [lWRationalRounds.j0] at H
    by_cases c30 : x104_12 = true
    ·subst c30
     have H1 : (some false) = some r := by rw [if_pos rfl] at H; exact H
     clear H
     have H := H1
     clear H1
     obtain rfl := Option.some.inj H
     go_wp2
     go_ret
     exact finE
    replace c30 := Bool.eq_false_iff.mpr c30
    subst c30
    have H1 : (if t741.toList = ([49] : List UInt8) then (if t729.toList = ([48] : List UInt8) then (if t731 = 0 then ((lWawake.f kj12).bind fun t743 => (some t743)) else (some false)) else (some false)) else (if t729.toList = ([49] : List UInt8) then (if t731 < 0 then (if t733 < 0 then ((lWawake.f kj12).bind fun t744 => (some t744)) else (some false)) else (some false)) else (some false))) = some r := by rw [if_neg (show ¬ (false = true) by decide)] at H; exact H
    clear H
    have H := H1
    clear H1
    rcases je H with ⟨-, c31b0, c31b1, H⟩ | ⟨c31, c31b0, c31b1, H⟩
    ·rcases je H with ⟨-, c32b0, c32b1, H⟩ | ⟨c32, c32b0, c32b1, H⟩
     ·rcases je H with ⟨-, c33b0, c33b1, H⟩ | ⟨c33, c33b0, c33b1, H⟩
      ·obtain ⟨t743, A34, H⟩ := bnd H
       obtain rfl := Option.some.inj H
       go_wp2_with (first | (go_at_call 17; (with_reducible refine (lWawake.calls kj12  t743 _ ?side1 A34.out).mono ?_); (case side1 => exact LaidW.below hL bqs); rintro e w35 ⟨rfl, hb⟩; replace HB := fB HB hb; clear hb))
       go_ret
       exact finE
      obtain rfl := Option.some.inj H
      go_wp2
      go_ret
      exact finE
     obtain rfl := Option.some.inj H
     go_wp2
     go_ret
     exact finE
    rcases je H with ⟨-, c36b0, c36b1, H⟩ | ⟨c36, c36b0, c36b1, H⟩
    ·rcases jd H with ⟨-, c37b0, H⟩ | ⟨-, c37b0, H⟩
     ·rcases jd H with ⟨-, c38b0, H⟩ | ⟨-, c38b0, H⟩
      ·obtain ⟨t744, A39, H⟩ := bnd H
       obtain rfl := Option.some.inj H
       go_wp2_with (first | (go_at_call 17; (with_reducible refine (lWawake.calls kj12  t744 _ ?side1 A39.out).mono ?_); (case side1 => exact LaidW.below hL bqs); rintro e w40 ⟨rfl, hb⟩; replace HB := fB HB hb; clear hb))
       go_ret
       exact finE
      obtain rfl := Option.some.inj H
      go_wp2
      go_ret
      exact finE
     obtain rfl := Option.some.inj H
     go_wp2
     go_ret
     exact finE
    obtain rfl := Option.some.inj H
    go_wp2
    go_ret
    exact finE
 replace c3 := Bool.eq_false_iff.mpr c3
 subst c3
 have H1 : ((lWawake.f k).bind fun t724 => (some t724)) = some r := by rw [if_neg (show ¬ (false = true) by decide)] at H; exact H
 clear H
 have H := H1
 clear H1
 obtain ⟨t724, A41, H⟩ := bnd H
 obtain rfl := Option.some.inj H
 go_enter Tryz.func5, Tryz.ntmps5
 go_wp2_with (first | ((with_reducible refine gd_ 22 rfl ?_); refine Kd.R_lit Kd.string _ 22 ?hg (N := 22) ?hd (xs := ([a0] : List ByteArray)) (inner := [.string a0]) (ok := fun _ => True) (okp := fun _ => True) ?hr ?hp (fun _ hk => hk) trivial (Below.refl _ _) (Nat.le_refl _) (by simp) ?_; (case hd => rfl); (case hg => rfl); (case hr => first | (go_simp; done) | (go_simp; rfl)); (case hp => exact (Reps.one (show Kd.M Kd.string _ _ _ a0 [.string a0] from rfl) (Reps.none _ _))); intro v721 w42 ho43 hb hg_ hnew_; clear hg_ hnew_; (first | rw [← Ny720.out] at ho43 | (simp only [Int.reduceToNat] at ho43; rw [← Ny720.out] at ho43)); have HO722 := Z0.mk (Kd.R_lower ho43 (below_size bqs)); replace HB := fB HB hb; clear hb ho43; obtain ⟨Ao44, co44, eo44⟩ := Kd.R_slice HO722.out; subst eo44) | ((with_reducible refine gc_ 32 rfl ?_); refine gL 23 Tryz.func32 (lWright.calls k _ _ y720 false _ ?side1 ?side2 A2.out) ?_; (case side1 => exact cq (Kd.R_reads' HO722.out).2.2); (case side2 => exact (Kd.R_reads' HO722.out).2.1); rintro _ w45 ⟨rfl, hb⟩; refine ⟨_, rfl, ?_⟩; replace HO722 := fR HO722 hb; replace HB := fB HB hb; clear hb) | ((with_reducible refine gc_ 17 rfl ?_); refine gL 25 Tryz.func17 (lWawake.calls k  t724 _ ?side1 A41.out) ?_; (case side1 => exact LaidW.below hL bqs); rintro _ w46 ⟨rfl, hb⟩; refine ⟨_, rfl, ?_⟩; replace HO722 := fR HO722 hb; replace HB := fB HB hb; clear hb))
 go_ret
 exact finE
end Go.Proofs.YthnfajboebaajaaGreatDoor.PA
namespace Go.Proofs.YthnfajboebaajaaGreatDoor.Rb
open Go.ChangeShapes Go.WideShapes Go.ChangeAt Go.RowKit
theorem and_ {a b : Bool} (h : a = true) (k : b = true) : (a && b) = true := by rw [h, k]; rfl
theorem own : ownKnob Tryz.prog.godebug = none := by kernel_rfl
abbrev laid : List (String × DataW Unit) := Rows.rationalMakesRow.laid
theorem shaped (os : Os) (args : Array Value) : ((World.laidAll Tryz.prog os laid).forCall (fun _ _ => 0) ⟨#[], args, []⟩).Shaped Tryz.checked.prog := World.shaped_of_ZipB (by kernel_rfl) (by kernel_rfl)
theorem met (os : Os) (args : Array Value) : laidMetH Tryz.prog laid ((World.laidAll Tryz.prog os laid).forCall (fun _ _ => 0) ⟨#[], args, []⟩).memory := by
 rw [MakeChecks.laidMetH_plain _ _ _ (by kernel_rfl)]
 exact laidMet_laidAll _ (by kernel_rfl) (by kernel_rfl)
theorem gPow : Tryz.prog.globalNamed "internal/strconv.uint64pow10" = some 1 := by kernel_rfl
theorem tPow : (Tryz.prog.globals[1]?).map (·.type) = some 206 := by kernel_rfl
theorem dPow : (Rows.laid_internal_strconv_uint64pow10 : DataW Unit) = Lib.tabData .u64 Lib.pow10Tab := rfl
theorem of_laid {W : World} (h : laidMetH Tryz.prog laid W) : LaidW W := by
 rw [MakeChecks.laidMetH_plain _ _ _ (by kernel_rfl)] at h
 obtain ⟨_, ⟨_, _, _, _, _, _, _, _, _, _, ⟨_, _, _, _, _, _, _, _, _, _, ⟨g', t', cs, fuel, p, q, hg', ht', hvar, hd, _⟩, _⟩, _⟩, _⟩ := h
 obtain rfl := Option.some.inj (gPow.symm.trans hg')
 obtain rfl := Option.some.inj (tPow.symm.trans ht')
 unfold LaidW Lib.TabIs
 rw [hvar, ← Lib.cells_of_tab Tryz.underlying206 Tryz.underlying182 (by kernel_rfl) (by kernel_rfl) (dPow ▸ hd)]
end Go.Proofs.YthnfajboebaajaaGreatDoor.Rb
