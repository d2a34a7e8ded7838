import Derived.Test.YthnfajboebaajaaGreatDoorAG1
import Derived.Test.YthnfajboebaajaaGreatDoorAD
import Derived.Test.YthnfajboebaajaaGreatDoorAG9
import Derived.Test.YthnfajboebaajaaGreatDoorAG10
import Derived.Test.YthnfajboebaajaaGreatDoorAG7
import Derived.Test.YthnfajboebaajaaGreatDoorRows
import Derived.ProofKit
import Derived.OpenShut
import Derived.Lay
import Derived.LaidOnce
import Derived.SevenTiedAt
set_option maxHeartbeats 8000000
set_option maxRecDepth 100000
set_option linter.unusedVariables false
namespace Go.Proofs.YthnfajboebaajaaGreatDoor.PA
open Go.RowKit Go.Proofs.WWords Go.Proofs.WLast Go.Proofs.WMore
attribute [local go_sem] max2_int min2_int max_two min_two max_three min_three max_four min_four
set_option linter.unusedVariables false
set_option linter.unusedSimpArgs false
theorem rEProduct.calls (k : Nat) (a0 : ByteArray) (a1 : ByteArray) (r : ByteArray) (w : World) (h : rEProduct.f k a0 a1 = some r) :
  Calls Tryz.prog 99 #[.string a0, .string a1] w fun e w' => e = .returned (.string r) ∧ Below w.heap.size w w' := by
 have HB := Z0.mk (Below.refl w.heap.size w)
 have H := h
 clear h
 unfold rEProduct.f at H
 obtain ⟨t500, A3, H⟩ := bnd H
 obtain ⟨t501, A4, H⟩ := bnd H
 rcases jd H with ⟨-, c5b0, H⟩ | ⟨-, c5b0, H⟩
 ·obtain ⟨t502, A6, H⟩ := bnd H
  obtain ⟨t503, A7, H⟩ := bnd H
  obtain ⟨t504, A8, H⟩ := bnd H
  obtain rfl := Option.some.inj H
  go_enter Tryz.func99, Tryz.ntmps99
  go_wp2_with (first | ((with_reducible refine gc_ 93 rfl ?_); refine goD (some 6) Tryz.func93 #[.string a0] (rEDigits.calls a0 t500 _ A3.out) ?_; intro nd) | ((with_reducible refine gc_ 93 rfl ?_); refine goD (some 8) Tryz.func93 #[.string a1] (rEDigits.calls a1 t501 _ A4.out) ?_; intro nd) | ((with_reducible refine gc_ 135 rfl ?_); refine goD (some 12) Tryz.func135 #[.string a0] (rEnumber.calls k a0 t502 _ A6.out) ?_; intro nd) | ((with_reducible refine gc_ 135 rfl ?_); refine goD (some 14) Tryz.func135 #[.string a1] (rEnumber.calls k a1 t503 _ A7.out) ?_; intro nd) | ((with_reducible refine gc_ 134 rfl ?_); refine goB (some 16) Tryz.func134 #[.int .i64 (wrap64 (t502 * t503))] bq (rEWhole.calls k (wrap64 (t502 * t503)) t504 _ A8.out) ?_; clear HB; intro w9 HB))
  go_ret
  exact finE
 obtain ⟨t505, A10, H⟩ := bnd H
 obtain ⟨t508, A11, H⟩ := bnd H
 obtain ⟨t511, A12, H⟩ := bnd H
 obtain ⟨t514, A13, H⟩ := bnd H
 obtain ⟨t515, A14, H⟩ := bnd H
 obtain ⟨t516, A15, H⟩ := bnd H
 obtain rfl := Option.some.inj H
 go_enter Tryz.func99, Tryz.ntmps99
 go_wp2_with (first | ((with_reducible refine gc_ 93 rfl ?_); refine goD (some 6) Tryz.func93 #[.string a0] (rEDigits.calls a0 t500 _ A3.out) ?_; intro nd) | ((with_reducible refine gc_ 93 rfl ?_); refine goD (some 8) Tryz.func93 #[.string a1] (rEDigits.calls a1 t501 _ A4.out) ?_; intro nd) | ((with_reducible refine gc_ 138 rfl ?_); refine gL 18 Tryz.func138 (rEdigits.calls _ _ _ _ A10.out) ?_; rintro _ w16 ⟨v506, rfl, ho0, hb⟩; refine ⟨_, rfl, ?_⟩; have HO507 := fN ho0; replace HB := fB HB hb; clear hb ho0) | ((with_reducible refine gc_ 138 rfl ?_); refine gL 20 Tryz.func138 (rEdigits.calls _ _ _ _ A11.out) ?_; rintro _ w17 ⟨v509, rfl, ho0, hb⟩; refine ⟨_, rfl, ?_⟩; have HO510 := Z0.mk (Kd.R_lower (Kd.R_new' ho0 (Kd.R_lt (rq HO507))) (below_size bqs)); replace HO507 := Z0.mk (Kd.R_elder' (rq HO507) (Kd.R_base ho0) hb); replace HB := fB HB hb; clear hb ho0; obtain ⟨Ao18, co18, eo18⟩ := Kd.R_slice HO507.out; subst eo18; obtain ⟨Ao19, co19, eo19⟩ := Kd.R_slice HO510.out; subst eo19) | ((with_reducible refine gc_ 137 rfl ?_); refine gL 21 Tryz.func137 (rEtimes.calls k _ _ t505 _ _ t508 t511 _ ?side1 ?side2 ?side3 ?side4 A12.out) ?_; (case side1 => exact cq (Kd.R_reads' HO507.out).2.2); (case side2 => exact (Kd.R_reads' HO507.out).2.1); (case side3 => exact cq (Kd.R_reads' HO510.out).2.2); (case side4 => exact (Kd.R_reads' HO510.out).2.1); rintro _ w20 ⟨v512, rfl, ho0, hb⟩; refine ⟨_, rfl, ?_⟩; have HO513 := Z0.mk (Kd.V_lower (Kd.V_mono (ok' := fun k_ => some k_ ≠ (.slice Ao18 t505.length co18 : Value).ownBlock ∧ some k_ ≠ (.slice Ao19 t508.length co19 : Value).ownBlock) ho0 (fun k_ hk_ => ⟨(Kd.fresh' (Kd.R_lt (rq HO507)) k_ hk_), (Kd.fresh' (Kd.R_lt (rq HO510)) k_ hk_)⟩)) (below_size bqs)); replace HO507 := fR HO507 hb; replace HO510 := fR HO510 hb; replace HB := fB HB hb; clear hb ho0) | ((with_reducible refine gc_ 126 rfl ?_); refine goD (some 23) Tryz.func126 #[.string a0] (rENegative.calls a0 t514 _ A13.out) ?_; intro nd) | ((with_reducible refine gc_ 126 rfl ?_); refine gL 25 Tryz.func126 (rENegative.calls _ _ _ A14.out) ?_; rintro _ w' ⟨rfl, ⟨nd, rfl⟩⟩; refine ⟨_, rfl, ?_⟩; obtain ⟨Ao21, co21, eo21⟩ := Kd.V_slice HO513.out; subst eo21) | ((with_reducible refine gc_ 136 rfl ?_); refine gL 27 Tryz.func136 (rEmade.calls k _ _ t511 (t514 != t515) t516 _ ?side1 ?side2 A15.out) ?_; (case side1 => exact cq (Kd.V_reads' HO513.out).2.2); (case side2 => exact (Kd.V_reads' HO513.out).2.1); rintro _ w22 ⟨rfl, hb⟩; refine ⟨_, rfl, ?_⟩; replace HO507 := fR HO507 hb; replace HO510 := fR HO510 hb; replace HO513 := fV HO513 hb; replace HB := fB HB hb; clear hb))
 go_ret
 exact finE
theorem rERest.calls (k : Nat) (a0 : ByteArray) (a1 : ByteArray) (r : ByteArray) (w : World) (h : rERest.f k a0 a1 = some r) :
  Calls Tryz.prog 158 #[.string a0, .string a1] w fun e w' => e = .returned (.string r) ∧ Below w.heap.size w w' := by
 have HB := Z0.mk (Below.refl w.heap.size w)
 have H := h
 clear h
 unfold rERest.f at H
 obtain ⟨t635, A3, H⟩ := bnd H
 obtain ⟨t636, A4, H⟩ := bnd H
 obtain ⟨t637, A5, H⟩ := bnd H
 obtain rfl := Option.some.inj H
 go_enter Tryz.func158, Tryz.ntmps158
 go_wp2_with (first | ((with_reducible refine gc_ 115 rfl ?_); refine goB (some 9) Tryz.func115 #[.string a0, .string a1] bq (rEFloor.calls k a0 a1 t635 _ A3.out) ?_; clear HB; intro w6 HB) | ((with_reducible refine gc_ 99 rfl ?_); refine goB (some 10) Tryz.func99 #[.string a1, .string t635] bq (rEProduct.calls k a1 t635 t636 _ A4.out) ?_; clear HB; intro w7 HB) | ((with_reducible refine gc_ 140 rfl ?_); refine goB (some 11) Tryz.func140 #[.string a0, .string t636] bq (rEDiff.calls k a0 t636 t637 _ A5.out) ?_; clear HB; intro w8 HB))
 go_ret
 exact finE
theorem rECommon.calls (k : Nat) (a0 : ByteArray) (a1 : ByteArray) (r : ByteArray) (w : World) (h : rECommon.f k a0 a1 = some r) :
  Calls Tryz.prog 119 #[.string a0, .string a1] w fun e w' => e = .returned (.string r) ∧ Below w.heap.size w w' := by
 have HB := Z0.mk (Below.refl w.heap.size w)
 have H := h
 clear h
 unfold rECommon.f at H
 obtain ⟨t638, A3, H⟩ := bnd H
 obtain ⟨t639, A4, H⟩ := bnd H
 have H' := Z0.mk H
 clear H
 go_enter Tryz.func119, Tryz.ntmps119
 go_wp2_with (first | ((with_reducible refine gc_ 157 rfl ?_); refine goD (some 8) Tryz.func157 #[.string a0] (rEMagnitude.calls a0 t638 _ A3.out) ?_; intro nd) | ((with_reducible refine gc_ 157 rfl ?_); refine goD (some 10) Tryz.func157 #[.string a1] (rEMagnitude.calls a1 t639 _ A4.out) ?_; intro nd))
 go_loopg [5, 6] k (fun kq v5 v6 w' => ∃ (x5_1 : ByteArray) (x6_1 : ByteArray), v5 = .string x5_1 ∧ v6 = .string x6_1 ∧ Z0 (rECommon.l0 kq x5_1 x6_1 = some r) ∧ Z0 (kq ≤ k) ∧ Z0 (Below w.heap.size w w'))
 case atStart => exact ⟨(t638), (t639), fs, fs, H', ⟨Nat.le_refl _⟩, ⟨bqs⟩⟩
 case round =>
  clear H'
  try clear c1
  try clear p2
  obtain ⟨x5_1, x6_1, rfl, rfl, HA, HK1, HB⟩ := hrel
  cases gk with
  | zero => exact absurd HA.out (by simp [rECommon.l0])
  | succ k1 =>
   have H := HA.out
   clear HA
   simp only [rECommon.l0] at H
   rcases je H with ⟨-, c5b0, c5b1, H⟩ | ⟨c5, c5b0, c5b1, H⟩
   ·obtain rfl := Option.some.inj H
    go_wp2
    go_ret
    exact finE
   obtain ⟨t640, A6, H⟩ := bnd H
   have H' := Z0.mk H
   clear H
   go_wp2_with (first | ((with_reducible refine gc_ 158 rfl ?_); refine goB (some 16) Tryz.func158 #[.string x5_1, .string x6_1] bq (rERest.calls k1 x5_1 x6_1 t640 _ A6.out) ?_; clear HB; intro w7 HB))
   go_roundg k1
   case measure => have := HK1.out; omega
   case rel => exact ⟨(x6_1), (t640), fs, fs, H', ⟨by have := HK1.out; omega⟩, ⟨bqs⟩⟩
theorem rESign.calls (a0 : ByteArray) (r : Int) (w : World) (h : rESign.f a0 = some r) :
  Calls Tryz.prog 122 #[.string a0] w fun e w' => e = .returned (.int .i64 r) ∧ Drawn0 w w' := by
 have H := h
 clear h
 unfold rESign.f at H
 rcases je H with ⟨-, c2b0, c2b1, H⟩ | ⟨c2, c2b0, c2b1, H⟩
 ·obtain rfl := Option.some.inj H
  go_enter Tryz.func122, Tryz.ntmps122
  go_wp2
  go_ret
  exact finD
 obtain ⟨t443, A3, H⟩ := bnd H
 by_cases c4 : t443 = true
 ·subst c4
  have H1 : (some (-1)) = some r := by rw [if_pos rfl] at H; exact H
  clear H
  have H := H1
  clear H1
  obtain rfl := Option.some.inj H
  go_enter Tryz.func122, Tryz.ntmps122
  go_wp2_with (first | ((with_reducible refine gc_ 126 rfl ?_); refine goD (some 6) Tryz.func126 #[.string a0] (rENegative.calls a0 true _ A3.out) ?_; intro nd))
  go_ret
  exact finD
 replace c4 := Bool.eq_false_iff.mpr c4
 subst c4
 have H1 : (some 1) = some r := by rw [if_neg (show ¬ (false = true) by decide)] at H; exact H
 clear H
 have H := H1
 clear H1
 obtain rfl := Option.some.inj H
 go_enter Tryz.func122, Tryz.ntmps122
 go_wp2_with (first | ((with_reducible refine gc_ 126 rfl ?_); refine goD (some 6) Tryz.func126 #[.string a0] (rENegative.calls a0 false _ A3.out) ?_; intro nd))
 go_ret
 exact finD
theorem rEOrder.calls (k : Nat) (a0 : ByteArray) (a1 : ByteArray) (r : Int) (w : World) (h : rEOrder.f k a0 a1 = some r) :
  Calls Tryz.prog 102 #[.string a0, .string a1] w fun e w' => e = .returned (.int .i64 r) ∧ Below w.heap.size w w' := by
 have HB := Z0.mk (Below.refl w.heap.size w)
 have H := h
 clear h
 unfold rEOrder.f at H
 obtain ⟨t462, A3, H⟩ := bnd H
 obtain ⟨t463, A4, H⟩ := bnd H
 rcases je H with ⟨-, c5b0, c5b1, H⟩ | ⟨c5, c5b0, c5b1, H⟩
 ·obtain ⟨t464, A6, H⟩ := bnd H
  obtain ⟨t467, A7, H⟩ := bnd H
  obtain ⟨t470, A8, H⟩ := bnd H
  obtain ⟨t473, A9, H⟩ := bnd H
  obtain ⟨t476, A10, H⟩ := bnd H
  obtain rfl := Option.some.inj H
  go_enter Tryz.func102, Tryz.ntmps102
  go_wp2_with (first | ((with_reducible refine gc_ 122 rfl ?_); refine goD (some 8) Tryz.func122 #[.string a0] (rESign.calls a0 t462 _ A3.out) ?_; intro nd) | ((with_reducible refine gc_ 122 rfl ?_); refine goD (some 10) Tryz.func122 #[.string a1] (rESign.calls a1 t463 _ A4.out) ?_; intro nd) | ((with_reducible refine gc_ 138 rfl ?_); refine gL 19 Tryz.func138 (rEdigits.calls _ _ _ _ A6.out) ?_; rintro _ w11 ⟨v465, rfl, ho0, hb⟩; refine ⟨_, rfl, ?_⟩; have HO466 := fN ho0; replace HB := fB HB hb; clear hb ho0; obtain ⟨Ao12, co12, eo12⟩ := Kd.R_slice HO466.out; subst eo12) | ((with_reducible refine gc_ 142 rfl ?_); refine gL 20 Tryz.func142 (rEcut.calls k (fun k_ => some k_ = (.slice Ao12 t464.length co12 : Value).ownBlock) _ _ t464 t467 _ ?side1 A7.out) ?_; (case side1 => exact Kd.R_V (Kd.R_tight rfl (HO466.out))); rintro _ w13 ⟨v468, rfl, ho0, hb⟩; refine ⟨_, rfl, ?_⟩; have HO469 := Z0.mk (Kd.V_lower (Kd.V_mono (ok' := fun k_ => True) ho0 (fun k_ hk_ => trivial)) (below_size bqs)); replace HO466 := fR HO466 hb; replace HB := fB HB hb; clear hb ho0) | ((with_reducible refine gc_ 138 rfl ?_); refine gL 22 Tryz.func138 (rEdigits.calls _ _ _ _ A8.out) ?_; rintro _ w14 ⟨v471, rfl, ho0, hb⟩; refine ⟨_, rfl, ?_⟩; have HO472 := Z0.mk (Kd.R_lower (Kd.R_new' ho0 (Kd.R_lt (rq HO466))) (below_size bqs)); replace HO466 := Z0.mk (Kd.R_elder' (rq HO466) (Kd.R_base ho0) hb); replace HO469 := Z0.mk (Kd.V_elder' (vq HO469) (Kd.R_base ho0) hb); replace HB := fB HB hb; clear hb ho0; obtain ⟨Ao15, co15, eo15⟩ := Kd.R_slice HO472.out; subst eo15) | ((with_reducible refine gc_ 142 rfl ?_); refine gL 23 Tryz.func142 (rEcut.calls k (fun k_ => some k_ = (.slice Ao15 t470.length co15 : Value).ownBlock) _ _ t470 t473 _ ?side1 A9.out) ?_; (case side1 => exact Kd.R_V (Kd.R_tight rfl (HO472.out))); rintro _ w16 ⟨v474, rfl, ho0, hb⟩; refine ⟨_, rfl, ?_⟩; have HO475 := Z0.mk (Kd.V_lower (Kd.V_mono (ok' := fun k_ => some k_ ≠ (.slice Ao12 t464.length co12 : Value).ownBlock) ho0 (fun k_ hk_ => Or.elim hk_ (fun hs_ => ((HO472.out).1 k_ hs_.symm).2) (fun hn_ => (Kd.fresh' (Kd.R_lt (rq HO466)) k_ hn_)))) (below_size bqs)); replace HO466 := fR HO466 hb; replace HO469 := fV HO469 hb; replace HO472 := fR HO472 hb; replace HB := fB HB hb; clear hb ho0; obtain ⟨Ao17, co17, eo17⟩ := Kd.V_slice HO469.out; subst eo17; obtain ⟨Ao18, co18, eo18⟩ := Kd.V_slice HO475.out; subst eo18) | ((with_reducible refine gc_ 141 rfl ?_); refine goesL_ (some 24) rfl rfl Tryz.func141 (by kernel_rfl) rfl #[.slice Ao17 t467.length co17, .slice Ao18 t473.length co18] rfl (by (try simp only [List.map_toArray, List.map_cons, List.map_nil]); first | done | rfl | (simp only [List.length_drop, List.length_take]; rfl)) ?_; (with_reducible refine (rEorder.calls k _ _ t467 _ _ t473 t476 _ ?side1 ?side2 ?side3 ?side4 A10.out).mono ?_); (case side1 => exact cq (Kd.V_reads' HO469.out).2.2); (case side2 => exact (Kd.V_reads' HO469.out).2.1); (case side3 => exact cq (Kd.V_reads' HO475.out).2.2); (case side4 => exact (Kd.V_reads' HO475.out).2.1); rintro e w' ⟨rfl, ⟨nd, rfl⟩⟩; refine ⟨_, rfl, ?_⟩))
  go_ret
  exact finE
 rcases jd H with ⟨-, c19b0, H⟩ | ⟨-, c19b0, H⟩
 ·obtain rfl := Option.some.inj H
  go_enter Tryz.func102, Tryz.ntmps102
  go_wp2_with (first | ((with_reducible refine gc_ 122 rfl ?_); refine goD (some 8) Tryz.func122 #[.string a0] (rESign.calls a0 t462 _ A3.out) ?_; intro nd) | ((with_reducible refine gc_ 122 rfl ?_); refine goD (some 10) Tryz.func122 #[.string a1] (rESign.calls a1 t463 _ A4.out) ?_; intro nd))
  go_ret
  exact finE
 obtain rfl := Option.some.inj H
 go_enter Tryz.func102, Tryz.ntmps102
 go_wp2_with (first | ((with_reducible refine gc_ 122 rfl ?_); refine goD (some 8) Tryz.func122 #[.string a0] (rESign.calls a0 t462 _ A3.out) ?_; intro nd) | ((with_reducible refine gc_ 122 rfl ?_); refine goD (some 10) Tryz.func122 #[.string a1] (rESign.calls a1 t463 _ A4.out) ?_; intro nd))
 go_ret
 exact finE
theorem rFformed.calls (k : Nat) (a0 : ByteArray) (r : Bool) (w : World) (h : rFformed.f k a0 = some r) :
  Calls Tryz.prog 81 #[.string a0] w fun e w' => e = .returned (.bool r) ∧ Below w.heap.size w w' := by
 have HB := Z0.mk (Below.refl w.heap.size w)
 have H := h
 clear h
 unfold rFformed.f at H
 obtain ⟨t641, A2, H⟩ := bnd H
 obtain ⟨t642, A3, H⟩ := bnd H
 have HC4 := Z0.mk H
 clear H
 go_enter Tryz.func81, Tryz.ntmps81
 go_upto_region 2 with (first | ((with_reducible refine gc_ 72 rfl ?_); refine goD (some 7) Tryz.func72 #[.string a0] (rFTop.calls k a0 t641 _ A2.out) ?_; intro nd) | ((with_reducible refine gc_ 36 rfl ?_); refine goD (some 8) Tryz.func36 #[.string t641] (rECheck.calls k t641 t642 _ A3.out) ?_; intro nd))
 (try simp only [Act.put, List.setIfInBounds_toArray, List.set_cons_zero, List.set_cons_succ])
 go_cut [14] (fun v14 wc => ∃ (kq : Nat) (x14_3 : Bool), v14 = .bool x14_3 ∧ Z0 (rFformed.j0 kq a0 x14_3 = some r) ∧ Z0 (kq ≤ k) ∧ Z0 (Below w.heap.size w wc))
 case first =>
  have H := HC4.out
  clear HC4
  rcases je H with ⟨-, c5b0, c5b1, H⟩ | ⟨c5, c5b0, c5b1, H⟩
  ·(first | rw [c5b0] | (simp only [i64_w, i32_w]; rw [c5b0]) | skip)
   have H' := Z0.mk H
   clear H
   go_wp2
   go_meet
   case rel => exact ⟨_, (false), fs, H', ⟨by first | omega | exact Nat.le_refl _⟩, ⟨bqs⟩⟩
  (first | rw [c5b0] | (simp only [i64_w, i32_w]; rw [c5b0]) | skip)
  have H' := Z0.mk H
  clear H
  go_wp2
  go_meet
  case rel => exact ⟨_, ((t642 != 10)), fs, H', ⟨by first | omega | exact Nat.le_refl _⟩, ⟨bqs⟩⟩
 case rest =>
  clear HC4
  try clear p2
  try clear c3
  try clear c5
  try clear c5b0
  try clear c5b1
  obtain ⟨kq, x14_3, rfl, HA, HJ3, HB⟩ := hcut
  cases kq with
  | zero => exact absurd HA.out (by simp [rFformed.j0])
  | succ kj3 =>
   have H := HA.out
   clear HA
   simp only [rFformed.j0] at H
   by_cases c6 : x14_3 = true
   ·subst c6
    have H1 : (some false) = some r := by rw [if_pos rfl] at H; exact H
    clear H
    have H := H1
    clear H1
    obtain rfl := Option.some.inj H
    go_wp2
    go_ret
    exact finE
   replace c6 := Bool.eq_false_iff.mpr c6
   subst c6
   have H1 : ((rFslash.f kj3 a0).bind fun t643 => (if t643 < 0 then (some true) else ((rFBottom.f kj3 a0).bind fun t644 => ((rECheck.f kj3 t644).bind fun t645 => (if t645 = 0 then (rFformed.j1 kj3 a0 t644 false) else (rFformed.j1 kj3 a0 t644 (t645 != 10))))))) = some r := by rw [if_neg (show ¬ (false = true) by decide)] at H; exact H
   clear H
   have H := H1
   clear H1
   obtain ⟨t643, A7, H⟩ := bnd H
   rcases jd H with ⟨-, c8b0, H⟩ | ⟨-, c8b0, H⟩
   ·obtain rfl := Option.some.inj H
    go_wp2_with (first | ((with_reducible refine gc_ 113 rfl ?_); refine goD (some 16) Tryz.func113 #[.string a0] (rFslash.calls kj3 a0 t643 _ A7.out) ?_; intro nd))
    go_ret
    exact finE
   obtain ⟨t644, A9, H⟩ := bnd H
   obtain ⟨t645, A10, H⟩ := bnd H
   have HC11 := Z0.mk H
   clear H
   go_upto_region 8 with (first | ((with_reducible refine gc_ 113 rfl ?_); refine goD (some 16) Tryz.func113 #[.string a0] (rFslash.calls kj3 a0 t643 _ A7.out) ?_; intro nd) | ((with_reducible refine gc_ 73 rfl ?_); refine goD (some 19) Tryz.func73 #[.string a0] (rFBottom.calls kj3 a0 t644 _ A9.out) ?_; intro nd) | ((with_reducible refine gc_ 36 rfl ?_); refine goD (some 21) Tryz.func36 #[.string t644] (rECheck.calls kj3 t644 t645 _ A10.out) ?_; intro nd))
   (try simp only [Act.put, List.setIfInBounds_toArray, List.set_cons_zero, List.set_cons_succ])
   go_cut [27] (fun v27 wc => ∃ (kq : Nat) (x27_10 : Bool), v27 = .bool x27_10 ∧ Z0 (rFformed.j1 kq a0 t644 x27_10 = some r) ∧ Z0 (kq ≤ kj3) ∧ Z0 (Below w.heap.size w wc))
   case first =>
    have H := HC11.out
    clear HC11
    rcases je H with ⟨-, c12b0, c12b1, H⟩ | ⟨c12, c12b0, c12b1, H⟩
    ·(first | rw [c12b0] | (simp only [i64_w, i32_w]; rw [c12b0]) | skip)
     have H' := Z0.mk H
     clear H
     go_wp2
     go_meet
     case rel => exact ⟨_, (false), fs, H', ⟨by have := HJ3.out; first | omega | exact Nat.le_refl _⟩, ⟨bqs⟩⟩
    (first | rw [c12b0] | (simp only [i64_w, i32_w]; rw [c12b0]) | skip)
    have H' := Z0.mk H
    clear H
    go_wp2
    go_meet
    case rel => exact ⟨_, ((t645 != 10)), fs, H', ⟨by have := HJ3.out; first | omega | exact Nat.le_refl _⟩, ⟨bqs⟩⟩
   case rest =>
    clear HC11
    try clear c1
    try clear p2
    try clear c3
    try clear c5
    try clear c5b0
    try clear c5b1
    try clear c6
    try clear c7
    try clear c8
    try clear c8b0
    try clear c11
    try clear c12
    try clear c12b0
    try clear c12b1
    try clear p2
    obtain ⟨kq, x27_10, rfl, HA, HJ10, HB⟩ := hcut
    cases kq with
    | zero => exact absurd HA.out (by simp [rFformed.j1])
    | succ kj10 =>
     have H := HA.out
     clear HA
     simp only [rFformed.j1] at H
     by_cases c13 : x27_10 = true
     ·subst c13
      have H1 : (some false) = some r := by rw [if_pos rfl] at H; exact H
      clear H
      have H := H1
      clear H1
      obtain rfl := Option.some.inj H
      go_wp2
      go_ret
      exact finE
     replace c13 := Bool.eq_false_iff.mpr c13
     subst c13
     have H1 : ((rEOrder.f kj10 t644 (⟨#[49]⟩ : ByteArray)).bind fun t646 => (if t646 > 0 then ((rFTop.f kj10 a0).bind fun t647 => ((rECommon.f kj10 t647 t644).bind fun t648 => (some (t648.toList == ([49] : List UInt8))))) else (some false))) = some r := by rw [if_neg (show ¬ (false = true) by decide)] at H; exact H
     clear H
     have H := H1
     clear H1
     obtain ⟨t646, A14, H⟩ := bnd H
     rcases jg H with ⟨-, c15b0, H⟩ | ⟨-, c15b0, H⟩
     ·obtain ⟨t647, A16, H⟩ := bnd H
      obtain ⟨t648, A17, H⟩ := bnd H
      obtain rfl := Option.some.inj H
      go_wp2_with (first | ((with_reducible refine gc_ 102 rfl ?_); refine goB (some 29) Tryz.func102 #[.string t644, .string (⟨#[49]⟩ : ByteArray)] bq (rEOrder.calls kj10 t644 (⟨#[49]⟩ : ByteArray) t646 _ A14.out) ?_; clear HB; intro w18 HB) | (go_at_call 72; (with_reducible refine (rFTop.calls kj10 a0 t647 _ A16.out).mono ?_); rintro e w' ⟨rfl, ⟨nd, rfl⟩⟩) | (go_at_call 119; (with_reducible refine (rECommon.calls kj10 t647 t644 t648 _ A17.out).mono ?_); rintro e w19 ⟨rfl, hb⟩; replace HB := fB HB hb; clear hb))
      go_ret
      exact finE
     obtain rfl := Option.some.inj H
     go_wp2_with (first | ((with_reducible refine gc_ 102 rfl ?_); refine goB (some 29) Tryz.func102 #[.string t644, .string (⟨#[49]⟩ : ByteArray)] bq (rEOrder.calls kj10 t644 (⟨#[49]⟩ : ByteArray) t646 _ A14.out) ?_; clear HB; intro w20 HB))
     go_ret
     exact finE
theorem rFCheck.calls (k : Nat) (a0 : ByteArray) (r : Int) (w : World) (h : rFCheck.f k a0 = some r) :
  Calls Tryz.prog 29 #[.string a0] w fun e w' => e = .returned (.int .i64 r) ∧ Below w.heap.size w w' := by
 have HB := Z0.mk (Below.refl w.heap.size w)
 have H := h
 clear h
 unfold rFCheck.f at H
 obtain ⟨t653, A2, H⟩ := bnd H
 by_cases c3 : t653 = true
 ·subst c3
  have H1 : ((rFDigits.f k a0).bind fun t654 => (if t654 > 4096 then (some 10) else (some 0))) = some r := by rw [if_pos rfl] at H; exact H
  clear H
  have H := H1
  clear H1
  obtain ⟨t654, A4, H⟩ := bnd H
  rcases jg H with ⟨-, c5b0, H⟩ | ⟨-, c5b0, H⟩
  ·obtain rfl := Option.some.inj H
   go_enter Tryz.func29, Tryz.ntmps29
   go_wp2_with (first | ((with_reducible refine gc_ 81 rfl ?_); refine goB (some 4) Tryz.func81 #[.string a0] bq (rFformed.calls k a0 true _ A2.out) ?_; clear HB; intro w6 HB) | ((with_reducible refine gc_ 82 rfl ?_); refine goB (some 7) Tryz.func82 #[.string a0] bq (rFDigits.calls k a0 t654 _ A4.out) ?_; clear HB; intro w7 HB))
   go_ret
   exact finE
  obtain rfl := Option.some.inj H
  go_enter Tryz.func29, Tryz.ntmps29
  go_wp2_with (first | ((with_reducible refine gc_ 81 rfl ?_); refine goB (some 4) Tryz.func81 #[.string a0] bq (rFformed.calls k a0 true _ A2.out) ?_; clear HB; intro w8 HB) | ((with_reducible refine gc_ 82 rfl ?_); refine goB (some 7) Tryz.func82 #[.string a0] bq (rFDigits.calls k a0 t654 _ A4.out) ?_; clear HB; intro w9 HB))
  go_ret
  exact finE
 replace c3 := Bool.eq_false_iff.mpr c3
 subst c3
 have H1 : (some 3) = some r := by rw [if_neg (show ¬ (false = true) by decide)] at H; exact H
 clear H
 have H := H1
 clear H1
 obtain rfl := Option.some.inj H
 go_enter Tryz.func29, Tryz.ntmps29
 go_wp2_with (first | ((with_reducible refine gc_ 81 rfl ?_); refine goB (some 4) Tryz.func81 #[.string a0] bq (rFformed.calls k a0 false _ A2.out) ?_; clear HB; intro w10 HB))
 go_ret
 exact finE
theorem rFUp.calls (k : Nat) (a0 : ByteArray) (r : ByteArray) (w : World) (h : rFUp.f k a0 = some r) :
  Calls Tryz.prog 76 #[.string a0] w fun e w' => e = .returned (.string r) ∧ Below w.heap.size w w' := by
 have HB := Z0.mk (Below.refl w.heap.size w)
 have H := h
 clear h
 unfold rFUp.f at H
 obtain ⟨t670, A2, H⟩ := bnd H
 obtain ⟨t671, A3, H⟩ := bnd H
 obtain ⟨t672, A4, H⟩ := bnd H
 obtain ⟨t673, A5, H⟩ := bnd H
 obtain ⟨t674, A6, H⟩ := bnd H
 obtain rfl := Option.some.inj H
 go_enter Tryz.func76, Tryz.ntmps76
 go_wp2_with (first | ((with_reducible refine gc_ 72 rfl ?_); refine goD (some 4) Tryz.func72 #[.string a0] (rFTop.calls k a0 t670 _ A2.out) ?_; intro nd) | ((with_reducible refine gc_ 114 rfl ?_); refine goD (some 5) Tryz.func114 #[.string t670] (rENegated.calls t670 t671 _ A3.out) ?_; intro nd) | ((with_reducible refine gc_ 73 rfl ?_); refine goD (some 7) Tryz.func73 #[.string a0] (rFBottom.calls k a0 t672 _ A4.out) ?_; intro nd) | ((with_reducible refine gc_ 115 rfl ?_); refine goB (some 8) Tryz.func115 #[.string t671, .string t672] bq (rEFloor.calls k t671 t672 t673 _ A5.out) ?_; clear HB; intro w7 HB) | ((with_reducible refine gc_ 114 rfl ?_); refine goD (some 9) Tryz.func114 #[.string t673] (rENegated.calls t673 t674 _ A6.out) ?_; intro nd))
 go_ret
 exact finE
theorem rFCeil.calls (k : Nat) (a0 : ByteArray) (r1 : ByteArray) (r2 : Int) (w : World) (h : rFCeil.f k a0 = some (r1, r2)) :
  Calls Tryz.prog 27 #[.string a0] w fun e w' => e = .returned (.tuple #[.string r1, .int .i64 r2]) ∧ Below w.heap.size w w' := by
 have HB := Z0.mk (Below.refl w.heap.size w)
 have H := h
 clear h
 unfold rFCeil.f at H
 obtain ⟨t675, A2, H⟩ := bnd H
 rcases je H with ⟨-, c3b0, c3b1, H⟩ | ⟨c3, c3b0, c3b1, H⟩
 ·obtain ⟨t676, A4, H⟩ := bnd H
  simp only [Option.some.injEq, Prod.mk.injEq] at H
  obtain ⟨rfl, rfl⟩ := H
  go_enter Tryz.func27, Tryz.ntmps27
  go_wp2_with (first | ((with_reducible refine gc_ 29 rfl ?_); refine goB (some 6) Tryz.func29 #[.string a0] bq (rFCheck.calls k a0 t675 _ A2.out) ?_; clear HB; intro w5 HB) | ((with_reducible refine gc_ 76 rfl ?_); refine goB (some 11) Tryz.func76 #[.string a0] bq (rFUp.calls k a0 t676 _ A4.out) ?_; clear HB; intro w6 HB))
  go_ret2
  exact finE
 simp only [Option.some.injEq, Prod.mk.injEq] at H
 obtain ⟨rfl, rfl⟩ := H
 go_enter Tryz.func27, Tryz.ntmps27
 go_wp2_with (first | ((with_reducible refine gc_ 29 rfl ?_); refine goB (some 6) Tryz.func29 #[.string a0] bq (rFCheck.calls k a0 t675 _ A2.out) ?_; clear HB; intro w7 HB))
 go_ret2
 exact finE
theorem rFDen.calls (k : Nat) (a0 : ByteArray) (r1 : ByteArray) (r2 : Int) (w : World) (h : rFDen.f k a0 = some (r1, r2)) :
  Calls Tryz.prog 24 #[.string a0] w fun e w' => e = .returned (.tuple #[.string r1, .int .i64 r2]) ∧ Below w.heap.size w w' := by
 have HB := Z0.mk (Below.refl w.heap.size w)
 have H := h
 clear h
 unfold rFDen.f at H
 obtain ⟨t657, A2, H⟩ := bnd H
 rcases je H with ⟨-, c3b0, c3b1, H⟩ | ⟨c3, c3b0, c3b1, H⟩
 ·obtain ⟨t658, A4, H⟩ := bnd H
  simp only [Option.some.injEq, Prod.mk.injEq] at H
  obtain ⟨rfl, rfl⟩ := H
  go_enter Tryz.func24, Tryz.ntmps24
  go_wp2_with (first | ((with_reducible refine gc_ 29 rfl ?_); refine goB (some 6) Tryz.func29 #[.string a0] bq (rFCheck.calls k a0 t657 _ A2.out) ?_; clear HB; intro w5 HB) | ((with_reducible refine gc_ 73 rfl ?_); refine goD (some 11) Tryz.func73 #[.string a0] (rFBottom.calls k a0 t658 _ A4.out) ?_; intro nd))
  go_ret2
  exact finE
 simp only [Option.some.injEq, Prod.mk.injEq] at H
 obtain ⟨rfl, rfl⟩ := H
 go_enter Tryz.func24, Tryz.ntmps24
 go_wp2_with (first | ((with_reducible refine gc_ 29 rfl ?_); refine goB (some 6) Tryz.func29 #[.string a0] bq (rFCheck.calls k a0 t657 _ A2.out) ?_; clear HB; intro w6 HB))
 go_ret2
 exact finE
theorem rFFew.calls (a0 : ByteArray) (r : Bool) (w : World) (h : rFFew.f a0 = some r) :
  Calls Tryz.prog 16 #[.string a0] w fun e w' => e = .returned (.bool r) ∧ Drawn0 w w' := by
 have H := h
 clear h
 unfold rFFew.f at H
 obtain rfl := Option.some.inj H
 go_enter Tryz.func16, Tryz.ntmps16
 go_wp2
 go_ret
 exact finD
theorem rFDown.calls (k : Nat) (a0 : ByteArray) (r : ByteArray) (w : World) (h : rFDown.f k a0 = some r) :
  Calls Tryz.prog 75 #[.string a0] w fun e w' => e = .returned (.string r) ∧ Below w.heap.size w w' := by
 have HB := Z0.mk (Below.refl w.heap.size w)
 have H := h
 clear h
 unfold rFDown.f at H
 obtain ⟨t665, A2, H⟩ := bnd H
 obtain ⟨t666, A3, H⟩ := bnd H
 obtain ⟨t667, A4, H⟩ := bnd H
 obtain rfl := Option.some.inj H
 go_enter Tryz.func75, Tryz.ntmps75
 go_wp2_with (first | ((with_reducible refine gc_ 72 rfl ?_); refine goD (some 4) Tryz.func72 #[.string a0] (rFTop.calls k a0 t665 _ A2.out) ?_; intro nd) | ((with_reducible refine gc_ 73 rfl ?_); refine goD (some 6) Tryz.func73 #[.string a0] (rFBottom.calls k a0 t666 _ A3.out) ?_; intro nd) | ((with_reducible refine gc_ 115 rfl ?_); refine goB (some 7) Tryz.func115 #[.string t665, .string t666] bq (rEFloor.calls k t665 t666 t667 _ A4.out) ?_; clear HB; intro w5 HB))
 go_ret
 exact finE
theorem rFFloor.calls (k : Nat) (a0 : ByteArray) (r1 : ByteArray) (r2 : Int) (w : World) (h : rFFloor.f k a0 = some (r1, r2)) :
  Calls Tryz.prog 26 #[.string a0] w fun e w' => e = .returned (.tuple #[.string r1, .int .i64 r2]) ∧ Below w.heap.size w w' := by
 have HB := Z0.mk (Below.refl w.heap.size w)
 have H := h
 clear h
 unfold rFFloor.f at H
 obtain ⟨t668, A2, H⟩ := bnd H
 rcases je H with ⟨-, c3b0, c3b1, H⟩ | ⟨c3, c3b0, c3b1, H⟩
 ·obtain ⟨t669, A4, H⟩ := bnd H
  simp only [Option.some.injEq, Prod.mk.injEq] at H
  obtain ⟨rfl, rfl⟩ := H
  go_enter Tryz.func26, Tryz.ntmps26
  go_wp2_with (first | ((with_reducible refine gc_ 29 rfl ?_); refine goB (some 6) Tryz.func29 #[.string a0] bq (rFCheck.calls k a0 t668 _ A2.out) ?_; clear HB; intro w5 HB) | ((with_reducible refine gc_ 75 rfl ?_); refine goB (some 11) Tryz.func75 #[.string a0] bq (rFDown.calls k a0 t669 _ A4.out) ?_; clear HB; intro w6 HB))
  go_ret2
  exact finE
 simp only [Option.some.injEq, Prod.mk.injEq] at H
 obtain ⟨rfl, rfl⟩ := H
 go_enter Tryz.func26, Tryz.ntmps26
 go_wp2_with (first | ((with_reducible refine gc_ 29 rfl ?_); refine goB (some 6) Tryz.func29 #[.string a0] bq (rFCheck.calls k a0 t668 _ A2.out) ?_; clear HB; intro w7 HB))
 go_ret2
 exact finE
theorem rFNegated.calls (k : Nat) (a0 : ByteArray) (r : ByteArray) (w : World) (h : rFNegated.f k a0 = some r) :
  Calls Tryz.prog 74 #[.string a0] w fun e w' => e = .returned (.string r) ∧ Drawn0 w w' := by
 have H := h
 clear h
 unfold rFNegated.f at H
 obtain ⟨t659, A2, H⟩ := bnd H
 rcases jh H with ⟨-, c3b0, H⟩ | ⟨-, c3b0, H⟩
 ·obtain ⟨t660, A4, H⟩ := bnd H
  obtain ⟨t661, A5, H⟩ := bnd H
  obtain ⟨-, c6b0, c6b1, H⟩ := gt H
  obtain ⟨-, c7b0, c7b1, H⟩ := gt H
  obtain ⟨c8, c8b0, c8b1, H⟩ := gt H
  try have c8b2 : (9223372036854775807 < t661.size + (a0.extract (t659 : Int).toNat a0.size).size) = False := eq_false (Nat.not_lt.2 c8)
  obtain rfl := Option.some.inj H
  go_enter Tryz.func74, Tryz.ntmps74
  go_wp2_with (first | (go_at_call 113; (with_reducible refine (rFslash.calls k a0 t659 _ A2.out).mono ?_); rintro e w' ⟨rfl, ⟨nd, rfl⟩⟩; (try first | exact ⟨rfl, _, World.drewN_drewN _ _ _⟩ | exact ⟨rfl, _, Eq.trans (World.drewN_drewN _ _ _) (congrArg (World.drewN _) (Nat.add_assoc _ _ _))⟩)) | (go_at_call 72; (with_reducible refine (rFTop.calls k a0 t660 _ A4.out).mono ?_); rintro e w' ⟨rfl, ⟨nd, rfl⟩⟩; (try first | exact ⟨rfl, _, World.drewN_drewN _ _ _⟩ | exact ⟨rfl, _, Eq.trans (World.drewN_drewN _ _ _) (congrArg (World.drewN _) (Nat.add_assoc _ _ _))⟩)) | (go_at_call 114; (with_reducible refine (rENegated.calls t660 t661 _ A5.out).mono ?_); rintro e w' ⟨rfl, ⟨nd, rfl⟩⟩; (try first | exact ⟨rfl, _, World.drewN_drewN _ _ _⟩ | exact ⟨rfl, _, Eq.trans (World.drewN_drewN _ _ _) (congrArg (World.drewN _) (Nat.add_assoc _ _ _))⟩)) | (go_quiet (first | (go_at_call 113; (with_reducible refine (rFslash.calls k a0 t659 _ A2.out).mono ?_); rintro e w' ⟨rfl, ⟨nd, rfl⟩⟩; (try first | exact ⟨rfl, _, World.drewN_drewN _ _ _⟩ | exact ⟨rfl, _, Eq.trans (World.drewN_drewN _ _ _) (congrArg (World.drewN _) (Nat.add_assoc _ _ _))⟩)) | (go_at_call 72; (with_reducible refine (rFTop.calls k a0 t660 _ A4.out).mono ?_); rintro e w' ⟨rfl, ⟨nd, rfl⟩⟩; (try first | exact ⟨rfl, _, World.drewN_drewN _ _ _⟩ | exact ⟨rfl, _, Eq.trans (World.drewN_drewN _ _ _) (congrArg (World.drewN _) (Nat.add_assoc _ _ _))⟩)) | (go_at_call 114; (with_reducible refine (rENegated.calls t660 t661 _ A5.out).mono ?_); rintro e w' ⟨rfl, ⟨nd, rfl⟩⟩; (try first | exact ⟨rfl, _, World.drewN_drewN _ _ _⟩ | exact ⟨rfl, _, Eq.trans (World.drewN_drewN _ _ _) (congrArg (World.drewN _) (Nat.add_assoc _ _ _))⟩)))))
  go_ret
  exact finD
 obtain ⟨t662, A9, H⟩ := bnd H
 obtain rfl := Option.some.inj H
 go_enter Tryz.func74, Tryz.ntmps74
 go_wp2_with (first | (go_at_call 113; (with_reducible refine (rFslash.calls k a0 t659 _ A2.out).mono ?_); rintro e w' ⟨rfl, ⟨nd, rfl⟩⟩; (try first | exact ⟨rfl, _, World.drewN_drewN _ _ _⟩ | exact ⟨rfl, _, Eq.trans (World.drewN_drewN _ _ _) (congrArg (World.drewN _) (Nat.add_assoc _ _ _))⟩)) | (go_at_call 114; (with_reducible refine (rENegated.calls a0 t662 _ A9.out).mono ?_); rintro e w' ⟨rfl, ⟨nd, rfl⟩⟩; (try first | exact ⟨rfl, _, World.drewN_drewN _ _ _⟩ | exact ⟨rfl, _, Eq.trans (World.drewN_drewN _ _ _) (congrArg (World.drewN _) (Nat.add_assoc _ _ _))⟩)) | (go_quiet (first | (go_at_call 113; (with_reducible refine (rFslash.calls k a0 t659 _ A2.out).mono ?_); rintro e w' ⟨rfl, ⟨nd, rfl⟩⟩; (try first | exact ⟨rfl, _, World.drewN_drewN _ _ _⟩ | exact ⟨rfl, _, Eq.trans (World.drewN_drewN _ _ _) (congrArg (World.drewN _) (Nat.add_assoc _ _ _))⟩)) | (go_at_call 114; (with_reducible refine (rENegated.calls a0 t662 _ A9.out).mono ?_); rintro e w' ⟨rfl, ⟨nd, rfl⟩⟩; (try first | exact ⟨rfl, _, World.drewN_drewN _ _ _⟩ | exact ⟨rfl, _, Eq.trans (World.drewN_drewN _ _ _) (congrArg (World.drewN _) (Nat.add_assoc _ _ _))⟩)))))
 go_ret
 exact finD
theorem rFNeg.calls (k : Nat) (a0 : ByteArray) (r1 : ByteArray) (r2 : Int) (w : World) (h : rFNeg.f k a0 = some (r1, r2)) :
  Calls Tryz.prog 25 #[.string a0] w fun e w' => e = .returned (.tuple #[.string r1, .int .i64 r2]) ∧ Below w.heap.size w w' := by
 have HB := Z0.mk (Below.refl w.heap.size w)
 have H := h
 clear h
 unfold rFNeg.f at H
 obtain ⟨t663, A2, H⟩ := bnd H
 rcases je H with ⟨-, c3b0, c3b1, H⟩ | ⟨c3, c3b0, c3b1, H⟩
 ·obtain ⟨t664, A4, H⟩ := bnd H
  simp only [Option.some.injEq, Prod.mk.injEq] at H
  obtain ⟨rfl, rfl⟩ := H
  go_enter Tryz.func25, Tryz.ntmps25
  go_wp2_with (first | ((with_reducible refine gc_ 29 rfl ?_); refine goB (some 6) Tryz.func29 #[.string a0] bq (rFCheck.calls k a0 t663 _ A2.out) ?_; clear HB; intro w5 HB) | ((with_reducible refine gc_ 74 rfl ?_); refine goD (some 11) Tryz.func74 #[.string a0] (rFNegated.calls k a0 t664 _ A4.out) ?_; intro nd))
  go_ret2
  exact finE
 simp only [Option.some.injEq, Prod.mk.injEq] at H
 obtain ⟨rfl, rfl⟩ := H
 go_enter Tryz.func25, Tryz.ntmps25
 go_wp2_with (first | ((with_reducible refine gc_ 29 rfl ?_); refine goB (some 6) Tryz.func29 #[.string a0] bq (rFCheck.calls k a0 t663 _ A2.out) ?_; clear HB; intro w6 HB))
 go_ret2
 exact finE
theorem rFNum.calls (k : Nat) (a0 : ByteArray) (r1 : ByteArray) (r2 : Int) (w : World) (h : rFNum.f k a0 = some (r1, r2)) :
  Calls Tryz.prog 23 #[.string a0] w fun e w' => e = .returned (.tuple #[.string r1, .int .i64 r2]) ∧ Below w.heap.size w w' := by
 have HB := Z0.mk (Below.refl w.heap.size w)
 have H := h
 clear h
 unfold rFNum.f at H
 obtain ⟨t655, A2, H⟩ := bnd H
 rcases je H with ⟨-, c3b0, c3b1, H⟩ | ⟨c3, c3b0, c3b1, H⟩
 ·obtain ⟨t656, A4, H⟩ := bnd H
  simp only [Option.some.injEq, Prod.mk.injEq] at H
  obtain ⟨rfl, rfl⟩ := H
  go_enter Tryz.func23, Tryz.ntmps23
  go_wp2_with (first | ((with_reducible refine gc_ 29 rfl ?_); refine goB (some 6) Tryz.func29 #[.string a0] bq (rFCheck.calls k a0 t655 _ A2.out) ?_; clear HB; intro w5 HB) | ((with_reducible refine gc_ 72 rfl ?_); refine goD (some 11) Tryz.func72 #[.string a0] (rFTop.calls k a0 t656 _ A4.out) ?_; intro nd))
  go_ret2
  exact finE
 simp only [Option.some.injEq, Prod.mk.injEq] at H
 obtain ⟨rfl, rfl⟩ := H
 go_enter Tryz.func23, Tryz.ntmps23
 go_wp2_with (first | ((with_reducible refine gc_ 29 rfl ?_); refine goB (some 6) Tryz.func29 #[.string a0] bq (rFCheck.calls k a0 t655 _ A2.out) ?_; clear HB; intro w6 HB))
 go_ret2
 exact finE
theorem lWRationalChecks.calls (k : Nat) (a0 : ByteArray) (r : Bool) (w : World) (hL : LaidW w) (h : lWRationalChecks.f k a0 = some r) :
  Calls Tryz.prog 3 #[.string a0] w fun e w' => e = .returned (.bool r) ∧ Below w.heap.size w w' := by
 have HB := Z0.mk (Below.refl w.heap.size w)
 have H := h
 clear h
 unfold lWRationalChecks.f at H
 obtain ⟨t677, A2, H⟩ := bnd H
 by_cases c3 : t677 = true
 ·subst c3
  have H1 : ((rANum.f k a0).bind fun bt679 => ((rADen.f k a0).bind fun bt681 => ((rANeg.f k a0).bind fun bt683 => ((rAFloor.f k a0).bind fun bt685 => ((rACeil.f k a0).bind fun bt687 => ((rFNum.f k a0).bind fun bt689 => ((rFDen.f k a0).bind fun bt691 => ((rFNeg.f k a0).bind fun bt693 => ((rFFloor.f k a0).bind fun bt695 => ((rFCeil.f k a0).bind fun bt697 => ((lWawake.f k).bind fun t699 => (if t699 = true then ((rACheck.f k a0).bind fun t700 => ((rFCheck.f k a0).bind fun t701 => (if t700 = t701 then (if bt679.1.toList = bt689.1.toList then (if bt679.2 = bt689.2 then (if bt681.1.toList = bt691.1.toList then (if bt681.2 = bt691.2 then (if bt683.1.toList = bt693.1.toList then (if bt683.2 = bt693.2 then (if bt685.1.toList = bt695.1.toList then (if bt685.2 = bt695.2 then (if bt687.1.toList = bt697.1.toList then (some (bt687.2 == bt697.2)) else (some false)) else (some false)) else (some false)) else (some false)) else (some false)) else (some false)) else (some false)) else (some false)) else (some false)) else (some false)))) else (some false))))))))))))) = some r := by rw [if_pos rfl] at H; exact H
  clear H
  have H := H1
  clear H1
  obtain ⟨⟨t679, t680⟩, A4, H⟩ := bnd H
  try dsimp only at H
  obtain ⟨⟨t681, t682⟩, A5, H⟩ := bnd H
  try dsimp only at H
  obtain ⟨⟨t683, t684⟩, A6, H⟩ := bnd H
  try dsimp only at H
  obtain ⟨⟨t685, t686⟩, A7, H⟩ := bnd H
  try dsimp only at H
  obtain ⟨⟨t687, t688⟩, A8, H⟩ := bnd H
  try dsimp only at H
  obtain ⟨⟨t689, t690⟩, A9, H⟩ := bnd H
  try dsimp only at H
  obtain ⟨⟨t691, t692⟩, A10, H⟩ := bnd H
  try dsimp only at H
  obtain ⟨⟨t693, t694⟩, A11, H⟩ := bnd H
  try dsimp only at H
  obtain ⟨⟨t695, t696⟩, A12, H⟩ := bnd H
  try dsimp only at H
  obtain ⟨⟨t697, t698⟩, A13, H⟩ := bnd H
  try dsimp only at H
  obtain ⟨t699, A14, H⟩ := bnd H
  by_cases c15 : t699 = true
  ·subst c15
   have H1 : ((rACheck.f k a0).bind fun t700 => ((rFCheck.f k a0).bind fun t701 => (if t700 = t701 then (if t679.toList = t689.toList then (if t680 = t690 then (if t681.toList = t691.toList then (if t682 = t692 then (if t683.toList = t693.toList then (if t684 = t694 then (if t685.toList = t695.toList then (if t686 = t696 then (if t687.toList = t697.toList then (some (t688 == t698)) else (some false)) else (some false)) else (some false)) else (some false)) else (some false)) else (some false)) else (some false)) else (some false)) else (some false)) else (some false)))) = some r := by rw [if_pos rfl] at H; exact H
   clear H
   have H := H1
   clear H1
   obtain ⟨t700, A16, H⟩ := bnd H
   obtain ⟨t701, A17, H⟩ := bnd H
   rcases je H with ⟨-, c18b0, c18b1, H⟩ | ⟨c18, c18b0, c18b1, H⟩
   ·rcases je H with ⟨-, c19b0, c19b1, H⟩ | ⟨c19, c19b0, c19b1, H⟩
    ·rcases je H with ⟨-, c20b0, c20b1, H⟩ | ⟨c20, c20b0, c20b1, H⟩
     ·rcases je H with ⟨-, c21b0, c21b1, H⟩ | ⟨c21, c21b0, c21b1, H⟩
      ·rcases je H with ⟨-, c22b0, c22b1, H⟩ | ⟨c22, c22b0, c22b1, H⟩
       ·rcases je H with ⟨-, c23b0, c23b1, H⟩ | ⟨c23, c23b0, c23b1, H⟩
        ·rcases je H with ⟨-, c24b0, c24b1, H⟩ | ⟨c24, c24b0, c24b1, H⟩
         ·rcases je H with ⟨-, c25b0, c25b1, H⟩ | ⟨c25, c25b0, c25b1, H⟩
          ·rcases je H with ⟨-, c26b0, c26b1, H⟩ | ⟨c26, c26b0, c26b1, H⟩
           ·rcases je H with ⟨-, c27b0, c27b1, H⟩ | ⟨c27, c27b0, c27b1, H⟩
            ·obtain rfl := Option.some.inj H
             go_enter Tryz.func3, Tryz.ntmps3
             go_wp2_with (first | ((with_reducible refine gc_ 16 rfl ?_); refine goD (some 24) Tryz.func16 #[.string a0] (rFFew.calls a0 true _ A2.out) ?_; intro nd) | ((with_reducible refine gc_ 18 rfl ?_); refine goB (some 29) Tryz.func18 #[.string a0] bq (rANum.calls k a0 t679 t680 _ (hL.below bq) A4.out) ?_; clear HB; intro w28 HB) | ((with_reducible refine gc_ 19 rfl ?_); refine goB (some 34) Tryz.func19 #[.string a0] bq (rADen.calls k a0 t681 t682 _ (hL.below bq) A5.out) ?_; clear HB; intro w29 HB) | ((with_reducible refine gc_ 20 rfl ?_); refine goB (some 39) Tryz.func20 #[.string a0] bq (rANeg.calls k a0 t683 t684 _ (hL.below bq) A6.out) ?_; clear HB; intro w30 HB) | ((with_reducible refine gc_ 21 rfl ?_); refine goB (some 44) Tryz.func21 #[.string a0] bq (rAFloor.calls k a0 t685 t686 _ (hL.below bq) A7.out) ?_; clear HB; intro w31 HB) | ((with_reducible refine gc_ 22 rfl ?_); refine goB (some 49) Tryz.func22 #[.string a0] bq (rACeil.calls k a0 t687 t688 _ (hL.below bq) A8.out) ?_; clear HB; intro w32 HB) | ((with_reducible refine gc_ 23 rfl ?_); refine goB (some 54) Tryz.func23 #[.string a0] bq (rFNum.calls k a0 t689 t690 _ A9.out) ?_; clear HB; intro w33 HB) | ((with_reducible refine gc_ 24 rfl ?_); refine goB (some 59) Tryz.func24 #[.string a0] bq (rFDen.calls k a0 t691 t692 _ A10.out) ?_; clear HB; intro w34 HB) | ((with_reducible refine gc_ 25 rfl ?_); refine goB (some 64) Tryz.func25 #[.string a0] bq (rFNeg.calls k a0 t693 t694 _ A11.out) ?_; clear HB; intro w35 HB) | ((with_reducible refine gc_ 26 rfl ?_); refine goB (some 69) Tryz.func26 #[.string a0] bq (rFFloor.calls k a0 t695 t696 _ A12.out) ?_; clear HB; intro w36 HB) | ((with_reducible refine gc_ 27 rfl ?_); refine goB (some 74) Tryz.func27 #[.string a0] bq (rFCeil.calls k a0 t697 t698 _ A13.out) ?_; clear HB; intro w37 HB) | ((with_reducible refine gc_ 17 rfl ?_); refine goB (some 77) Tryz.func17 #[] bq (lWawake.calls k  true _ (hL.below bq) A14.out) ?_; clear HB; intro w38 HB) | (go_at_call 28; (with_reducible refine (rACheck.calls k a0 t700 _ ?side1 A16.out).mono ?_); (case side1 => exact LaidW.below hL bqs); rintro e w39 ⟨rfl, hb⟩; replace HB := fB HB hb; clear hb) | (go_at_call 29; (with_reducible refine (rFCheck.calls k a0 t701 _ A17.out).mono ?_); rintro e w40 ⟨rfl, hb⟩; replace HB := fB HB hb; clear hb))
             go_ret
             exact finE
            obtain rfl := Option.some.inj H
            go_enter Tryz.func3, Tryz.ntmps3
            go_wp2_with (first | ((with_reducible refine gc_ 16 rfl ?_); refine goD (some 24) Tryz.func16 #[.string a0] (rFFew.calls a0 true _ A2.out) ?_; intro nd) | ((with_reducible refine gc_ 18 rfl ?_); refine goB (some 29) Tryz.func18 #[.string a0] bq (rANum.calls k a0 t679 t680 _ (hL.below bq) A4.out) ?_; clear HB; intro w41 HB) | ((with_reducible refine gc_ 19 rfl ?_); refine goB (some 34) Tryz.func19 #[.string a0] bq (rADen.calls k a0 t681 t682 _ (hL.below bq) A5.out) ?_; clear HB; intro w42 HB) | ((with_reducible refine gc_ 20 rfl ?_); refine goB (some 39) Tryz.func20 #[.string a0] bq (rANeg.calls k a0 t683 t684 _ (hL.below bq) A6.out) ?_; clear HB; intro w43 HB) | ((with_reducible refine gc_ 21 rfl ?_); refine goB (some 44) Tryz.func21 #[.string a0] bq (rAFloor.calls k a0 t685 t686 _ (hL.below bq) A7.out) ?_; clear HB; intro w44 HB) | ((with_reducible refine gc_ 22 rfl ?_); refine goB (some 49) Tryz.func22 #[.string a0] bq (rACeil.calls k a0 t687 t688 _ (hL.below bq) A8.out) ?_; clear HB; intro w45 HB) | ((with_reducible refine gc_ 23 rfl ?_); refine goB (some 54) Tryz.func23 #[.string a0] bq (rFNum.calls k a0 t689 t690 _ A9.out) ?_; clear HB; intro w46 HB) | ((with_reducible refine gc_ 24 rfl ?_); refine goB (some 59) Tryz.func24 #[.string a0] bq (rFDen.calls k a0 t691 t692 _ A10.out) ?_; clear HB; intro w47 HB) | ((with_reducible refine gc_ 25 rfl ?_); refine goB (some 64) Tryz.func25 #[.string a0] bq (rFNeg.calls k a0 t693 t694 _ A11.out) ?_; clear HB; intro w48 HB) | ((with_reducible refine gc_ 26 rfl ?_); refine goB (some 69) Tryz.func26 #[.string a0] bq (rFFloor.calls k a0 t695 t696 _ A12.out) ?_; clear HB; intro w49 HB) | ((with_reducible refine gc_ 27 rfl ?_); refine goB (some 74) Tryz.func27 #[.string a0] bq (rFCeil.calls k a0 t697 t698 _ A13.out) ?_; clear HB; intro w50 HB) | ((with_reducible refine gc_ 17 rfl ?_); refine goB (some 77) Tryz.func17 #[] bq (lWawake.calls k  true _ (hL.below bq) A14.out) ?_; clear HB; intro w51 HB) | (go_at_call 28; (with_reducible refine (rACheck.calls k a0 t700 _ ?side1 A16.out).mono ?_); (case side1 => exact LaidW.below hL bqs); rintro e w52 ⟨rfl, hb⟩; replace HB := fB HB hb; clear hb) | (go_at_call 29; (with_reducible refine (rFCheck.calls k a0 t701 _ A17.out).mono ?_); rintro e w53 ⟨rfl, hb⟩; replace HB := fB HB hb; clear hb))
            go_ret
            exact finE
           obtain rfl := Option.some.inj H
           go_enter Tryz.func3, Tryz.ntmps3
           go_wp2_with (first | ((with_reducible refine gc_ 16 rfl ?_); refine goD (some 24) Tryz.func16 #[.string a0] (rFFew.calls a0 true _ A2.out) ?_; intro nd) | ((with_reducible refine gc_ 18 rfl ?_); refine goB (some 29) Tryz.func18 #[.string a0] bq (rANum.calls k a0 t679 t680 _ (hL.below bq) A4.out) ?_; clear HB; intro w54 HB) | ((with_reducible refine gc_ 19 rfl ?_); refine goB (some 34) Tryz.func19 #[.string a0] bq (rADen.calls k a0 t681 t682 _ (hL.below bq) A5.out) ?_; clear HB; intro w55 HB) | ((with_reducible refine gc_ 20 rfl ?_); refine goB (some 39) Tryz.func20 #[.string a0] bq (rANeg.calls k a0 t683 t684 _ (hL.below bq) A6.out) ?_; clear HB; intro w56 HB) | ((with_reducible refine gc_ 21 rfl ?_); refine goB (some 44) Tryz.func21 #[.string a0] bq (rAFloor.calls k a0 t685 t686 _ (hL.below bq) A7.out) ?_; clear HB; intro w57 HB) | ((with_reducible refine gc_ 22 rfl ?_); refine goB (some 49) Tryz.func22 #[.string a0] bq (rACeil.calls k a0 t687 t688 _ (hL.below bq) A8.out) ?_; clear HB; intro w58 HB) | ((with_reducible refine gc_ 23 rfl ?_); refine goB (some 54) Tryz.func23 #[.string a0] bq (rFNum.calls k a0 t689 t690 _ A9.out) ?_; clear HB; intro w59 HB) | ((with_reducible refine gc_ 24 rfl ?_); refine goB (some 59) Tryz.func24 #[.string a0] bq (rFDen.calls k a0 t691 t692 _ A10.out) ?_; clear HB; intro w60 HB) | ((with_reducible refine gc_ 25 rfl ?_); refine goB (some 64) Tryz.func25 #[.string a0] bq (rFNeg.calls k a0 t693 t694 _ A11.out) ?_; clear HB; intro w61 HB) | ((with_reducible refine gc_ 26 rfl ?_); refine goB (some 69) Tryz.func26 #[.string a0] bq (rFFloor.calls k a0 t695 t696 _ A12.out) ?_; clear HB; intro w62 HB) | ((with_reducible refine gc_ 27 rfl ?_); refine goB (some 74) Tryz.func27 #[.string a0] bq (rFCeil.calls k a0 t697 t698 _ A13.out) ?_; clear HB; intro w63 HB) | ((with_reducible refine gc_ 17 rfl ?_); refine goB (some 77) Tryz.func17 #[] bq (lWawake.calls k  true _ (hL.below bq) A14.out) ?_; clear HB; intro w64 HB) | (go_at_call 28; (with_reducible refine (rACheck.calls k a0 t700 _ ?side1 A16.out).mono ?_); (case side1 => exact LaidW.below hL bqs); rintro e w65 ⟨rfl, hb⟩; replace HB := fB HB hb; clear hb) | (go_at_call 29; (with_reducible refine (rFCheck.calls k a0 t701 _ A17.out).mono ?_); rintro e w66 ⟨rfl, hb⟩; replace HB := fB HB hb; clear hb))
           go_ret
           exact finE
          obtain rfl := Option.some.inj H
          go_enter Tryz.func3, Tryz.ntmps3
          go_wp2_with (first | ((with_reducible refine gc_ 16 rfl ?_); refine goD (some 24) Tryz.func16 #[.string a0] (rFFew.calls a0 true _ A2.out) ?_; intro nd) | ((with_reducible refine gc_ 18 rfl ?_); refine goB (some 29) Tryz.func18 #[.string a0] bq (rANum.calls k a0 t679 t680 _ (hL.below bq) A4.out) ?_; clear HB; intro w67 HB) | ((with_reducible refine gc_ 19 rfl ?_); refine goB (some 34) Tryz.func19 #[.string a0] bq (rADen.calls k a0 t681 t682 _ (hL.below bq) A5.out) ?_; clear HB; intro w68 HB) | ((with_reducible refine gc_ 20 rfl ?_); refine goB (some 39) Tryz.func20 #[.string a0] bq (rANeg.calls k a0 t683 t684 _ (hL.below bq) A6.out) ?_; clear HB; intro w69 HB) | ((with_reducible refine gc_ 21 rfl ?_); refine goB (some 44) Tryz.func21 #[.string a0] bq (rAFloor.calls k a0 t685 t686 _ (hL.below bq) A7.out) ?_; clear HB; intro w70 HB) | ((with_reducible refine gc_ 22 rfl ?_); refine goB (some 49) Tryz.func22 #[.string a0] bq (rACeil.calls k a0 t687 t688 _ (hL.below bq) A8.out) ?_; clear HB; intro w71 HB) | ((with_reducible refine gc_ 23 rfl ?_); refine goB (some 54) Tryz.func23 #[.string a0] bq (rFNum.calls k a0 t689 t690 _ A9.out) ?_; clear HB; intro w72 HB) | ((with_reducible refine gc_ 24 rfl ?_); refine goB (some 59) Tryz.func24 #[.string a0] bq (rFDen.calls k a0 t691 t692 _ A10.out) ?_; clear HB; intro w73 HB) | ((with_reducible refine gc_ 25 rfl ?_); refine goB (some 64) Tryz.func25 #[.string a0] bq (rFNeg.calls k a0 t693 t694 _ A11.out) ?_; clear HB; intro w74 HB) | ((with_reducible refine gc_ 26 rfl ?_); refine goB (some 69) Tryz.func26 #[.string a0] bq (rFFloor.calls k a0 t695 t696 _ A12.out) ?_; clear HB; intro w75 HB) | ((with_reducible refine gc_ 27 rfl ?_); refine goB (some 74) Tryz.func27 #[.string a0] bq (rFCeil.calls k a0 t697 t698 _ A13.out) ?_; clear HB; intro w76 HB) | ((with_reducible refine gc_ 17 rfl ?_); refine goB (some 77) Tryz.func17 #[] bq (lWawake.calls k  true _ (hL.below bq) A14.out) ?_; clear HB; intro w77 HB) | (go_at_call 28; (with_reducible refine (rACheck.calls k a0 t700 _ ?side1 A16.out).mono ?_); (case side1 => exact LaidW.below hL bqs); rintro e w78 ⟨rfl, hb⟩; replace HB := fB HB hb; clear hb) | (go_at_call 29; (with_reducible refine (rFCheck.calls k a0 t701 _ A17.out).mono ?_); rintro e w79 ⟨rfl, hb⟩; replace HB := fB HB hb; clear hb))
          go_ret
          exact finE
         obtain rfl := Option.some.inj H
         go_enter Tryz.func3, Tryz.ntmps3
         go_wp2_with (first | ((with_reducible refine gc_ 16 rfl ?_); refine goD (some 24) Tryz.func16 #[.string a0] (rFFew.calls a0 true _ A2.out) ?_; intro nd) | ((with_reducible refine gc_ 18 rfl ?_); refine goB (some 29) Tryz.func18 #[.string a0] bq (rANum.calls k a0 t679 t680 _ (hL.below bq) A4.out) ?_; clear HB; intro w80 HB) | ((with_reducible refine gc_ 19 rfl ?_); refine goB (some 34) Tryz.func19 #[.string a0] bq (rADen.calls k a0 t681 t682 _ (hL.below bq) A5.out) ?_; clear HB; intro w81 HB) | ((with_reducible refine gc_ 20 rfl ?_); refine goB (some 39) Tryz.func20 #[.string a0] bq (rANeg.calls k a0 t683 t684 _ (hL.below bq) A6.out) ?_; clear HB; intro w82 HB) | ((with_reducible refine gc_ 21 rfl ?_); refine goB (some 44) Tryz.func21 #[.string a0] bq (rAFloor.calls k a0 t685 t686 _ (hL.below bq) A7.out) ?_; clear HB; intro w83 HB) | ((with_reducible refine gc_ 22 rfl ?_); refine goB (some 49) Tryz.func22 #[.string a0] bq (rACeil.calls k a0 t687 t688 _ (hL.below bq) A8.out) ?_; clear HB; intro w84 HB) | ((with_reducible refine gc_ 23 rfl ?_); refine goB (some 54) Tryz.func23 #[.string a0] bq (rFNum.calls k a0 t689 t690 _ A9.out) ?_; clear HB; intro w85 HB) | ((with_reducible refine gc_ 24 rfl ?_); refine goB (some 59) Tryz.func24 #[.string a0] bq (rFDen.calls k a0 t691 t692 _ A10.out) ?_; clear HB; intro w86 HB) | ((with_reducible refine gc_ 25 rfl ?_); refine goB (some 64) Tryz.func25 #[.string a0] bq (rFNeg.calls k a0 t693 t694 _ A11.out) ?_; clear HB; intro w87 HB) | ((with_reducible refine gc_ 26 rfl ?_); refine goB (some 69) Tryz.func26 #[.string a0] bq (rFFloor.calls k a0 t695 t696 _ A12.out) ?_; clear HB; intro w88 HB) | ((with_reducible refine gc_ 27 rfl ?_); refine goB (some 74) Tryz.func27 #[.string a0] bq (rFCeil.calls k a0 t697 t698 _ A13.out) ?_; clear HB; intro w89 HB) | ((with_reducible refine gc_ 17 rfl ?_); refine goB (some 77) Tryz.func17 #[] bq (lWawake.calls k  true _ (hL.below bq) A14.out) ?_; clear HB; intro w90 HB) | (go_at_call 28; (with_reducible refine (rACheck.calls k a0 t700 _ ?side1 A16.out).mono ?_); (case side1 => exact LaidW.below hL bqs); rintro e w91 ⟨rfl, hb⟩; replace HB := fB HB hb; clear hb) | (go_at_call 29; (with_reducible refine (rFCheck.calls k a0 t701 _ A17.out).mono ?_); rintro e w92 ⟨rfl, hb⟩; replace HB := fB HB hb; clear hb))
         go_ret
         exact finE
        obtain rfl := Option.some.inj H
        go_enter Tryz.func3, Tryz.ntmps3
        go_wp2_with (first | ((with_reducible refine gc_ 16 rfl ?_); refine goD (some 24) Tryz.func16 #[.string a0] (rFFew.calls a0 true _ A2.out) ?_; intro nd) | ((with_reducible refine gc_ 18 rfl ?_); refine goB (some 29) Tryz.func18 #[.string a0] bq (rANum.calls k a0 t679 t680 _ (hL.below bq) A4.out) ?_; clear HB; intro w93 HB) | ((with_reducible refine gc_ 19 rfl ?_); refine goB (some 34) Tryz.func19 #[.string a0] bq (rADen.calls k a0 t681 t682 _ (hL.below bq) A5.out) ?_; clear HB; intro w94 HB) | ((with_reducible refine gc_ 20 rfl ?_); refine goB (some 39) Tryz.func20 #[.string a0] bq (rANeg.calls k a0 t683 t684 _ (hL.below bq) A6.out) ?_; clear HB; intro w95 HB) | ((with_reducible refine gc_ 21 rfl ?_); refine goB (some 44) Tryz.func21 #[.string a0] bq (rAFloor.calls k a0 t685 t686 _ (hL.below bq) A7.out) ?_; clear HB; intro w96 HB) | ((with_reducible refine gc_ 22 rfl ?_); refine goB (some 49) Tryz.func22 #[.string a0] bq (rACeil.calls k a0 t687 t688 _ (hL.below bq) A8.out) ?_; clear HB; intro w97 HB) | ((with_reducible refine gc_ 23 rfl ?_); refine goB (some 54) Tryz.func23 #[.string a0] bq (rFNum.calls k a0 t689 t690 _ A9.out) ?_; clear HB; intro w98 HB) | ((with_reducible refine gc_ 24 rfl ?_); refine goB (some 59) Tryz.func24 #[.string a0] bq (rFDen.calls k a0 t691 t692 _ A10.out) ?_; clear HB; intro w99 HB) | ((with_reducible refine gc_ 25 rfl ?_); refine goB (some 64) Tryz.func25 #[.string a0] bq (rFNeg.calls k a0 t693 t694 _ A11.out) ?_; clear HB; intro w100 HB) | ((with_reducible refine gc_ 26 rfl ?_); refine goB (some 69) Tryz.func26 #[.string a0] bq (rFFloor.calls k a0 t695 t696 _ A12.out) ?_; clear HB; intro w101 HB) | ((with_reducible refine gc_ 27 rfl ?_); refine goB (some 74) Tryz.func27 #[.string a0] bq (rFCeil.calls k a0 t697 t698 _ A13.out) ?_; clear HB; intro w102 HB) | ((with_reducible refine gc_ 17 rfl ?_); refine goB (some 77) Tryz.func17 #[] bq (lWawake.calls k  true _ (hL.below bq) A14.out) ?_; clear HB; intro w103 HB) | (go_at_call 28; (with_reducible refine (rACheck.calls k a0 t700 _ ?side1 A16.out).mono ?_); (case side1 => exact LaidW.below hL bqs); rintro e w104 ⟨rfl, hb⟩; replace HB := fB HB hb; clear hb) | (go_at_call 29; (with_reducible refine (rFCheck.calls k a0 t701 _ A17.out).mono ?_); rintro e w105 ⟨rfl, hb⟩; replace HB := fB HB hb; clear hb))
        go_ret
        exact finE
       obtain rfl := Option.some.inj H
       go_enter Tryz.func3, Tryz.ntmps3
       go_wp2_with (first | ((with_reducible refine gc_ 16 rfl ?_); refine goD (some 24) Tryz.func16 #[.string a0] (rFFew.calls a0 true _ A2.out) ?_; intro nd) | ((with_reducible refine gc_ 18 rfl ?_); refine goB (some 29) Tryz.func18 #[.string a0] bq (rANum.calls k a0 t679 t680 _ (hL.below bq) A4.out) ?_; clear HB; intro w106 HB) | ((with_reducible refine gc_ 19 rfl ?_); refine goB (some 34) Tryz.func19 #[.string a0] bq (rADen.calls k a0 t681 t682 _ (hL.below bq) A5.out) ?_; clear HB; intro w107 HB) | ((with_reducible refine gc_ 20 rfl ?_); refine goB (some 39) Tryz.func20 #[.string a0] bq (rANeg.calls k a0 t683 t684 _ (hL.below bq) A6.out) ?_; clear HB; intro w108 HB) | ((with_reducible refine gc_ 21 rfl ?_); refine goB (some 44) Tryz.func21 #[.string a0] bq (rAFloor.calls k a0 t685 t686 _ (hL.below bq) A7.out) ?_; clear HB; intro w109 HB) | ((with_reducible refine gc_ 22 rfl ?_); refine goB (some 49) Tryz.func22 #[.string a0] bq (rACeil.calls k a0 t687 t688 _ (hL.below bq) A8.out) ?_; clear HB; intro w110 HB) | ((with_reducible refine gc_ 23 rfl ?_); refine goB (some 54) Tryz.func23 #[.string a0] bq (rFNum.calls k a0 t689 t690 _ A9.out) ?_; clear HB; intro w111 HB) | ((with_reducible refine gc_ 24 rfl ?_); refine goB (some 59) Tryz.func24 #[.string a0] bq (rFDen.calls k a0 t691 t692 _ A10.out) ?_; clear HB; intro w112 HB) | ((with_reducible refine gc_ 25 rfl ?_); refine goB (some 64) Tryz.func25 #[.string a0] bq (rFNeg.calls k a0 t693 t694 _ A11.out) ?_; clear HB; intro w113 HB) | ((with_reducible refine gc_ 26 rfl ?_); refine goB (some 69) Tryz.func26 #[.string a0] bq (rFFloor.calls k a0 t695 t696 _ A12.out) ?_; clear HB; intro w114 HB) | ((with_reducible refine gc_ 27 rfl ?_); refine goB (some 74) Tryz.func27 #[.string a0] bq (rFCeil.calls k a0 t697 t698 _ A13.out) ?_; clear HB; intro w115 HB) | ((with_reducible refine gc_ 17 rfl ?_); refine goB (some 77) Tryz.func17 #[] bq (lWawake.calls k  true _ (hL.below bq) A14.out) ?_; clear HB; intro w116 HB) | (go_at_call 28; (with_reducible refine (rACheck.calls k a0 t700 _ ?side1 A16.out).mono ?_); (case side1 => exact LaidW.below hL bqs); rintro e w117 ⟨rfl, hb⟩; replace HB := fB HB hb; clear hb) | (go_at_call 29; (with_reducible refine (rFCheck.calls k a0 t701 _ A17.out).mono ?_); rintro e w118 ⟨rfl, hb⟩; replace HB := fB HB hb; clear hb))
       go_ret
       exact finE
      obtain rfl := Option.some.inj H
      go_enter Tryz.func3, Tryz.ntmps3
      go_wp2_with (first | ((with_reducible refine gc_ 16 rfl ?_); refine goD (some 24) Tryz.func16 #[.string a0] (rFFew.calls a0 true _ A2.out) ?_; intro nd) | ((with_reducible refine gc_ 18 rfl ?_); refine goB (some 29) Tryz.func18 #[.string a0] bq (rANum.calls k a0 t679 t680 _ (hL.below bq) A4.out) ?_; clear HB; intro w119 HB) | ((with_reducible refine gc_ 19 rfl ?_); refine goB (some 34) Tryz.func19 #[.string a0] bq (rADen.calls k a0 t681 t682 _ (hL.below bq) A5.out) ?_; clear HB; intro w120 HB) | ((with_reducible refine gc_ 20 rfl ?_); refine goB (some 39) Tryz.func20 #[.string a0] bq (rANeg.calls k a0 t683 t684 _ (hL.below bq) A6.out) ?_; clear HB; intro w121 HB) | ((with_reducible refine gc_ 21 rfl ?_); refine goB (some 44) Tryz.func21 #[.string a0] bq (rAFloor.calls k a0 t685 t686 _ (hL.below bq) A7.out) ?_; clear HB; intro w122 HB) | ((with_reducible refine gc_ 22 rfl ?_); refine goB (some 49) Tryz.func22 #[.string a0] bq (rACeil.calls k a0 t687 t688 _ (hL.below bq) A8.out) ?_; clear HB; intro w123 HB) | ((with_reducible refine gc_ 23 rfl ?_); refine goB (some 54) Tryz.func23 #[.string a0] bq (rFNum.calls k a0 t689 t690 _ A9.out) ?_; clear HB; intro w124 HB) | ((with_reducible refine gc_ 24 rfl ?_); refine goB (some 59) Tryz.func24 #[.string a0] bq (rFDen.calls k a0 t691 t692 _ A10.out) ?_; clear HB; intro w125 HB) | ((with_reducible refine gc_ 25 rfl ?_); refine goB (some 64) Tryz.func25 #[.string a0] bq (rFNeg.calls k a0 t693 t694 _ A11.out) ?_; clear HB; intro w126 HB) | ((with_reducible refine gc_ 26 rfl ?_); refine goB (some 69) Tryz.func26 #[.string a0] bq (rFFloor.calls k a0 t695 t696 _ A12.out) ?_; clear HB; intro w127 HB) | ((with_reducible refine gc_ 27 rfl ?_); refine goB (some 74) Tryz.func27 #[.string a0] bq (rFCeil.calls k a0 t697 t698 _ A13.out) ?_; clear HB; intro w128 HB) | ((with_reducible refine gc_ 17 rfl ?_); refine goB (some 77) Tryz.func17 #[] bq (lWawake.calls k  true _ (hL.below bq) A14.out) ?_; clear HB; intro w129 HB) | (go_at_call 28; (with_reducible refine (rACheck.calls k a0 t700 _ ?side1 A16.out).mono ?_); (case side1 => exact LaidW.below hL bqs); rintro e w130 ⟨rfl, hb⟩; replace HB := fB HB hb; clear hb) | (go_at_call 29; (with_reducible refine (rFCheck.calls k a0 t701 _ A17.out).mono ?_); rintro e w131 ⟨rfl, hb⟩; replace HB := fB HB hb; clear hb))
      go_ret
      exact finE
     obtain rfl := Option.some.inj H
     go_enter Tryz.func3, Tryz.ntmps3
     go_wp2_with (first | ((with_reducible refine gc_ 16 rfl ?_); refine goD (some 24) Tryz.func16 #[.string a0] (rFFew.calls a0 true _ A2.out) ?_; intro nd) | ((with_reducible refine gc_ 18 rfl ?_); refine goB (some 29) Tryz.func18 #[.string a0] bq (rANum.calls k a0 t679 t680 _ (hL.below bq) A4.out) ?_; clear HB; intro w132 HB) | ((with_reducible refine gc_ 19 rfl ?_); refine goB (some 34) Tryz.func19 #[.string a0] bq (rADen.calls k a0 t681 t682 _ (hL.below bq) A5.out) ?_; clear HB; intro w133 HB) | ((with_reducible refine gc_ 20 rfl ?_); refine goB (some 39) Tryz.func20 #[.string a0] bq (rANeg.calls k a0 t683 t684 _ (hL.below bq) A6.out) ?_; clear HB; intro w134 HB) | ((with_reducible refine gc_ 21 rfl ?_); refine goB (some 44) Tryz.func21 #[.string a0] bq (rAFloor.calls k a0 t685 t686 _ (hL.below bq) A7.out) ?_; clear HB; intro w135 HB) | ((with_reducible refine gc_ 22 rfl ?_); refine goB (some 49) Tryz.func22 #[.string a0] bq (rACeil.calls k a0 t687 t688 _ (hL.below bq) A8.out) ?_; clear HB; intro w136 HB) | ((with_reducible refine gc_ 23 rfl ?_); refine goB (some 54) Tryz.func23 #[.string a0] bq (rFNum.calls k a0 t689 t690 _ A9.out) ?_; clear HB; intro w137 HB) | ((with_reducible refine gc_ 24 rfl ?_); refine goB (some 59) Tryz.func24 #[.string a0] bq (rFDen.calls k a0 t691 t692 _ A10.out) ?_; clear HB; intro w138 HB) | ((with_reducible refine gc_ 25 rfl ?_); refine goB (some 64) Tryz.func25 #[.string a0] bq (rFNeg.calls k a0 t693 t694 _ A11.out) ?_; clear HB; intro w139 HB) | ((with_reducible refine gc_ 26 rfl ?_); refine goB (some 69) Tryz.func26 #[.string a0] bq (rFFloor.calls k a0 t695 t696 _ A12.out) ?_; clear HB; intro w140 HB) | ((with_reducible refine gc_ 27 rfl ?_); refine goB (some 74) Tryz.func27 #[.string a0] bq (rFCeil.calls k a0 t697 t698 _ A13.out) ?_; clear HB; intro w141 HB) | ((with_reducible refine gc_ 17 rfl ?_); refine goB (some 77) Tryz.func17 #[] bq (lWawake.calls k  true _ (hL.below bq) A14.out) ?_; clear HB; intro w142 HB) | (go_at_call 28; (with_reducible refine (rACheck.calls k a0 t700 _ ?side1 A16.out).mono ?_); (case side1 => exact LaidW.below hL bqs); rintro e w143 ⟨rfl, hb⟩; replace HB := fB HB hb; clear hb) | (go_at_call 29; (with_reducible refine (rFCheck.calls k a0 t701 _ A17.out).mono ?_); rintro e w144 ⟨rfl, hb⟩; replace HB := fB HB hb; clear hb))
     go_ret
     exact finE
    obtain rfl := Option.some.inj H
    go_enter Tryz.func3, Tryz.ntmps3
    go_wp2_with (first | ((with_reducible refine gc_ 16 rfl ?_); refine goD (some 24) Tryz.func16 #[.string a0] (rFFew.calls a0 true _ A2.out) ?_; intro nd) | ((with_reducible refine gc_ 18 rfl ?_); refine goB (some 29) Tryz.func18 #[.string a0] bq (rANum.calls k a0 t679 t680 _ (hL.below bq) A4.out) ?_; clear HB; intro w145 HB) | ((with_reducible refine gc_ 19 rfl ?_); refine goB (some 34) Tryz.func19 #[.string a0] bq (rADen.calls k a0 t681 t682 _ (hL.below bq) A5.out) ?_; clear HB; intro w146 HB) | ((with_reducible refine gc_ 20 rfl ?_); refine goB (some 39) Tryz.func20 #[.string a0] bq (rANeg.calls k a0 t683 t684 _ (hL.below bq) A6.out) ?_; clear HB; intro w147 HB) | ((with_reducible refine gc_ 21 rfl ?_); refine goB (some 44) Tryz.func21 #[.string a0] bq (rAFloor.calls k a0 t685 t686 _ (hL.below bq) A7.out) ?_; clear HB; intro w148 HB) | ((with_reducible refine gc_ 22 rfl ?_); refine goB (some 49) Tryz.func22 #[.string a0] bq (rACeil.calls k a0 t687 t688 _ (hL.below bq) A8.out) ?_; clear HB; intro w149 HB) | ((with_reducible refine gc_ 23 rfl ?_); refine goB (some 54) Tryz.func23 #[.string a0] bq (rFNum.calls k a0 t689 t690 _ A9.out) ?_; clear HB; intro w150 HB) | ((with_reducible refine gc_ 24 rfl ?_); refine goB (some 59) Tryz.func24 #[.string a0] bq (rFDen.calls k a0 t691 t692 _ A10.out) ?_; clear HB; intro w151 HB) | ((with_reducible refine gc_ 25 rfl ?_); refine goB (some 64) Tryz.func25 #[.string a0] bq (rFNeg.calls k a0 t693 t694 _ A11.out) ?_; clear HB; intro w152 HB) | ((with_reducible refine gc_ 26 rfl ?_); refine goB (some 69) Tryz.func26 #[.string a0] bq (rFFloor.calls k a0 t695 t696 _ A12.out) ?_; clear HB; intro w153 HB) | ((with_reducible refine gc_ 27 rfl ?_); refine goB (some 74) Tryz.func27 #[.string a0] bq (rFCeil.calls k a0 t697 t698 _ A13.out) ?_; clear HB; intro w154 HB) | ((with_reducible refine gc_ 17 rfl ?_); refine goB (some 77) Tryz.func17 #[] bq (lWawake.calls k  true _ (hL.below bq) A14.out) ?_; clear HB; intro w155 HB) | (go_at_call 28; (with_reducible refine (rACheck.calls k a0 t700 _ ?side1 A16.out).mono ?_); (case side1 => exact LaidW.below hL bqs); rintro e w156 ⟨rfl, hb⟩; replace HB := fB HB hb; clear hb) | (go_at_call 29; (with_reducible refine (rFCheck.calls k a0 t701 _ A17.out).mono ?_); rintro e w157 ⟨rfl, hb⟩; replace HB := fB HB hb; clear hb))
    go_ret
    exact finE
   obtain rfl := Option.some.inj H
   go_enter Tryz.func3, Tryz.ntmps3
   go_wp2_with (first | ((with_reducible refine gc_ 16 rfl ?_); refine goD (some 24) Tryz.func16 #[.string a0] (rFFew.calls a0 true _ A2.out) ?_; intro nd) | ((with_reducible refine gc_ 18 rfl ?_); refine goB (some 29) Tryz.func18 #[.string a0] bq (rANum.calls k a0 t679 t680 _ (hL.below bq) A4.out) ?_; clear HB; intro w158 HB) | ((with_reducible refine gc_ 19 rfl ?_); refine goB (some 34) Tryz.func19 #[.string a0] bq (rADen.calls k a0 t681 t682 _ (hL.below bq) A5.out) ?_; clear HB; intro w159 HB) | ((with_reducible refine gc_ 20 rfl ?_); refine goB (some 39) Tryz.func20 #[.string a0] bq (rANeg.calls k a0 t683 t684 _ (hL.below bq) A6.out) ?_; clear HB; intro w160 HB) | ((with_reducible refine gc_ 21 rfl ?_); refine goB (some 44) Tryz.func21 #[.string a0] bq (rAFloor.calls k a0 t685 t686 _ (hL.below bq) A7.out) ?_; clear HB; intro w161 HB) | ((with_reducible refine gc_ 22 rfl ?_); refine goB (some 49) Tryz.func22 #[.string a0] bq (rACeil.calls k a0 t687 t688 _ (hL.below bq) A8.out) ?_; clear HB; intro w162 HB) | ((with_reducible refine gc_ 23 rfl ?_); refine goB (some 54) Tryz.func23 #[.string a0] bq (rFNum.calls k a0 t689 t690 _ A9.out) ?_; clear HB; intro w163 HB) | ((with_reducible refine gc_ 24 rfl ?_); refine goB (some 59) Tryz.func24 #[.string a0] bq (rFDen.calls k a0 t691 t692 _ A10.out) ?_; clear HB; intro w164 HB) | ((with_reducible refine gc_ 25 rfl ?_); refine goB (some 64) Tryz.func25 #[.string a0] bq (rFNeg.calls k a0 t693 t694 _ A11.out) ?_; clear HB; intro w165 HB) | ((with_reducible refine gc_ 26 rfl ?_); refine goB (some 69) Tryz.func26 #[.string a0] bq (rFFloor.calls k a0 t695 t696 _ A12.out) ?_; clear HB; intro w166 HB) | ((with_reducible refine gc_ 27 rfl ?_); refine goB (some 74) Tryz.func27 #[.string a0] bq (rFCeil.calls k a0 t697 t698 _ A13.out) ?_; clear HB; intro w167 HB) | ((with_reducible refine gc_ 17 rfl ?_); refine goB (some 77) Tryz.func17 #[] bq (lWawake.calls k  true _ (hL.below bq) A14.out) ?_; clear HB; intro w168 HB) | (go_at_call 28; (with_reducible refine (rACheck.calls k a0 t700 _ ?side1 A16.out).mono ?_); (case side1 => exact LaidW.below hL bqs); rintro e w169 ⟨rfl, hb⟩; replace HB := fB HB hb; clear hb) | (go_at_call 29; (with_reducible refine (rFCheck.calls k a0 t701 _ A17.out).mono ?_); rintro e w170 ⟨rfl, hb⟩; replace HB := fB HB hb; clear hb))
   go_ret
   exact finE
  replace c15 := Bool.eq_false_iff.mpr c15
  subst c15
  have H1 : (some false) = some r := by rw [if_neg (show ¬ (false = true) by decide)] at H; exact H
  clear H
  have H := H1
  clear H1
  obtain rfl := Option.some.inj H
  go_enter Tryz.func3, Tryz.ntmps3
  go_wp2_with (first | ((with_reducible refine gc_ 16 rfl ?_); refine goD (some 24) Tryz.func16 #[.string a0] (rFFew.calls a0 true _ A2.out) ?_; intro nd) | ((with_reducible refine gc_ 18 rfl ?_); refine goB (some 29) Tryz.func18 #[.string a0] bq (rANum.calls k a0 t679 t680 _ (hL.below bq) A4.out) ?_; clear HB; intro w171 HB) | ((with_reducible refine gc_ 19 rfl ?_); refine goB (some 34) Tryz.func19 #[.string a0] bq (rADen.calls k a0 t681 t682 _ (hL.below bq) A5.out) ?_; clear HB; intro w172 HB) | ((with_reducible refine gc_ 20 rfl ?_); refine goB (some 39) Tryz.func20 #[.string a0] bq (rANeg.calls k a0 t683 t684 _ (hL.below bq) A6.out) ?_; clear HB; intro w173 HB) | ((with_reducible refine gc_ 21 rfl ?_); refine goB (some 44) Tryz.func21 #[.string a0] bq (rAFloor.calls k a0 t685 t686 _ (hL.below bq) A7.out) ?_; clear HB; intro w174 HB) | ((with_reducible refine gc_ 22 rfl ?_); refine goB (some 49) Tryz.func22 #[.string a0] bq (rACeil.calls k a0 t687 t688 _ (hL.below bq) A8.out) ?_; clear HB; intro w175 HB) | ((with_reducible refine gc_ 23 rfl ?_); refine goB (some 54) Tryz.func23 #[.string a0] bq (rFNum.calls k a0 t689 t690 _ A9.out) ?_; clear HB; intro w176 HB) | ((with_reducible refine gc_ 24 rfl ?_); refine goB (some 59) Tryz.func24 #[.string a0] bq (rFDen.calls k a0 t691 t692 _ A10.out) ?_; clear HB; intro w177 HB) | ((with_reducible refine gc_ 25 rfl ?_); refine goB (some 64) Tryz.func25 #[.string a0] bq (rFNeg.calls k a0 t693 t694 _ A11.out) ?_; clear HB; intro w178 HB) | ((with_reducible refine gc_ 26 rfl ?_); refine goB (some 69) Tryz.func26 #[.string a0] bq (rFFloor.calls k a0 t695 t696 _ A12.out) ?_; clear HB; intro w179 HB) | ((with_reducible refine gc_ 27 rfl ?_); refine goB (some 74) Tryz.func27 #[.string a0] bq (rFCeil.calls k a0 t697 t698 _ A13.out) ?_; clear HB; intro w180 HB) | ((with_reducible refine gc_ 17 rfl ?_); refine goB (some 77) Tryz.func17 #[] bq (lWawake.calls k  false _ (hL.below bq) A14.out) ?_; clear HB; intro w181 HB))
  go_ret
  exact finE
 replace c3 := Bool.eq_false_iff.mpr c3
 subst c3
 have H1 : ((lWawake.f k).bind fun t678 => (some t678)) = some r := by rw [if_neg (show ¬ (false = true) by decide)] at H; exact H
 clear H
 have H := H1
 clear H1
 obtain ⟨t678, A182, H⟩ := bnd H
 obtain rfl := Option.some.inj H
 go_enter Tryz.func3, Tryz.ntmps3
 go_wp2_with (first | ((with_reducible refine gc_ 16 rfl ?_); refine goD (some 24) Tryz.func16 #[.string a0] (rFFew.calls a0 false _ A2.out) ?_; intro nd) | ((with_reducible refine gc_ 17 rfl ?_); refine goB (some 26) Tryz.func17 #[] bq (lWawake.calls k  t678 _ (hL.below bq) A182.out) ?_; clear HB; intro w183 HB))
 go_ret
 exact finE
end Go.Proofs.YthnfajboebaajaaGreatDoor.PA
namespace Go.Proofs.YthnfajboebaajaaGreatDoor.Rb
open Go.ChangeShapes Go.WideShapes Go.ChangeAt Go.RowKit
theorem and_ {a b : Bool} (h : a = true) (k : b = true) : (a && b) = true := by rw [h, k]; rfl
theorem own : ownKnob Tryz.prog.godebug = none := by kernel_rfl
abbrev laid : List (String × DataW Unit) := Rows.rationalMakesRow.laid
theorem shaped (os : Os) (args : Array Value) : ((World.laidAll Tryz.prog os laid).forCall (fun _ _ => 0) ⟨#[], args, []⟩).Shaped Tryz.checked.prog := World.shaped_of_ZipB (by kernel_rfl) (by kernel_rfl)
theorem met (os : Os) (args : Array Value) : laidMetH Tryz.prog laid ((World.laidAll Tryz.prog os laid).forCall (fun _ _ => 0) ⟨#[], args, []⟩).memory := by
 rw [MakeChecks.laidMetH_plain _ _ _ (by kernel_rfl)]
 exact laidMet_laidAll _ (by kernel_rfl) (by kernel_rfl)
theorem gPow : Tryz.prog.globalNamed "internal/strconv.uint64pow10" = some 1 := by kernel_rfl
theorem tPow : (Tryz.prog.globals[1]?).map (·.type) = some 206 := by kernel_rfl
theorem dPow : (Rows.laid_internal_strconv_uint64pow10 : DataW Unit) = Lib.tabData .u64 Lib.pow10Tab := rfl
theorem of_laid {W : World} (h : laidMetH Tryz.prog laid W) : LaidW W := by
 rw [MakeChecks.laidMetH_plain _ _ _ (by kernel_rfl)] at h
 obtain ⟨_, ⟨_, _, _, _, _, _, _, _, _, _, ⟨_, _, _, _, _, _, _, _, _, _, ⟨g', t', cs, fuel, p, q, hg', ht', hvar, hd, _⟩, _⟩, _⟩, _⟩ := h
 obtain rfl := Option.some.inj (gPow.symm.trans hg')
 obtain rfl := Option.some.inj (tPow.symm.trans ht')
 unfold LaidW Lib.TabIs
 rw [hvar, ← Lib.cells_of_tab Tryz.underlying206 Tryz.underlying182 (by kernel_rfl) (by kernel_rfl) (dPow ▸ hd)]
end Go.Proofs.YthnfajboebaajaaGreatDoor.Rb
