import Derived.Test.YthnfajboebaajaaGreatDoorAG1
import Derived.Test.YthnfajboebaajaaGreatDoorAD
import Derived.Test.YthnfajboebaajaaGreatDoorAG9
import Derived.Test.YthnfajboebaajaaGreatDoorAG8
import Derived.Test.YthnfajboebaajaaGreatDoorAG4
import Derived.Test.YthnfajboebaajaaGreatDoorAG7
import Derived.Test.YthnfajboebaajaaGreatDoorAG2
import Derived.Test.YthnfajboebaajaaGreatDoorAG6
import Derived.Test.YthnfajboebaajaaGreatDoorRows
import Derived.ProofKit
import Derived.OpenShut
import Derived.Lay
import Derived.LaidOnce
import Derived.SevenTiedAt
set_option maxHeartbeats 8000000
set_option maxRecDepth 100000
set_option linter.unusedVariables false
namespace Go.Proofs.YthnfajboebaajaaGreatDoor.PA
set_option linter.unusedVariables false
open Go.RowKit Go.Proofs.WWords Go.Proofs.WLast Go.Proofs.WMore
attribute [local go_sem] max2_int min2_int max_two min_two max_three min_three max_four min_four
set_option linter.unusedSimpArgs false
theorem rEFloor.calls (k : Nat) (a0 : ByteArray) (a1 : ByteArray) (r : ByteArray) (w : World) (h : rEFloor.f k a0 a1 = some r) :
  Calls Tryz.prog 115 #[.string a0, .string a1] w fun e w' => e = .returned (.string r) ∧ Below w.heap.size w w' := by
 have HB := Z0.mk (Below.refl w.heap.size w)
 have H := h
 clear h
 unfold rEFloor.f at H
 have HC3 := Z0.mk H
 clear H
 go_enter Tryz.func115, Tryz.ntmps115
 go_upto_region 1 with (fail)
 go_cut [13] (fun v13 wc => ∃ (kq : Nat) (x13_2 : Bool), v13 = .bool x13_2 ∧ Z0 (rEFloor.j0 kq a0 a1 x13_2 = some r) ∧ Z0 (kq ≤ k) ∧ Z0 (Below w.heap.size w wc))
 case first =>
  have H := HC3.out
  clear HC3
  obtain ⟨t605, A4, H⟩ := bnd H
  by_cases c5 : t605 = true
  ·subst c5
   have H1 : ((rEshort.f a1 17).bind fun t606 => (rEFloor.j0 k a0 a1 t606)) = some r := by rw [if_pos rfl] at H; exact H
   clear H
   have H := H1
   clear H1
   obtain ⟨t606, A6, H⟩ := bnd H
   have H' := Z0.mk H
   clear H
   go_wp2_with (first | ((with_reducible refine gc_ 151 rfl ?_); refine goD (some 9) Tryz.func151 #[.string a0, .int .i64 17] (rEshort.calls a0 17 true _ A4.out) ?_; intro nd) | (go_at_call 151; (with_reducible refine (rEshort.calls a1 17 t606 _ A6.out).mono ?_); rintro e w' ⟨rfl, ⟨nd, rfl⟩⟩))
   go_meet
   case rel => exact ⟨_, (t606), fs, H', ⟨by first | omega | exact Nat.le_refl _⟩, ⟨bqs⟩⟩
  replace c5 := Bool.eq_false_iff.mpr c5
  subst c5
  have H1 : (rEFloor.j0 k a0 a1 false) = some r := by rw [if_neg (show ¬ (false = true) by decide)] at H; exact H
  clear H
  have H := H1
  clear H1
  have H' := Z0.mk H
  clear H
  go_wp2_with (first | ((with_reducible refine gc_ 151 rfl ?_); refine goD (some 9) Tryz.func151 #[.string a0, .int .i64 17] (rEshort.calls a0 17 false _ A4.out) ?_; intro nd))
  go_meet
  case rel => exact ⟨_, (false), fs, H', ⟨by first | omega | exact Nat.le_refl _⟩, ⟨bqs⟩⟩
 case rest =>
  clear HC3
  try clear c1
  try clear p2
  try clear c5
  obtain ⟨kq, x13_2, rfl, HA, HJ2, HB⟩ := hcut
  cases kq with
  | zero => exact absurd HA.out (by simp [rEFloor.j0])
  | succ kj2 =>
   have H := HA.out
   clear HA
   simp only [rEFloor.j0] at H
   by_cases c7 : x13_2 = true
   ·subst c7
    have H1 : ((rEnumber.f kj2 a0).bind fun t607 => ((rEnumber.f kj2 a1).bind fun t608 => ((rEfloor.f t607 t608).bind fun t609 => ((rEWhole.f kj2 t609).bind fun t610 => (some t610))))) = some r := by rw [if_pos rfl] at H; exact H
    clear H
    have H := H1
    clear H1
    obtain ⟨t607, A8, H⟩ := bnd H
    obtain ⟨t608, A9, H⟩ := bnd H
    obtain ⟨t609, A10, H⟩ := bnd H
    obtain ⟨t610, A11, H⟩ := bnd H
    obtain rfl := Option.some.inj H
    go_wp2_with (first | ((with_reducible refine gc_ 135 rfl ?_); refine goD (some 15) Tryz.func135 #[.string a0] (rEnumber.calls kj2 a0 t607 _ A8.out) ?_; intro nd) | ((with_reducible refine gc_ 135 rfl ?_); refine goD (some 17) Tryz.func135 #[.string a1] (rEnumber.calls kj2 a1 t608 _ A9.out) ?_; intro nd) | ((with_reducible refine gc_ 152 rfl ?_); refine goD (some 18) Tryz.func152 #[.int .i64 t607, .int .i64 t608] (rEfloor.calls t607 t608 t609 _ A10.out) ?_; intro nd) | ((with_reducible refine gc_ 134 rfl ?_); refine goB (some 19) Tryz.func134 #[.int .i64 t609] bq (rEWhole.calls kj2 t609 t610 _ A11.out) ?_; clear HB; intro w12 HB))
    go_ret
    exact finE
   replace c7 := Bool.eq_false_iff.mpr c7
   subst c7
   have H1 : ((rEdigits.f kj2 a0).bind fun t611 => ((rEcut.f kj2 t611).bind fun t614 => ((rEdigits.f kj2 a1).bind fun t617 => ((rEcut.f kj2 t617).bind fun t620 => ((rEsplit.f kj2 t614 t620).bind fun bt623 => ((rENegative.f a0).bind fun t629 => ((rENegative.f a1).bind fun t630 => ((rEmade.f kj2 bt623.1 (t629 != t630)).bind fun t631 => ((rENegative.f a0).bind fun t632 => ((rENegative.f a1).bind fun t633 => (if (t632 != t633) = true then (if (bt623.2.length : Int) > 0 then ((rEDiff.f kj2 t631 (⟨#[49]⟩ : ByteArray)).bind fun t634 => (some t634)) else (some t631)) else (some t631)))))))))))) = some r := by rw [if_neg (show ¬ (false = true) by decide)] at H; exact H
   clear H
   have H := H1
   clear H1
   obtain ⟨t611, A13, H⟩ := bnd H
   obtain ⟨t614, A14, H⟩ := bnd H
   obtain ⟨t617, A15, H⟩ := bnd H
   obtain ⟨t620, A16, H⟩ := bnd H
   obtain ⟨⟨t623, t626⟩, A17, H⟩ := bnd H
   try dsimp only at H
   obtain ⟨t629, A18, H⟩ := bnd H
   obtain ⟨t630, A19, H⟩ := bnd H
   obtain ⟨t631, A20, H⟩ := bnd H
   obtain ⟨t632, A21, H⟩ := bnd H
   obtain ⟨t633, A22, H⟩ := bnd H
   rcases jn H with ⟨c23, H⟩ | ⟨c23, H⟩
   ·have c23b0 : (t632 != t633) = true := c23
    (try (have c23b1 : decide (t632 = t633) = false := by simpa using c23))
    (try (have c23b2 : (t632 == t633) = false := by simpa using c23))
    (try (have c23b3 : ¬ (t632 = t633) := by simpa using c23))
    clear c23
    rcases jg H with ⟨c24, c24b0, H⟩ | ⟨c24, c24b0, H⟩
    ·have c24b1 : decide (0 < t626.length) = true := decide_eq_true (by omega)
     clear c24
     obtain ⟨t634, A25, H⟩ := bnd H
     obtain rfl := Option.some.inj H
     go_wp2_with (first | ((with_reducible refine gc_ 138 rfl ?_); refine gL 22 Tryz.func138 (rEdigits.calls _ _ _ _ A13.out) ?_; rintro _ w26 ⟨v612, rfl, ho0, hb⟩; refine ⟨_, rfl, ?_⟩; have HO613 := fN ho0; replace HB := fB HB hb; clear hb ho0; obtain ⟨Ao27, co27, eo27⟩ := Kd.R_slice HO613.out; subst eo27) | ((with_reducible refine gc_ 142 rfl ?_); refine gL 23 Tryz.func142 (rEcut.calls kj2 (fun k_ => some k_ = (.slice Ao27 t611.length co27 : Value).ownBlock) _ _ t611 t614 _ ?side1 A14.out) ?_; (case side1 => exact Kd.R_V (Kd.R_tight rfl (HO613.out))); rintro _ w28 ⟨v615, rfl, ho0, hb⟩; refine ⟨_, rfl, ?_⟩; have HO616 := Z0.mk (Kd.V_lower (Kd.V_mono (ok' := fun k_ => True) ho0 (fun k_ hk_ => trivial)) (below_size bqs)); replace HO613 := fR HO613 hb; replace HB := fB HB hb; clear hb ho0) | ((with_reducible refine gc_ 138 rfl ?_); refine gL 25 Tryz.func138 (rEdigits.calls _ _ _ _ A15.out) ?_; rintro _ w29 ⟨v618, rfl, ho0, hb⟩; refine ⟨_, rfl, ?_⟩; have HO619 := Z0.mk (Kd.R_lower (Kd.R_new' ho0 (Kd.R_lt (rq HO613))) (below_size bqs)); replace HO613 := Z0.mk (Kd.R_elder' (rq HO613) (Kd.R_base ho0) hb); replace HO616 := Z0.mk (Kd.V_elder' (vq HO616) (Kd.R_base ho0) hb); replace HB := fB HB hb; clear hb ho0; obtain ⟨Ao30, co30, eo30⟩ := Kd.R_slice HO619.out; subst eo30) | ((with_reducible refine gc_ 142 rfl ?_); refine gL 26 Tryz.func142 (rEcut.calls kj2 (fun k_ => some k_ = (.slice Ao30 t617.length co30 : Value).ownBlock) _ _ t617 t620 _ ?side1 A16.out) ?_; (case side1 => exact Kd.R_V (Kd.R_tight rfl (HO619.out))); rintro _ w31 ⟨v621, rfl, ho0, hb⟩; refine ⟨_, rfl, ?_⟩; have HO622 := Z0.mk (Kd.V_lower (Kd.V_mono (ok' := fun k_ => some k_ ≠ (.slice Ao27 t611.length co27 : Value).ownBlock) ho0 (fun k_ hk_ => Or.elim hk_ (fun hs_ => ((HO619.out).1 k_ hs_.symm).2) (fun hn_ => (Kd.fresh' (Kd.R_lt (rq HO613)) k_ hn_)))) (below_size bqs)); replace HO613 := fR HO613 hb; replace HO616 := fV HO616 hb; replace HO619 := fR HO619 hb; replace HB := fB HB hb; clear hb ho0; obtain ⟨Ao32, co32, eo32⟩ := Kd.V_slice HO616.out; subst eo32; obtain ⟨Ao33, co33, eo33⟩ := Kd.V_slice HO622.out; subst eo33) | ((with_reducible refine gc_ 153 rfl ?_); refine gL 27 Tryz.func153 (rEsplit.calls kj2 _ _ t614 _ _ t620 t623 t626 _ ?side1 ?side2 ?side3 ?side4 A17.out) ?_; (case side1 => exact cq (Kd.V_reads' HO616.out).2.2); (case side2 => exact (Kd.V_reads' HO616.out).2.1); (case side3 => exact cq (Kd.V_reads' HO622.out).2.2); (case side4 => exact (Kd.V_reads' HO622.out).2.1); rintro _ w34 ⟨v624, v627, rfl, ho0, ho1, hb⟩; refine ⟨_, rfl, ?_⟩; have HO625 := Z0.mk (Kd.V_lower (Kd.V_mono (ok' := fun k_ => some k_ ≠ (.slice Ao27 t611.length co27 : Value).ownBlock ∧ some k_ ≠ (.slice Ao30 t617.length co30 : Value).ownBlock) ho0 (fun k_ hk_ => ⟨(Kd.fresh' (Kd.R_lt (rq HO613)) k_ hk_), (Kd.fresh' (Kd.R_lt (rq HO619)) k_ hk_)⟩)) (below_size bqs)); have HO628 := Z0.mk (Kd.V_lower (Kd.V_mono (ok' := fun k_ => some k_ ≠ (.slice Ao27 t611.length co27 : Value).ownBlock ∧ some k_ ≠ (.slice Ao30 t617.length co30 : Value).ownBlock) ho1 (fun k_ hk_ => ⟨(Kd.fresh' (Kd.R_lt (rq HO613)) k_ hk_), (Kd.fresh' (Kd.R_lt (rq HO619)) k_ hk_)⟩)) (below_size bqs)); replace HO613 := fR HO613 hb; replace HO616 := fV HO616 hb; replace HO619 := fR HO619 hb; replace HO622 := fV HO622 hb; replace HB := fB HB hb; clear hb ho0 ho1) | ((with_reducible refine gc_ 126 rfl ?_); refine goD (some 32) Tryz.func126 #[.string a0] (rENegative.calls a0 t629 _ A18.out) ?_; intro nd) | ((with_reducible refine gc_ 126 rfl ?_); refine gL 34 Tryz.func126 (rENegative.calls _ _ _ A19.out) ?_; rintro _ w' ⟨rfl, ⟨nd, rfl⟩⟩; refine ⟨_, rfl, ?_⟩; obtain ⟨Ao35, co35, eo35⟩ := Kd.V_slice HO625.out; subst eo35) | ((with_reducible refine gc_ 136 rfl ?_); refine gL 36 Tryz.func136 (rEmade.calls kj2 _ _ t623 (t629 != t630) t631 _ ?side1 ?side2 A20.out) ?_; (case side1 => exact cq (Kd.V_reads' HO625.out).2.2); (case side2 => exact (Kd.V_reads' HO625.out).2.1); rintro _ w36 ⟨rfl, hb⟩; refine ⟨_, rfl, ?_⟩; replace HO613 := fR HO613 hb; replace HO616 := fV HO616 hb; replace HO619 := fR HO619 hb; replace HO622 := fV HO622 hb; replace HO625 := fV HO625 hb; replace HO628 := fV HO628 hb; replace HB := fB HB hb; clear hb) | ((with_reducible refine gc_ 126 rfl ?_); refine goD (some 38) Tryz.func126 #[.string a0] (rENegative.calls a0 t632 _ A21.out) ?_; intro nd) | ((with_reducible refine gc_ 126 rfl ?_); refine gL 40 Tryz.func126 (rENegative.calls _ _ _ A22.out) ?_; rintro _ w' ⟨rfl, ⟨nd, rfl⟩⟩; refine ⟨_, rfl, ?_⟩; obtain ⟨Ao37, co37, eo37⟩ := Kd.V_slice HO628.out; subst eo37) | ((with_reducible refine gc_ 140 rfl ?_); refine gL 48 Tryz.func140 (rEDiff.calls _ _ _ _ _ A25.out) ?_; rintro _ w38 ⟨rfl, hb⟩; refine ⟨_, rfl, ?_⟩; replace HO613 := fR HO613 hb; replace HO616 := fV HO616 hb; replace HO619 := fR HO619 hb; replace HO622 := fV HO622 hb; replace HO625 := fV HO625 hb; replace HO628 := fV HO628 hb; replace HB := fB HB hb; clear hb))
     go_ret
     exact finE
    have c24b1 : decide (0 < t626.length) = false := decide_eq_false (by omega)
    clear c24
    obtain rfl := Option.some.inj H
    go_wp2_with (first | ((with_reducible refine gc_ 138 rfl ?_); refine gL 22 Tryz.func138 (rEdigits.calls _ _ _ _ A13.out) ?_; rintro _ w39 ⟨v612, rfl, ho0, hb⟩; refine ⟨_, rfl, ?_⟩; have HO613 := fN ho0; replace HB := fB HB hb; clear hb ho0; obtain ⟨Ao40, co40, eo40⟩ := Kd.R_slice HO613.out; subst eo40) | ((with_reducible refine gc_ 142 rfl ?_); refine gL 23 Tryz.func142 (rEcut.calls kj2 (fun k_ => some k_ = (.slice Ao40 t611.length co40 : Value).ownBlock) _ _ t611 t614 _ ?side1 A14.out) ?_; (case side1 => exact Kd.R_V (Kd.R_tight rfl (HO613.out))); rintro _ w41 ⟨v615, rfl, ho0, hb⟩; refine ⟨_, rfl, ?_⟩; have HO616 := Z0.mk (Kd.V_lower (Kd.V_mono (ok' := fun k_ => True) ho0 (fun k_ hk_ => trivial)) (below_size bqs)); replace HO613 := fR HO613 hb; replace HB := fB HB hb; clear hb ho0) | ((with_reducible refine gc_ 138 rfl ?_); refine gL 25 Tryz.func138 (rEdigits.calls _ _ _ _ A15.out) ?_; rintro _ w42 ⟨v618, rfl, ho0, hb⟩; refine ⟨_, rfl, ?_⟩; have HO619 := Z0.mk (Kd.R_lower (Kd.R_new' ho0 (Kd.R_lt (rq HO613))) (below_size bqs)); replace HO613 := Z0.mk (Kd.R_elder' (rq HO613) (Kd.R_base ho0) hb); replace HO616 := Z0.mk (Kd.V_elder' (vq HO616) (Kd.R_base ho0) hb); replace HB := fB HB hb; clear hb ho0; obtain ⟨Ao43, co43, eo43⟩ := Kd.R_slice HO619.out; subst eo43) | ((with_reducible refine gc_ 142 rfl ?_); refine gL 26 Tryz.func142 (rEcut.calls kj2 (fun k_ => some k_ = (.slice Ao43 t617.length co43 : Value).ownBlock) _ _ t617 t620 _ ?side1 A16.out) ?_; (case side1 => exact Kd.R_V (Kd.R_tight rfl (HO619.out))); rintro _ w44 ⟨v621, rfl, ho0, hb⟩; refine ⟨_, rfl, ?_⟩; have HO622 := Z0.mk (Kd.V_lower (Kd.V_mono (ok' := fun k_ => some k_ ≠ (.slice Ao40 t611.length co40 : Value).ownBlock) ho0 (fun k_ hk_ => Or.elim hk_ (fun hs_ => ((HO619.out).1 k_ hs_.symm).2) (fun hn_ => (Kd.fresh' (Kd.R_lt (rq HO613)) k_ hn_)))) (below_size bqs)); replace HO613 := fR HO613 hb; replace HO616 := fV HO616 hb; replace HO619 := fR HO619 hb; replace HB := fB HB hb; clear hb ho0; obtain ⟨Ao45, co45, eo45⟩ := Kd.V_slice HO616.out; subst eo45; obtain ⟨Ao46, co46, eo46⟩ := Kd.V_slice HO622.out; subst eo46) | ((with_reducible refine gc_ 153 rfl ?_); refine gL 27 Tryz.func153 (rEsplit.calls kj2 _ _ t614 _ _ t620 t623 t626 _ ?side1 ?side2 ?side3 ?side4 A17.out) ?_; (case side1 => exact cq (Kd.V_reads' HO616.out).2.2); (case side2 => exact (Kd.V_reads' HO616.out).2.1); (case side3 => exact cq (Kd.V_reads' HO622.out).2.2); (case side4 => exact (Kd.V_reads' HO622.out).2.1); rintro _ w47 ⟨v624, v627, rfl, ho0, ho1, hb⟩; refine ⟨_, rfl, ?_⟩; have HO625 := Z0.mk (Kd.V_lower (Kd.V_mono (ok' := fun k_ => some k_ ≠ (.slice Ao40 t611.length co40 : Value).ownBlock ∧ some k_ ≠ (.slice Ao43 t617.length co43 : Value).ownBlock) ho0 (fun k_ hk_ => ⟨(Kd.fresh' (Kd.R_lt (rq HO613)) k_ hk_), (Kd.fresh' (Kd.R_lt (rq HO619)) k_ hk_)⟩)) (below_size bqs)); have HO628 := Z0.mk (Kd.V_lower (Kd.V_mono (ok' := fun k_ => some k_ ≠ (.slice Ao40 t611.length co40 : Value).ownBlock ∧ some k_ ≠ (.slice Ao43 t617.length co43 : Value).ownBlock) ho1 (fun k_ hk_ => ⟨(Kd.fresh' (Kd.R_lt (rq HO613)) k_ hk_), (Kd.fresh' (Kd.R_lt (rq HO619)) k_ hk_)⟩)) (below_size bqs)); replace HO613 := fR HO613 hb; replace HO616 := fV HO616 hb; replace HO619 := fR HO619 hb; replace HO622 := fV HO622 hb; replace HB := fB HB hb; clear hb ho0 ho1) | ((with_reducible refine gc_ 126 rfl ?_); refine goD (some 32) Tryz.func126 #[.string a0] (rENegative.calls a0 t629 _ A18.out) ?_; intro nd) | ((with_reducible refine gc_ 126 rfl ?_); refine gL 34 Tryz.func126 (rENegative.calls _ _ _ A19.out) ?_; rintro _ w' ⟨rfl, ⟨nd, rfl⟩⟩; refine ⟨_, rfl, ?_⟩; obtain ⟨Ao48, co48, eo48⟩ := Kd.V_slice HO625.out; subst eo48) | ((with_reducible refine gc_ 136 rfl ?_); refine gL 36 Tryz.func136 (rEmade.calls kj2 _ _ t623 (t629 != t630) t631 _ ?side1 ?side2 A20.out) ?_; (case side1 => exact cq (Kd.V_reads' HO625.out).2.2); (case side2 => exact (Kd.V_reads' HO625.out).2.1); rintro _ w49 ⟨rfl, hb⟩; refine ⟨_, rfl, ?_⟩; replace HO613 := fR HO613 hb; replace HO616 := fV HO616 hb; replace HO619 := fR HO619 hb; replace HO622 := fV HO622 hb; replace HO625 := fV HO625 hb; replace HO628 := fV HO628 hb; replace HB := fB HB hb; clear hb) | ((with_reducible refine gc_ 126 rfl ?_); refine goD (some 38) Tryz.func126 #[.string a0] (rENegative.calls a0 t632 _ A21.out) ?_; intro nd) | ((with_reducible refine gc_ 126 rfl ?_); refine gL 40 Tryz.func126 (rENegative.calls _ _ _ A22.out) ?_; rintro _ w' ⟨rfl, ⟨nd, rfl⟩⟩; refine ⟨_, rfl, ?_⟩; obtain ⟨Ao50, co50, eo50⟩ := Kd.V_slice HO628.out; subst eo50))
    go_ret
    exact finE
   have c23b0 : (t632 != t633) = false := by simpa using c23
   (try (have c23b1 : decide (t632 = t633) = true := by simpa using c23))
   (try (have c23b2 : (t632 == t633) = true := by simpa using c23))
   clear c23
   obtain rfl := Option.some.inj H
   go_wp2_with (first | ((with_reducible refine gc_ 138 rfl ?_); refine gL 22 Tryz.func138 (rEdigits.calls _ _ _ _ A13.out) ?_; rintro _ w51 ⟨v612, rfl, ho0, hb⟩; refine ⟨_, rfl, ?_⟩; have HO613 := fN ho0; replace HB := fB HB hb; clear hb ho0; obtain ⟨Ao52, co52, eo52⟩ := Kd.R_slice HO613.out; subst eo52) | ((with_reducible refine gc_ 142 rfl ?_); refine gL 23 Tryz.func142 (rEcut.calls kj2 (fun k_ => some k_ = (.slice Ao52 t611.length co52 : Value).ownBlock) _ _ t611 t614 _ ?side1 A14.out) ?_; (case side1 => exact Kd.R_V (Kd.R_tight rfl (HO613.out))); rintro _ w53 ⟨v615, rfl, ho0, hb⟩; refine ⟨_, rfl, ?_⟩; have HO616 := Z0.mk (Kd.V_lower (Kd.V_mono (ok' := fun k_ => True) ho0 (fun k_ hk_ => trivial)) (below_size bqs)); replace HO613 := fR HO613 hb; replace HB := fB HB hb; clear hb ho0) | ((with_reducible refine gc_ 138 rfl ?_); refine gL 25 Tryz.func138 (rEdigits.calls _ _ _ _ A15.out) ?_; rintro _ w54 ⟨v618, rfl, ho0, hb⟩; refine ⟨_, rfl, ?_⟩; have HO619 := Z0.mk (Kd.R_lower (Kd.R_new' ho0 (Kd.R_lt (rq HO613))) (below_size bqs)); replace HO613 := Z0.mk (Kd.R_elder' (rq HO613) (Kd.R_base ho0) hb); replace HO616 := Z0.mk (Kd.V_elder' (vq HO616) (Kd.R_base ho0) hb); replace HB := fB HB hb; clear hb ho0; obtain ⟨Ao55, co55, eo55⟩ := Kd.R_slice HO619.out; subst eo55) | ((with_reducible refine gc_ 142 rfl ?_); refine gL 26 Tryz.func142 (rEcut.calls kj2 (fun k_ => some k_ = (.slice Ao55 t617.length co55 : Value).ownBlock) _ _ t617 t620 _ ?side1 A16.out) ?_; (case side1 => exact Kd.R_V (Kd.R_tight rfl (HO619.out))); rintro _ w56 ⟨v621, rfl, ho0, hb⟩; refine ⟨_, rfl, ?_⟩; have HO622 := Z0.mk (Kd.V_lower (Kd.V_mono (ok' := fun k_ => some k_ ≠ (.slice Ao52 t611.length co52 : Value).ownBlock) ho0 (fun k_ hk_ => Or.elim hk_ (fun hs_ => ((HO619.out).1 k_ hs_.symm).2) (fun hn_ => (Kd.fresh' (Kd.R_lt (rq HO613)) k_ hn_)))) (below_size bqs)); replace HO613 := fR HO613 hb; replace HO616 := fV HO616 hb; replace HO619 := fR HO619 hb; replace HB := fB HB hb; clear hb ho0; obtain ⟨Ao57, co57, eo57⟩ := Kd.V_slice HO616.out; subst eo57; obtain ⟨Ao58, co58, eo58⟩ := Kd.V_slice HO622.out; subst eo58) | ((with_reducible refine gc_ 153 rfl ?_); refine gL 27 Tryz.func153 (rEsplit.calls kj2 _ _ t614 _ _ t620 t623 t626 _ ?side1 ?side2 ?side3 ?side4 A17.out) ?_; (case side1 => exact cq (Kd.V_reads' HO616.out).2.2); (case side2 => exact (Kd.V_reads' HO616.out).2.1); (case side3 => exact cq (Kd.V_reads' HO622.out).2.2); (case side4 => exact (Kd.V_reads' HO622.out).2.1); rintro _ w59 ⟨v624, v627, rfl, ho0, ho1, hb⟩; refine ⟨_, rfl, ?_⟩; have HO625 := Z0.mk (Kd.V_lower (Kd.V_mono (ok' := fun k_ => some k_ ≠ (.slice Ao52 t611.length co52 : Value).ownBlock ∧ some k_ ≠ (.slice Ao55 t617.length co55 : Value).ownBlock) ho0 (fun k_ hk_ => ⟨(Kd.fresh' (Kd.R_lt (rq HO613)) k_ hk_), (Kd.fresh' (Kd.R_lt (rq HO619)) k_ hk_)⟩)) (below_size bqs)); have HO628 := Z0.mk (Kd.V_lower (Kd.V_mono (ok' := fun k_ => some k_ ≠ (.slice Ao52 t611.length co52 : Value).ownBlock ∧ some k_ ≠ (.slice Ao55 t617.length co55 : Value).ownBlock) ho1 (fun k_ hk_ => ⟨(Kd.fresh' (Kd.R_lt (rq HO613)) k_ hk_), (Kd.fresh' (Kd.R_lt (rq HO619)) k_ hk_)⟩)) (below_size bqs)); replace HO613 := fR HO613 hb; replace HO616 := fV HO616 hb; replace HO619 := fR HO619 hb; replace HO622 := fV HO622 hb; replace HB := fB HB hb; clear hb ho0 ho1) | ((with_reducible refine gc_ 126 rfl ?_); refine goD (some 32) Tryz.func126 #[.string a0] (rENegative.calls a0 t629 _ A18.out) ?_; intro nd) | ((with_reducible refine gc_ 126 rfl ?_); refine gL 34 Tryz.func126 (rENegative.calls _ _ _ A19.out) ?_; rintro _ w' ⟨rfl, ⟨nd, rfl⟩⟩; refine ⟨_, rfl, ?_⟩; obtain ⟨Ao60, co60, eo60⟩ := Kd.V_slice HO625.out; subst eo60) | ((with_reducible refine gc_ 136 rfl ?_); refine gL 36 Tryz.func136 (rEmade.calls kj2 _ _ t623 (t629 != t630) t631 _ ?side1 ?side2 A20.out) ?_; (case side1 => exact cq (Kd.V_reads' HO625.out).2.2); (case side2 => exact (Kd.V_reads' HO625.out).2.1); rintro _ w61 ⟨rfl, hb⟩; refine ⟨_, rfl, ?_⟩; replace HO613 := fR HO613 hb; replace HO616 := fV HO616 hb; replace HO619 := fR HO619 hb; replace HO622 := fV HO622 hb; replace HO625 := fV HO625 hb; replace HO628 := fV HO628 hb; replace HB := fB HB hb; clear hb) | ((with_reducible refine gc_ 126 rfl ?_); refine goD (some 38) Tryz.func126 #[.string a0] (rENegative.calls a0 t632 _ A21.out) ?_; intro nd) | ((with_reducible refine gc_ 126 rfl ?_); refine goD (some 40) Tryz.func126 #[.string a1] (rENegative.calls a1 t633 _ A22.out) ?_; intro nd))
   go_ret
   exact finE
theorem rEtimes.calls (k : Nat) (A0 : Option Addr) (c0 : Nat) (l0 : List Int) (A1 : Option Addr) (c1 : Nat) (l1 : List Int) (r : List Int) (w : World) (hr0 : Kd.C (Kd.int .i64) w A0 l0.length l0) (hc0 : l0.length ≤ c0) (hr1 : Kd.C (Kd.int .i64) w A1 l1.length l1) (hc1 : l1.length ≤ c1) (h : rEtimes.f k l0 l1 = some r) :
  Calls Tryz.prog 137 #[.slice A0 l0.length c0, .slice A1 l1.length c1] w fun e w' => ∃ v0_ : Value, e = .returned (v0_) ∧ Kd.V (Kd.int .i64) 3 w' w.heap.size (fun k_ => (w.heap.size ≤ k_)) v0_ r ∧ Below w.heap.size w w' := by
 have HR0 := Z0.mk hr0
 have HC0 := Z0.mk hc0
 clear hr0 hc0
 have HR1 := Z0.mk hr1
 have HC1 := Z0.mk hc1
 clear hr1 hc1
 have HB := Z0.mk (Below.refl w.heap.size w)
 have H := h
 clear h
 unfold rEtimes.f at H
 obtain ⟨ji3, hji3⟩ : ∃ j_ : Int, (wrap64 ((l0.length : Int) + (l1.length : Int))) = j_ := ⟨_, rfl⟩
 replace H : (if 0 ≤ (ji3) then (if (ji3 : Int).toNat ≤ 35184372088832 then (rEtimes.l0 k l0 l1 (List.replicate (ji3 : Int).toNat 0) 0) else (none)) else (none)) = some r := by first | (rw [hji3] at H; exact H) | (simp only [hji3] at H ⊢; exact H)
 have hji3w : (IntKind.i64.wrap ((l0.length : Int) + (l1.length : Int))) = ji3 := (i64_w _).trans hji3
 obtain ⟨-, c4b0, c4b1, H⟩ := gt H
 obtain ⟨-, c5b0, c5b1, H⟩ := gt H
 generalize hy489 : (List.replicate (ji3 : Int).toNat 0 : List Int) = y489 at H
 have Ny489 := Z0.mk hy489.symm
 clear hy489
 have H' := Z0.mk H
 clear H
 go_enter Tryz.func137, Tryz.ntmps137
 go_wp2_with (first | ((with_reducible refine gd_ 14 rfl ?_); refine Kd.R_make (Kd.int .i64) _ 3 rfl (N := 14) rfl 86 _ _ rfl ji3 rfl rfl Tryz.underlying86 (.int .i64 0) 8 info3 rfl (by decide) (by omega) 0 (ok := fun _ => True) (okp := fun _ => True) rfl (fun _ hk => hk) trivial od (Nat.le_trans (Nat.mul_le_mul_right _ (od : ji3.toNat ≤ 35184372088832)) (by omega)) (Below.refl _ _) (Nat.le_refl _) ?_; intro v490 w6 ho7 hb hg_ hnew_; clear hg_ hnew_; (first | rw [← Ny489.out] at ho7 | (simp only [Int.reduceToNat] at ho7; rw [← Ny489.out] at ho7)); have HO491 := Z0.mk (Kd.R_lower (Kd.R_newM (M := fun k_ => (w.heap.size ≤ k_)) ho7 (below_size bqs) (fun k_ h_ => h_)) (below_size bqs)); replace HB := fB HB hb; clear hb ho7) | (go_quiet (fail)))
 go_loopg [6] k (fun kq v6 w' => ∃ (x5_1 : List Int) (x6_1 : Int), v6 = .int .i64 x6_1 ∧ Z0 (rEtimes.l0 kq l0 l1 x5_1 x6_1 = some r) ∧ Z0 (kq ≤ k) ∧ Z0 (Kd.R (Kd.int .i64) 3 w' w.heap.size (fun k_ => (w.heap.size ≤ k_)) v490 x5_1) ∧ Z0 (Below w.heap.size w w'))
 case atStart => exact ⟨(y489), (0), fs, H', ⟨Nat.le_refl _⟩, ⟨by (with_reducible repeat (first | apply Kd.R_alloc | apply Kd.R_drewN | apply Kd.R_drew)); exact Kd.R_mono HO491.out (fun _ hk => hk.1)⟩, ⟨bqs⟩⟩
 case round =>
  clear H'
  try clear c1
  try clear p2
  try clear c4
  try clear c4b0
  try clear c4b1
  try clear c5
  try clear c5b0
  try clear c5b1
  try clear p6
  obtain ⟨x5_1, x6_1, rfl, HA, HK1, HO_5, HB⟩ := hrel
  cases gk with
  | zero => exact absurd HA.out (by simp [rEtimes.l0])
  | succ k1 =>
   have H := HA.out
   clear HA
   simp only [rEtimes.l0] at H
   rcases jd H with ⟨-, c8b0, H⟩ | ⟨-, c8b0, H⟩
   ·have H' := Z0.mk H
    clear H
    go_wp2
    repeat (go_quiet (fail); try go_wp2)
    go_loopg [7, 8] k1 (fun kq v7 v8 w' => ∃ (x5_2 : List Int) (x7_2 : Int) (x8_2 : Int), v7 = .int .i64 x7_2 ∧ v8 = .int .i64 x8_2 ∧ Z0 (rEtimes.l1 kq l0 l1 x5_2 x6_1 x7_2 x8_2 = some r) ∧ Z0 (kq ≤ k1) ∧ Z0 (Kd.R (Kd.int .i64) 3 w' w.heap.size (fun k_ => (w.heap.size ≤ k_)) v490 x5_2) ∧ Z0 (Below w.heap.size w w'))
    case atStart => exact ⟨(x5_1), (0), (0), fs, fs, H', ⟨Nat.le_refl _⟩, ⟨rq HO_5⟩, ⟨bqs⟩⟩
    case round =>
     clear H'
     try clear c1
     try clear p2
     try clear c4
     try clear c4b0
     try clear c4b1
     try clear c5
     try clear c5b0
     try clear c5b1
     try clear p6
     try clear c8
     try clear c8b0
     try clear p2
     try clear p6
     obtain ⟨x5_2, x7_2, x8_2, rfl, rfl, HA, HK2, HO_5, HB⟩ := hrel
     cases gk with
     | zero => exact absurd HA.out (by simp [rEtimes.l1])
     | succ k2 =>
      have H := HA.out
      clear HA
      simp only [rEtimes.l1] at H
      rcases jd H with ⟨-, c9b0, H⟩ | ⟨-, c9b0, H⟩
      ·obtain ⟨ji10, hji10⟩ : ∃ j_ : Int, (wrap64 (x6_1 + x8_2)) = j_ := ⟨_, rfl⟩
       replace H : (if 0 ≤ (ji10) then (if (ji10) < (x5_2.length : Int) then (if 0 ≤ x6_1 then (if x6_1 < (l0.length : Int) then (if 0 ≤ x8_2 then (rEtimes.l1 k2 l0 l1 (x5_2.set ((ji10) : Int).toNat (Int.tmod (wrap64 (x7_2 + (wrap64 ((rd x5_2 (ji10)) + (wrap64 ((rd l0 x6_1) * (rd l1 x8_2))))))) 10)) x6_1 (wrap64 (Int.tdiv (wrap64 (x7_2 + (wrap64 ((rd x5_2 (ji10)) + (wrap64 ((rd l0 x6_1) * (rd l1 x8_2))))))) 10)) (wrap64 (x8_2 + 1))) else (none)) else (none)) else (none)) else (none)) else (none)) = some r := by first | (rw [hji10] at H; exact H) | (simp only [hji10] at H ⊢; exact H)
       have hji10w : (IntKind.i64.wrap (x6_1 + x8_2)) = ji10 := (i64_w _).trans hji10
       obtain ⟨-, c11b0, H⟩ := gd H
       obtain ⟨-, c12b0, H⟩ := gd H
       obtain ⟨-, c13b0, H⟩ := gd H
       obtain ⟨-, c14b0, H⟩ := gd H
       obtain ⟨-, c15b0, H⟩ := gd H
       generalize hy498 : (x5_2.set ((ji10) : Int).toNat (Int.tmod (wrap64 (x7_2 + (wrap64 ((rd x5_2 (ji10)) + (wrap64 ((rd l0 x6_1) * (rd l1 x8_2))))))) 10) : List Int) = y498 at H
       have Ny498 := Z0.mk hy498.symm
       clear hy498
       have H' := Z0.mk H
       clear H
       obtain ⟨Ao17, co17, eo17⟩ := Kd.R_slice HO_5.out
       subst eo17
       obtain ⟨ad495, e495, hx495_0, p495, q495⟩ := atI (Kd.R_reads' HO_5.out).2.2 (ji10)
       cases e495
       obtain ⟨ad496, e496, hx496_0, p496, q496⟩ := atB HB HR0.out x6_1
       cases e496
       obtain ⟨ad497, e497, hx497_0, p497, q497⟩ := atB HB HR1.out x8_2
       cases e497
       have p16 : 0 ≤ ((ji10) : Int) := od
       have q16 : ((ji10) : Int) < ((x5_2.length : Int) : Int) := od
       obtain ⟨go16, co16, eo16, gb16, gl16, cl16, HG16⟩ := Kd.R_form HO_5.out (by omega)
       (first | cases eo16 | (injection eo16 with ea_ en_ ec_; (first | subst ea_ | (injection ea_ with ea_; subst ea_)); subst ec_; clear en_))
       have GB16 := Z0.mk gb16
       have GG16 := Z0.mk HG16
       clear gb16 gl16 HG16
       (first | simp only [add_plain] at hx495_0 | skip)
       obtain ⟨hx16_0, hf16_0⟩ := Kd.R_celln 0 HO_5.out ((ji10) : Int) p16 q16
       replace p16 := eq_true p16
       replace q16 := eq_true q16
       have HP18 := Kd.R_putg HO_5.out ((ji10) : Int) (Int.tmod (wrap64 (x7_2 + (wrap64 ((rd x5_2 (ji10)) + (wrap64 ((rd l0 x6_1) * (rd l1 x8_2))))))) 10)
       go_wp2_with (first | ((with_reducible refine gate_store (t := 3) (p := 51) rfl ?_); (try (rw [drewN_self wr]; generalize hq_ : World.drewN wr _ = wr; replace HO_5 := Z0.mk (Kd.R_at hq_ HO_5.out); replace HB := Z0.mk (below_at hq_ HB.out); clear hq_; (try (have HP18 := Kd.R_putg HO_5.out ((ji10) : Int) (Int.tmod (wrap64 (x7_2 + (wrap64 ((rd x5_2 (ji10)) + (wrap64 ((rd l0 x6_1) * (rd l1 x8_2))))))) 10))))); refine store_event (t := 3) (p := 51) (v := ?vo_w19) (w1 := (wr.setCell ⟨go16, ((ji10) : Int).toNat, none⟩ (.int .i64 (Int.tmod (wrap64 (x7_2 + (wrap64 ((rd x5_2 (ji10)) + (wrap64 ((rd l0 x6_1) * (rd l1 x8_2))))))) 10)))) ?hg ?ho ?hn ?hr ?_; (case ho => rfl); (case hg => rfl); (case hn => rfl); (case hr => first | (go_simp; done) | (go_simp; rfl) | (have hz_ := Kd.R_celln 0 HO_5.out ((ji10) : Int) (of_eq_true p16) (of_eq_true q16); go_simp; done)); intro w19 hw; have hg : wr.grownBy w19 (some go16) := (by rw [hw]; exact HP18.2); have hp_ : Kd.R (Kd.int .i64) 3 w19 w.heap.size (fun k_ => (w.heap.size ≤ k_)) (.slice (some ⟨go16, 0, none⟩) x5_2.length co17) y498 := (by rw [hw, Ny498.out]; exact HP18.1); clear HP18; replace HO_5 := Z0.mk (hp_); replace HB := Z0.mk ((by rw [hw]; exact below_set (HB.out) GB16.out : Below w.heap.size w w19)); clear hg hw hp_) | (go_quiet (fail)))
       go_roundg k2
       case measure => have := HK1.out; have := HK2.out; omega
       case rel => exact ⟨(y498), (wrap64 (Int.tdiv (wrap64 (x7_2 + (wrap64 ((rd x5_2 (ji10)) + (wrap64 ((rd l0 x6_1) * (rd l1 x8_2))))))) 10)), (wrap64 (x8_2 + 1)), (by first | rfl | (simp; done) | (simp only [← hji10] <;> (first | rfl | simp)) | (simp [*]; done)), fs, H', ⟨by have := HK1.out; have := HK2.out; omega⟩, ⟨rq HO_5⟩, ⟨bqs⟩⟩
      obtain ⟨ji20, hji20⟩ : ∃ j_ : Int, (wrap64 (x6_1 + (l1.length : Int))) = j_ := ⟨_, rfl⟩
      replace H : (if 0 ≤ (ji20) then (if (ji20) < (x5_2.length : Int) then (rEtimes.l0 k2 l0 l1 (x5_2.set ((ji20) : Int).toNat x7_2) (wrap64 (x6_1 + 1))) else (none)) else (none)) = some r := by first | (rw [hji20] at H; exact H) | (simp only [hji20] at H ⊢; exact H)
      have hji20w : (IntKind.i64.wrap (x6_1 + (l1.length : Int))) = ji20 := (i64_w _).trans hji20
      obtain ⟨-, c21b0, H⟩ := gd H
      obtain ⟨-, c22b0, H⟩ := gd H
      generalize hy499 : (x5_2.set ((ji20) : Int).toNat x7_2 : List Int) = y499 at H
      have Ny499 := Z0.mk hy499.symm
      clear hy499
      have H' := Z0.mk H
      clear H
      have p23 : 0 ≤ ((ji20) : Int) := od
      have q23 : ((ji20) : Int) < ((x5_2.length : Int) : Int) := od
      obtain ⟨go23, co23, eo23, gb23, gl23, cl23, HG23⟩ := Kd.R_form HO_5.out (by omega)
      (first | cases eo23 | (injection eo23 with ea_ en_ ec_; (first | subst ea_ | (injection ea_ with ea_; subst ea_)); subst ec_; clear en_))
      have GB23 := Z0.mk gb23
      have GG23 := Z0.mk HG23
      clear gb23 gl23 HG23
      obtain ⟨hx23_0, hf23_0⟩ := Kd.R_celln 0 HO_5.out ((ji20) : Int) p23 q23
      replace p23 := eq_true p23
      replace q23 := eq_true q23
      have HP24 := Kd.R_putg HO_5.out ((ji20) : Int) x7_2
      go_wp2_with (first | ((with_reducible refine gate_store (t := 3) (p := 60) rfl ?_); (try (rw [drewN_self wr]; generalize hq_ : World.drewN wr _ = wr; replace HO_5 := Z0.mk (Kd.R_at hq_ HO_5.out); replace HB := Z0.mk (below_at hq_ HB.out); clear hq_; (try (have HP24 := Kd.R_putg HO_5.out ((ji20) : Int) x7_2)))); refine store_event (t := 3) (p := 60) (v := ?vo_w25) (w1 := (wr.setCell ⟨go23, ((ji20) : Int).toNat, none⟩ (.int .i64 x7_2))) ?hg ?ho ?hn ?hr ?_; (case ho => rfl); (case hg => rfl); (case hn => rfl); (case hr => first | (go_simp; done) | (go_simp; rfl) | (have hz_ := Kd.R_celln 0 HO_5.out ((ji20) : Int) (of_eq_true p23) (of_eq_true q23); go_simp; done)); intro w25 hw; have hg : wr.grownBy w25 (some go23) := (by rw [hw]; exact HP24.2); have hp_ : Kd.R (Kd.int .i64) 3 w25 w.heap.size (fun k_ => (w.heap.size ≤ k_)) (.slice (some ⟨go23, 0, none⟩) x5_2.length co23) y499 := (by rw [hw, Ny499.out]; exact HP24.1); clear HP24; replace HO_5 := Z0.mk (hp_); replace HB := Z0.mk ((by rw [hw]; exact below_set (HB.out) GB23.out : Below w.heap.size w w25)); clear hg hw hp_) | (go_quiet (fail)))
      go_roundg k2
      case measure => have := HK1.out; have := HK2.out; omega
      case rel => exact ⟨(y499), (wrap64 (x6_1 + 1)), fs, H', ⟨by have := HK1.out; have := HK2.out; omega⟩, ⟨rq HO_5⟩, ⟨bqs⟩⟩
   obtain ⟨t492, A26, H⟩ := bnd H
   obtain rfl := Option.some.inj H
   obtain ⟨Ao27, co27, eo27⟩ := Kd.R_slice HO_5.out
   subst eo27
   go_wp2_with (first | (go_at_call 142; (with_reducible refine (rEcut.calls k1 (fun k_ => some k_ = (.slice Ao27 x5_1.length co27 : Value).ownBlock) _ _ x5_1 t492 _ ?side1 A26.out).mono ?_); (case side1 => exact Kd.R_V (Kd.R_tight rfl (HO_5.out))); rintro e w28 ⟨v493, rfl, ho0, hb⟩; have HO494 := Z0.mk (Kd.V_lower (Kd.V_mono (ok' := fun k_ => (w.heap.size ≤ k_)) ho0 (fun k_ hk_ => Or.elim hk_ (fun hs_ => ((HO_5.out).1 k_ hs_.symm)) (fun hn_ => (Nat.le_trans (below_size bqs) hn_)))) (below_size bqs)); replace HO_5 := fR HO_5 hb; replace HB := fB HB hb; clear hb ho0) | (go_quiet (first | (go_at_call 142; (with_reducible refine (rEcut.calls k1 (fun k_ => some k_ = (.slice Ao27 x5_1.length co27 : Value).ownBlock) _ _ x5_1 t492 _ ?side1 A26.out).mono ?_); (case side1 => exact Kd.R_V (Kd.R_tight rfl (HO_5.out))); rintro e w28 ⟨v493, rfl, ho0, hb⟩; have HO494 := Z0.mk (Kd.V_lower (Kd.V_mono (ok' := fun k_ => (w.heap.size ≤ k_)) ho0 (fun k_ hk_ => Or.elim hk_ (fun hs_ => ((HO_5.out).1 k_ hs_.symm)) (fun hn_ => (Nat.le_trans (below_size bqs) hn_)))) (below_size bqs)); replace HO_5 := fR HO_5 hb; replace HB := fB HB hb; clear hb ho0))))
   go_ret
   exact ⟨_, by first | rfl | (simp [errW_none, errW_some] <;> rfl) | (simp only [← hji3]; first | rfl | (simp [errW_none, errW_some] <;> rfl)) | (simp [*, errW_none, errW_some] <;> rfl), vq HO494, bqs⟩
theorem rEProduct.calls (k : Nat) (a0 : ByteArray) (a1 : ByteArray) (r : ByteArray) (w : World) (h : rEProduct.f k a0 a1 = some r) :
  Calls Tryz.prog 99 #[.string a0, .string a1] w fun e w' => e = .returned (.string r) ∧ Below w.heap.size w w' := by
 have HB := Z0.mk (Below.refl w.heap.size w)
 have H := h
 clear h
 unfold rEProduct.f at H
 obtain ⟨t500, A3, H⟩ := bnd H
 obtain ⟨t501, A4, H⟩ := bnd H
 rcases jd H with ⟨-, c5b0, H⟩ | ⟨-, c5b0, H⟩
 ·obtain ⟨t502, A6, H⟩ := bnd H
  obtain ⟨t503, A7, H⟩ := bnd H
  obtain ⟨t504, A8, H⟩ := bnd H
  obtain rfl := Option.some.inj H
  go_enter Tryz.func99, Tryz.ntmps99
  go_wp2_with (first | ((with_reducible refine gc_ 93 rfl ?_); refine goD (some 6) Tryz.func93 #[.string a0] (rEDigits.calls a0 t500 _ A3.out) ?_; intro nd) | ((with_reducible refine gc_ 93 rfl ?_); refine goD (some 8) Tryz.func93 #[.string a1] (rEDigits.calls a1 t501 _ A4.out) ?_; intro nd) | ((with_reducible refine gc_ 135 rfl ?_); refine goD (some 12) Tryz.func135 #[.string a0] (rEnumber.calls k a0 t502 _ A6.out) ?_; intro nd) | ((with_reducible refine gc_ 135 rfl ?_); refine goD (some 14) Tryz.func135 #[.string a1] (rEnumber.calls k a1 t503 _ A7.out) ?_; intro nd) | ((with_reducible refine gc_ 134 rfl ?_); refine goB (some 16) Tryz.func134 #[.int .i64 (wrap64 (t502 * t503))] bq (rEWhole.calls k (wrap64 (t502 * t503)) t504 _ A8.out) ?_; clear HB; intro w9 HB))
  go_ret
  exact finE
 obtain ⟨t505, A10, H⟩ := bnd H
 obtain ⟨t508, A11, H⟩ := bnd H
 obtain ⟨t511, A12, H⟩ := bnd H
 obtain ⟨t514, A13, H⟩ := bnd H
 obtain ⟨t515, A14, H⟩ := bnd H
 obtain ⟨t516, A15, H⟩ := bnd H
 obtain rfl := Option.some.inj H
 go_enter Tryz.func99, Tryz.ntmps99
 go_wp2_with (first | ((with_reducible refine gc_ 93 rfl ?_); refine goD (some 6) Tryz.func93 #[.string a0] (rEDigits.calls a0 t500 _ A3.out) ?_; intro nd) | ((with_reducible refine gc_ 93 rfl ?_); refine goD (some 8) Tryz.func93 #[.string a1] (rEDigits.calls a1 t501 _ A4.out) ?_; intro nd) | ((with_reducible refine gc_ 138 rfl ?_); refine gL 18 Tryz.func138 (rEdigits.calls _ _ _ _ A10.out) ?_; rintro _ w16 ⟨v506, rfl, ho0, hb⟩; refine ⟨_, rfl, ?_⟩; have HO507 := fN ho0; replace HB := fB HB hb; clear hb ho0) | ((with_reducible refine gc_ 138 rfl ?_); refine gL 20 Tryz.func138 (rEdigits.calls _ _ _ _ A11.out) ?_; rintro _ w17 ⟨v509, rfl, ho0, hb⟩; refine ⟨_, rfl, ?_⟩; have HO510 := Z0.mk (Kd.R_lower (Kd.R_new' ho0 (Kd.R_lt (rq HO507))) (below_size bqs)); replace HO507 := Z0.mk (Kd.R_elder' (rq HO507) (Kd.R_base ho0) hb); replace HB := fB HB hb; clear hb ho0; obtain ⟨Ao18, co18, eo18⟩ := Kd.R_slice HO507.out; subst eo18; obtain ⟨Ao19, co19, eo19⟩ := Kd.R_slice HO510.out; subst eo19) | ((with_reducible refine gc_ 137 rfl ?_); refine gL 21 Tryz.func137 (rEtimes.calls k _ _ t505 _ _ t508 t511 _ ?side1 ?side2 ?side3 ?side4 A12.out) ?_; (case side1 => exact cq (Kd.R_reads' HO507.out).2.2); (case side2 => exact (Kd.R_reads' HO507.out).2.1); (case side3 => exact cq (Kd.R_reads' HO510.out).2.2); (case side4 => exact (Kd.R_reads' HO510.out).2.1); rintro _ w20 ⟨v512, rfl, ho0, hb⟩; refine ⟨_, rfl, ?_⟩; have HO513 := Z0.mk (Kd.V_lower (Kd.V_mono (ok' := fun k_ => some k_ ≠ (.slice Ao18 t505.length co18 : Value).ownBlock ∧ some k_ ≠ (.slice Ao19 t508.length co19 : Value).ownBlock) ho0 (fun k_ hk_ => ⟨(Kd.fresh' (Kd.R_lt (rq HO507)) k_ hk_), (Kd.fresh' (Kd.R_lt (rq HO510)) k_ hk_)⟩)) (below_size bqs)); replace HO507 := fR HO507 hb; replace HO510 := fR HO510 hb; replace HB := fB HB hb; clear hb ho0) | ((with_reducible refine gc_ 126 rfl ?_); refine goD (some 23) Tryz.func126 #[.string a0] (rENegative.calls a0 t514 _ A13.out) ?_; intro nd) | ((with_reducible refine gc_ 126 rfl ?_); refine gL 25 Tryz.func126 (rENegative.calls _ _ _ A14.out) ?_; rintro _ w' ⟨rfl, ⟨nd, rfl⟩⟩; refine ⟨_, rfl, ?_⟩; obtain ⟨Ao21, co21, eo21⟩ := Kd.V_slice HO513.out; subst eo21) | ((with_reducible refine gc_ 136 rfl ?_); refine gL 27 Tryz.func136 (rEmade.calls k _ _ t511 (t514 != t515) t516 _ ?side1 ?side2 A15.out) ?_; (case side1 => exact cq (Kd.V_reads' HO513.out).2.2); (case side2 => exact (Kd.V_reads' HO513.out).2.1); rintro _ w22 ⟨rfl, hb⟩; refine ⟨_, rfl, ?_⟩; replace HO507 := fR HO507 hb; replace HO510 := fR HO510 hb; replace HO513 := fV HO513 hb; replace HB := fB HB hb; clear hb))
 go_ret
 exact finE
theorem rERest.calls (k : Nat) (a0 : ByteArray) (a1 : ByteArray) (r : ByteArray) (w : World) (h : rERest.f k a0 a1 = some r) :
  Calls Tryz.prog 158 #[.string a0, .string a1] w fun e w' => e = .returned (.string r) ∧ Below w.heap.size w w' := by
 have HB := Z0.mk (Below.refl w.heap.size w)
 have H := h
 clear h
 unfold rERest.f at H
 obtain ⟨t635, A3, H⟩ := bnd H
 obtain ⟨t636, A4, H⟩ := bnd H
 obtain ⟨t637, A5, H⟩ := bnd H
 obtain rfl := Option.some.inj H
 go_enter Tryz.func158, Tryz.ntmps158
 go_wp2_with (first | ((with_reducible refine gc_ 115 rfl ?_); refine goB (some 9) Tryz.func115 #[.string a0, .string a1] bq (rEFloor.calls k a0 a1 t635 _ A3.out) ?_; clear HB; intro w6 HB) | ((with_reducible refine gc_ 99 rfl ?_); refine goB (some 10) Tryz.func99 #[.string a1, .string t635] bq (rEProduct.calls k a1 t635 t636 _ A4.out) ?_; clear HB; intro w7 HB) | ((with_reducible refine gc_ 140 rfl ?_); refine goB (some 11) Tryz.func140 #[.string a0, .string t636] bq (rEDiff.calls k a0 t636 t637 _ A5.out) ?_; clear HB; intro w8 HB))
 go_ret
 exact finE
theorem rECommon.calls (k : Nat) (a0 : ByteArray) (a1 : ByteArray) (r : ByteArray) (w : World) (h : rECommon.f k a0 a1 = some r) :
  Calls Tryz.prog 119 #[.string a0, .string a1] w fun e w' => e = .returned (.string r) ∧ Below w.heap.size w w' := by
 have HB := Z0.mk (Below.refl w.heap.size w)
 have H := h
 clear h
 unfold rECommon.f at H
 obtain ⟨t638, A3, H⟩ := bnd H
 obtain ⟨t639, A4, H⟩ := bnd H
 have H' := Z0.mk H
 clear H
 go_enter Tryz.func119, Tryz.ntmps119
 go_wp2_with (first | ((with_reducible refine gc_ 157 rfl ?_); refine goD (some 8) Tryz.func157 #[.string a0] (rEMagnitude.calls a0 t638 _ A3.out) ?_; intro nd) | ((with_reducible refine gc_ 157 rfl ?_); refine goD (some 10) Tryz.func157 #[.string a1] (rEMagnitude.calls a1 t639 _ A4.out) ?_; intro nd))
 go_loopg [5, 6] k (fun kq v5 v6 w' => ∃ (x5_1 : ByteArray) (x6_1 : ByteArray), v5 = .string x5_1 ∧ v6 = .string x6_1 ∧ Z0 (rECommon.l0 kq x5_1 x6_1 = some r) ∧ Z0 (kq ≤ k) ∧ Z0 (Below w.heap.size w w'))
 case atStart => exact ⟨(t638), (t639), fs, fs, H', ⟨Nat.le_refl _⟩, ⟨bqs⟩⟩
 case round =>
  clear H'
  try clear c1
  try clear p2
  obtain ⟨x5_1, x6_1, rfl, rfl, HA, HK1, HB⟩ := hrel
  cases gk with
  | zero => exact absurd HA.out (by simp [rECommon.l0])
  | succ k1 =>
   have H := HA.out
   clear HA
   simp only [rECommon.l0] at H
   rcases je H with ⟨-, c5b0, c5b1, H⟩ | ⟨c5, c5b0, c5b1, H⟩
   ·obtain rfl := Option.some.inj H
    go_wp2
    go_ret
    exact finE
   obtain ⟨t640, A6, H⟩ := bnd H
   have H' := Z0.mk H
   clear H
   go_wp2_with (first | ((with_reducible refine gc_ 158 rfl ?_); refine goB (some 16) Tryz.func158 #[.string x5_1, .string x6_1] bq (rERest.calls k1 x5_1 x6_1 t640 _ A6.out) ?_; clear HB; intro w7 HB))
   go_roundg k1
   case measure => have := HK1.out; omega
   case rel => exact ⟨(x6_1), (t640), fs, fs, H', ⟨by have := HK1.out; omega⟩, ⟨bqs⟩⟩
theorem rESign.calls (a0 : ByteArray) (r : Int) (w : World) (h : rESign.f a0 = some r) :
  Calls Tryz.prog 122 #[.string a0] w fun e w' => e = .returned (.int .i64 r) ∧ Drawn0 w w' := by
 have H := h
 clear h
 unfold rESign.f at H
 rcases je H with ⟨-, c2b0, c2b1, H⟩ | ⟨c2, c2b0, c2b1, H⟩
 ·obtain rfl := Option.some.inj H
  go_enter Tryz.func122, Tryz.ntmps122
  go_wp2
  go_ret
  exact finD
 obtain ⟨t443, A3, H⟩ := bnd H
 by_cases c4 : t443 = true
 ·subst c4
  have H1 : (some (-1)) = some r := by rw [if_pos rfl] at H; exact H
  clear H
  have H := H1
  clear H1
  obtain rfl := Option.some.inj H
  go_enter Tryz.func122, Tryz.ntmps122
  go_wp2_with (first | ((with_reducible refine gc_ 126 rfl ?_); refine goD (some 6) Tryz.func126 #[.string a0] (rENegative.calls a0 true _ A3.out) ?_; intro nd))
  go_ret
  exact finD
 replace c4 := Bool.eq_false_iff.mpr c4
 subst c4
 have H1 : (some 1) = some r := by rw [if_neg (show ¬ (false = true) by decide)] at H; exact H
 clear H
 have H := H1
 clear H1
 obtain rfl := Option.some.inj H
 go_enter Tryz.func122, Tryz.ntmps122
 go_wp2_with (first | ((with_reducible refine gc_ 126 rfl ?_); refine goD (some 6) Tryz.func126 #[.string a0] (rENegative.calls a0 false _ A3.out) ?_; intro nd))
 go_ret
 exact finD
theorem rEOrder.calls (k : Nat) (a0 : ByteArray) (a1 : ByteArray) (r : Int) (w : World) (h : rEOrder.f k a0 a1 = some r) :
  Calls Tryz.prog 102 #[.string a0, .string a1] w fun e w' => e = .returned (.int .i64 r) ∧ Below w.heap.size w w' := by
 have HB := Z0.mk (Below.refl w.heap.size w)
 have H := h
 clear h
 unfold rEOrder.f at H
 obtain ⟨t462, A3, H⟩ := bnd H
 obtain ⟨t463, A4, H⟩ := bnd H
 rcases je H with ⟨-, c5b0, c5b1, H⟩ | ⟨c5, c5b0, c5b1, H⟩
 ·obtain ⟨t464, A6, H⟩ := bnd H
  obtain ⟨t467, A7, H⟩ := bnd H
  obtain ⟨t470, A8, H⟩ := bnd H
  obtain ⟨t473, A9, H⟩ := bnd H
  obtain ⟨t476, A10, H⟩ := bnd H
  obtain rfl := Option.some.inj H
  go_enter Tryz.func102, Tryz.ntmps102
  go_wp2_with (first | ((with_reducible refine gc_ 122 rfl ?_); refine goD (some 8) Tryz.func122 #[.string a0] (rESign.calls a0 t462 _ A3.out) ?_; intro nd) | ((with_reducible refine gc_ 122 rfl ?_); refine goD (some 10) Tryz.func122 #[.string a1] (rESign.calls a1 t463 _ A4.out) ?_; intro nd) | ((with_reducible refine gc_ 138 rfl ?_); refine gL 19 Tryz.func138 (rEdigits.calls _ _ _ _ A6.out) ?_; rintro _ w11 ⟨v465, rfl, ho0, hb⟩; refine ⟨_, rfl, ?_⟩; have HO466 := fN ho0; replace HB := fB HB hb; clear hb ho0; obtain ⟨Ao12, co12, eo12⟩ := Kd.R_slice HO466.out; subst eo12) | ((with_reducible refine gc_ 142 rfl ?_); refine gL 20 Tryz.func142 (rEcut.calls k (fun k_ => some k_ = (.slice Ao12 t464.length co12 : Value).ownBlock) _ _ t464 t467 _ ?side1 A7.out) ?_; (case side1 => exact Kd.R_V (Kd.R_tight rfl (HO466.out))); rintro _ w13 ⟨v468, rfl, ho0, hb⟩; refine ⟨_, rfl, ?_⟩; have HO469 := Z0.mk (Kd.V_lower (Kd.V_mono (ok' := fun k_ => True) ho0 (fun k_ hk_ => trivial)) (below_size bqs)); replace HO466 := fR HO466 hb; replace HB := fB HB hb; clear hb ho0) | ((with_reducible refine gc_ 138 rfl ?_); refine gL 22 Tryz.func138 (rEdigits.calls _ _ _ _ A8.out) ?_; rintro _ w14 ⟨v471, rfl, ho0, hb⟩; refine ⟨_, rfl, ?_⟩; have HO472 := Z0.mk (Kd.R_lower (Kd.R_new' ho0 (Kd.R_lt (rq HO466))) (below_size bqs)); replace HO466 := Z0.mk (Kd.R_elder' (rq HO466) (Kd.R_base ho0) hb); replace HO469 := Z0.mk (Kd.V_elder' (vq HO469) (Kd.R_base ho0) hb); replace HB := fB HB hb; clear hb ho0; obtain ⟨Ao15, co15, eo15⟩ := Kd.R_slice HO472.out; subst eo15) | ((with_reducible refine gc_ 142 rfl ?_); refine gL 23 Tryz.func142 (rEcut.calls k (fun k_ => some k_ = (.slice Ao15 t470.length co15 : Value).ownBlock) _ _ t470 t473 _ ?side1 A9.out) ?_; (case side1 => exact Kd.R_V (Kd.R_tight rfl (HO472.out))); rintro _ w16 ⟨v474, rfl, ho0, hb⟩; refine ⟨_, rfl, ?_⟩; have HO475 := Z0.mk (Kd.V_lower (Kd.V_mono (ok' := fun k_ => some k_ ≠ (.slice Ao12 t464.length co12 : Value).ownBlock) ho0 (fun k_ hk_ => Or.elim hk_ (fun hs_ => ((HO472.out).1 k_ hs_.symm).2) (fun hn_ => (Kd.fresh' (Kd.R_lt (rq HO466)) k_ hn_)))) (below_size bqs)); replace HO466 := fR HO466 hb; replace HO469 := fV HO469 hb; replace HO472 := fR HO472 hb; replace HB := fB HB hb; clear hb ho0; obtain ⟨Ao17, co17, eo17⟩ := Kd.V_slice HO469.out; subst eo17; obtain ⟨Ao18, co18, eo18⟩ := Kd.V_slice HO475.out; subst eo18) | ((with_reducible refine gc_ 141 rfl ?_); refine goesL_ (some 24) rfl rfl Tryz.func141 (by kernel_rfl) rfl #[.slice Ao17 t467.length co17, .slice Ao18 t473.length co18] rfl (by (try simp only [List.map_toArray, List.map_cons, List.map_nil]); first | done | rfl | (simp only [List.length_drop, List.length_take]; rfl)) ?_; (with_reducible refine (rEorder.calls k _ _ t467 _ _ t473 t476 _ ?side1 ?side2 ?side3 ?side4 A10.out).mono ?_); (case side1 => exact cq (Kd.V_reads' HO469.out).2.2); (case side2 => exact (Kd.V_reads' HO469.out).2.1); (case side3 => exact cq (Kd.V_reads' HO475.out).2.2); (case side4 => exact (Kd.V_reads' HO475.out).2.1); rintro e w' ⟨rfl, ⟨nd, rfl⟩⟩; refine ⟨_, rfl, ?_⟩))
  go_ret
  exact finE
 rcases jd H with ⟨-, c19b0, H⟩ | ⟨-, c19b0, H⟩
 ·obtain rfl := Option.some.inj H
  go_enter Tryz.func102, Tryz.ntmps102
  go_wp2_with (first | ((with_reducible refine gc_ 122 rfl ?_); refine goD (some 8) Tryz.func122 #[.string a0] (rESign.calls a0 t462 _ A3.out) ?_; intro nd) | ((with_reducible refine gc_ 122 rfl ?_); refine goD (some 10) Tryz.func122 #[.string a1] (rESign.calls a1 t463 _ A4.out) ?_; intro nd))
  go_ret
  exact finE
 obtain rfl := Option.some.inj H
 go_enter Tryz.func102, Tryz.ntmps102
 go_wp2_with (first | ((with_reducible refine gc_ 122 rfl ?_); refine goD (some 8) Tryz.func122 #[.string a0] (rESign.calls a0 t462 _ A3.out) ?_; intro nd) | ((with_reducible refine gc_ 122 rfl ?_); refine goD (some 10) Tryz.func122 #[.string a1] (rESign.calls a1 t463 _ A4.out) ?_; intro nd))
 go_ret
 exact finE
theorem rFformed.calls (k : Nat) (a0 : ByteArray) (r : Bool) (w : World) (h : rFformed.f k a0 = some r) :
  Calls Tryz.prog 81 #[.string a0] w fun e w' => e = .returned (.bool r) ∧ Below w.heap.size w w' := by
 have HB := Z0.mk (Below.refl w.heap.size w)
 have H := h
 clear h
 unfold rFformed.f at H
 obtain ⟨t641, A2, H⟩ := bnd H
 obtain ⟨t642, A3, H⟩ := bnd H
 have HC4 := Z0.mk H
 clear H
 go_enter Tryz.func81, Tryz.ntmps81
 go_upto_region 2 with (first | ((with_reducible refine gc_ 72 rfl ?_); refine goD (some 7) Tryz.func72 #[.string a0] (rFTop.calls k a0 t641 _ A2.out) ?_; intro nd) | ((with_reducible refine gc_ 36 rfl ?_); refine goD (some 8) Tryz.func36 #[.string t641] (rECheck.calls k t641 t642 _ A3.out) ?_; intro nd))
 (try simp only [Act.put, List.setIfInBounds_toArray, List.set_cons_zero, List.set_cons_succ])
 go_cut [14] (fun v14 wc => ∃ (kq : Nat) (x14_3 : Bool), v14 = .bool x14_3 ∧ Z0 (rFformed.j0 kq a0 x14_3 = some r) ∧ Z0 (kq ≤ k) ∧ Z0 (Below w.heap.size w wc))
 case first =>
  have H := HC4.out
  clear HC4
  rcases je H with ⟨-, c5b0, c5b1, H⟩ | ⟨c5, c5b0, c5b1, H⟩
  ·(first | rw [c5b0] | (simp only [i64_w, i32_w]; rw [c5b0]) | skip)
   have H' := Z0.mk H
   clear H
   go_wp2
   go_meet
   case rel => exact ⟨_, (false), fs, H', ⟨by first | omega | exact Nat.le_refl _⟩, ⟨bqs⟩⟩
  (first | rw [c5b0] | (simp only [i64_w, i32_w]; rw [c5b0]) | skip)
  have H' := Z0.mk H
  clear H
  go_wp2
  go_meet
  case rel => exact ⟨_, ((t642 != 10)), fs, H', ⟨by first | omega | exact Nat.le_refl _⟩, ⟨bqs⟩⟩
 case rest =>
  clear HC4
  try clear p2
  try clear c3
  try clear c5
  try clear c5b0
  try clear c5b1
  obtain ⟨kq, x14_3, rfl, HA, HJ3, HB⟩ := hcut
  cases kq with
  | zero => exact absurd HA.out (by simp [rFformed.j0])
  | succ kj3 =>
   have H := HA.out
   clear HA
   simp only [rFformed.j0] at H
   by_cases c6 : x14_3 = true
   ·subst c6
    have H1 : (some false) = some r := by rw [if_pos rfl] at H; exact H
    clear H
    have H := H1
    clear H1
    obtain rfl := Option.some.inj H
    go_wp2
    go_ret
    exact finE
   replace c6 := Bool.eq_false_iff.mpr c6
   subst c6
   have H1 : ((rFslash.f kj3 a0).bind fun t643 => (if t643 < 0 then (some true) else ((rFBottom.f kj3 a0).bind fun t644 => ((rECheck.f kj3 t644).bind fun t645 => (if t645 = 0 then (rFformed.j1 kj3 a0 t644 false) else (rFformed.j1 kj3 a0 t644 (t645 != 10))))))) = some r := by rw [if_neg (show ¬ (false = true) by decide)] at H; exact H
   clear H
   have H := H1
   clear H1
   obtain ⟨t643, A7, H⟩ := bnd H
   rcases jd H with ⟨-, c8b0, H⟩ | ⟨-, c8b0, H⟩
   ·obtain rfl := Option.some.inj H
    go_wp2_with (first | ((with_reducible refine gc_ 113 rfl ?_); refine goD (some 16) Tryz.func113 #[.string a0] (rFslash.calls kj3 a0 t643 _ A7.out) ?_; intro nd))
    go_ret
    exact finE
   obtain ⟨t644, A9, H⟩ := bnd H
   obtain ⟨t645, A10, H⟩ := bnd H
   have HC11 := Z0.mk H
   clear H
   go_upto_region 8 with (first | ((with_reducible refine gc_ 113 rfl ?_); refine goD (some 16) Tryz.func113 #[.string a0] (rFslash.calls kj3 a0 t643 _ A7.out) ?_; intro nd) | ((with_reducible refine gc_ 73 rfl ?_); refine goD (some 19) Tryz.func73 #[.string a0] (rFBottom.calls kj3 a0 t644 _ A9.out) ?_; intro nd) | ((with_reducible refine gc_ 36 rfl ?_); refine goD (some 21) Tryz.func36 #[.string t644] (rECheck.calls kj3 t644 t645 _ A10.out) ?_; intro nd))
   (try simp only [Act.put, List.setIfInBounds_toArray, List.set_cons_zero, List.set_cons_succ])
   go_cut [27] (fun v27 wc => ∃ (kq : Nat) (x27_10 : Bool), v27 = .bool x27_10 ∧ Z0 (rFformed.j1 kq a0 t644 x27_10 = some r) ∧ Z0 (kq ≤ kj3) ∧ Z0 (Below w.heap.size w wc))
   case first =>
    have H := HC11.out
    clear HC11
    rcases je H with ⟨-, c12b0, c12b1, H⟩ | ⟨c12, c12b0, c12b1, H⟩
    ·(first | rw [c12b0] | (simp only [i64_w, i32_w]; rw [c12b0]) | skip)
     have H' := Z0.mk H
     clear H
     go_wp2
     go_meet
     case rel => exact ⟨_, (false), fs, H', ⟨by have := HJ3.out; first | omega | exact Nat.le_refl _⟩, ⟨bqs⟩⟩
    (first | rw [c12b0] | (simp only [i64_w, i32_w]; rw [c12b0]) | skip)
    have H' := Z0.mk H
    clear H
    go_wp2
    go_meet
    case rel => exact ⟨_, ((t645 != 10)), fs, H', ⟨by have := HJ3.out; first | omega | exact Nat.le_refl _⟩, ⟨bqs⟩⟩
   case rest =>
    clear HC11
    try clear c1
    try clear p2
    try clear c3
    try clear c5
    try clear c5b0
    try clear c5b1
    try clear c6
    try clear c7
    try clear c8
    try clear c8b0
    try clear c11
    try clear c12
    try clear c12b0
    try clear c12b1
    try clear p2
    obtain ⟨kq, x27_10, rfl, HA, HJ10, HB⟩ := hcut
    cases kq with
    | zero => exact absurd HA.out (by simp [rFformed.j1])
    | succ kj10 =>
     have H := HA.out
     clear HA
     simp only [rFformed.j1] at H
     by_cases c13 : x27_10 = true
     ·subst c13
      have H1 : (some false) = some r := by rw [if_pos rfl] at H; exact H
      clear H
      have H := H1
      clear H1
      obtain rfl := Option.some.inj H
      go_wp2
      go_ret
      exact finE
     replace c13 := Bool.eq_false_iff.mpr c13
     subst c13
     have H1 : ((rEOrder.f kj10 t644 (⟨#[49]⟩ : ByteArray)).bind fun t646 => (if t646 > 0 then ((rFTop.f kj10 a0).bind fun t647 => ((rECommon.f kj10 t647 t644).bind fun t648 => (some (t648.toList == ([49] : List UInt8))))) else (some false))) = some r := by rw [if_neg (show ¬ (false = true) by decide)] at H; exact H
     clear H
     have H := H1
     clear H1
     obtain ⟨t646, A14, H⟩ := bnd H
     rcases jg H with ⟨-, c15b0, H⟩ | ⟨-, c15b0, H⟩
     ·obtain ⟨t647, A16, H⟩ := bnd H
      obtain ⟨t648, A17, H⟩ := bnd H
      obtain rfl := Option.some.inj H
      go_wp2_with (first | ((with_reducible refine gc_ 102 rfl ?_); refine goB (some 29) Tryz.func102 #[.string t644, .string (⟨#[49]⟩ : ByteArray)] bq (rEOrder.calls kj10 t644 (⟨#[49]⟩ : ByteArray) t646 _ A14.out) ?_; clear HB; intro w18 HB) | (go_at_call 72; (with_reducible refine (rFTop.calls kj10 a0 t647 _ A16.out).mono ?_); rintro e w' ⟨rfl, ⟨nd, rfl⟩⟩) | (go_at_call 119; (with_reducible refine (rECommon.calls kj10 t647 t644 t648 _ A17.out).mono ?_); rintro e w19 ⟨rfl, hb⟩; replace HB := fB HB hb; clear hb))
      go_ret
      exact finE
     obtain rfl := Option.some.inj H
     go_wp2_with (first | ((with_reducible refine gc_ 102 rfl ?_); refine goB (some 29) Tryz.func102 #[.string t644, .string (⟨#[49]⟩ : ByteArray)] bq (rEOrder.calls kj10 t644 (⟨#[49]⟩ : ByteArray) t646 _ A14.out) ?_; clear HB; intro w20 HB))
     go_ret
     exact finE
theorem rFCheck.calls (k : Nat) (a0 : ByteArray) (r : Int) (w : World) (h : rFCheck.f k a0 = some r) :
  Calls Tryz.prog 29 #[.string a0] w fun e w' => e = .returned (.int .i64 r) ∧ Below w.heap.size w w' := by
 have HB := Z0.mk (Below.refl w.heap.size w)
 have H := h
 clear h
 unfold rFCheck.f at H
 obtain ⟨t653, A2, H⟩ := bnd H
 by_cases c3 : t653 = true
 ·subst c3
  have H1 : ((rFDigits.f k a0).bind fun t654 => (if t654 > 4096 then (some 10) else (some 0))) = some r := by rw [if_pos rfl] at H; exact H
  clear H
  have H := H1
  clear H1
  obtain ⟨t654, A4, H⟩ := bnd H
  rcases jg H with ⟨-, c5b0, H⟩ | ⟨-, c5b0, H⟩
  ·obtain rfl := Option.some.inj H
   go_enter Tryz.func29, Tryz.ntmps29
   go_wp2_with (first | ((with_reducible refine gc_ 81 rfl ?_); refine goB (some 4) Tryz.func81 #[.string a0] bq (rFformed.calls k a0 true _ A2.out) ?_; clear HB; intro w6 HB) | ((with_reducible refine gc_ 82 rfl ?_); refine goB (some 7) Tryz.func82 #[.string a0] bq (rFDigits.calls k a0 t654 _ A4.out) ?_; clear HB; intro w7 HB))
   go_ret
   exact finE
  obtain rfl := Option.some.inj H
  go_enter Tryz.func29, Tryz.ntmps29
  go_wp2_with (first | ((with_reducible refine gc_ 81 rfl ?_); refine goB (some 4) Tryz.func81 #[.string a0] bq (rFformed.calls k a0 true _ A2.out) ?_; clear HB; intro w8 HB) | ((with_reducible refine gc_ 82 rfl ?_); refine goB (some 7) Tryz.func82 #[.string a0] bq (rFDigits.calls k a0 t654 _ A4.out) ?_; clear HB; intro w9 HB))
  go_ret
  exact finE
 replace c3 := Bool.eq_false_iff.mpr c3
 subst c3
 have H1 : (some 3) = some r := by rw [if_neg (show ¬ (false = true) by decide)] at H; exact H
 clear H
 have H := H1
 clear H1
 obtain rfl := Option.some.inj H
 go_enter Tryz.func29, Tryz.ntmps29
 go_wp2_with (first | ((with_reducible refine gc_ 81 rfl ?_); refine goB (some 4) Tryz.func81 #[.string a0] bq (rFformed.calls k a0 false _ A2.out) ?_; clear HB; intro w10 HB))
 go_ret
 exact finE
theorem rASub.calls (k : Nat) (a0 : ByteArray) (a1 : ByteArray) (r1 : ByteArray) (r2 : Int) (w : World) (hL : LaidW w) (h : rASub.f k a0 a1 = some (r1, r2)) :
  Calls Tryz.prog 46 #[.string a0, .string a1] w fun e w' => e = .returned (.tuple #[.string r1, .int .i64 r2]) ∧ Below w.heap.size w w' := by
 have HB := Z0.mk (Below.refl w.heap.size w)
 have H := h
 clear h
 unfold rASub.f at H
 obtain ⟨⟨t847, t848⟩, A3, H⟩ := bnd H
 try dsimp only at H
 simp only [Option.some.injEq, Prod.mk.injEq] at H
 obtain ⟨rfl, rfl⟩ := H
 go_enter Tryz.func46, Tryz.ntmps46
 go_wp2_with (first | ((with_reducible refine gc_ 97 rfl ?_); refine goB (some 8) Tryz.func97 #[.int .u8 45, .string a0, .string a1] bq (rAcalculate.calls k 45 a0 a1 t847 t848 _ (hL.below bq) A3.out) ?_; clear HB; intro w4 HB))
 go_ret2
 exact finE
theorem rAMul.calls (k : Nat) (a0 : ByteArray) (a1 : ByteArray) (r1 : ByteArray) (r2 : Int) (w : World) (hL : LaidW w) (h : rAMul.f k a0 a1 = some (r1, r2)) :
  Calls Tryz.prog 41 #[.string a0, .string a1] w fun e w' => e = .returned (.tuple #[.string r1, .int .i64 r2]) ∧ Below w.heap.size w w' := by
 have HB := Z0.mk (Below.refl w.heap.size w)
 have H := h
 clear h
 unfold rAMul.f at H
 obtain ⟨⟨t753, t754⟩, A3, H⟩ := bnd H
 try dsimp only at H
 simp only [Option.some.injEq, Prod.mk.injEq] at H
 obtain ⟨rfl, rfl⟩ := H
 go_enter Tryz.func41, Tryz.ntmps41
 go_wp2_with (first | ((with_reducible refine gc_ 97 rfl ?_); refine goB (some 8) Tryz.func97 #[.int .u8 42, .string a0, .string a1] bq (rAcalculate.calls k 42 a0 a1 t753 t754 _ (hL.below bq) A3.out) ?_; clear HB; intro w4 HB))
 go_ret2
 exact finE
theorem rADiv.calls (k : Nat) (a0 : ByteArray) (a1 : ByteArray) (r1 : ByteArray) (r2 : Int) (w : World) (hL : LaidW w) (h : rADiv.f k a0 a1 = some (r1, r2)) :
  Calls Tryz.prog 48 #[.string a0, .string a1] w fun e w' => e = .returned (.tuple #[.string r1, .int .i64 r2]) ∧ Below w.heap.size w w' := by
 have HB := Z0.mk (Below.refl w.heap.size w)
 have H := h
 clear h
 unfold rADiv.f at H
 obtain ⟨⟨t413, t414⟩, A3, H⟩ := bnd H
 try dsimp only at H
 simp only [Option.some.injEq, Prod.mk.injEq] at H
 obtain ⟨rfl, rfl⟩ := H
 go_enter Tryz.func48, Tryz.ntmps48
 go_wp2_with (first | ((with_reducible refine gc_ 97 rfl ?_); refine goB (some 8) Tryz.func97 #[.int .u8 47, .string a0, .string a1] bq (rAcalculate.calls k 47 a0 a1 t413 t414 _ (hL.below bq) A3.out) ?_; clear HB; intro w4 HB))
 go_ret2
 exact finE
theorem rACompare.calls (k : Nat) (a0 : ByteArray) (a1 : ByteArray) (r1 : Int) (r2 : Int) (w : World) (hL : LaidW w) (h : rACompare.f k a0 a1 = some (r1, r2)) :
  Calls Tryz.prog 34 #[.string a0, .string a1] w fun e w' => e = .returned (.tuple #[.int .i64 r1, .int .i64 r2]) ∧ Below w.heap.size w w' := by
 have hu95 := Tryz.underlying95
 have HB := Z0.mk (Below.refl w.heap.size w)
 have H := h
 clear h
 unfold rACompare.f at H
 obtain ⟨⟨t400, t401, t402, t403, t404⟩, A3, H⟩ := bnd H
 try dsimp only at H
 rcases je H with ⟨-, c4b0, c4b1, H⟩ | ⟨c4, c4b0, c4b1, H⟩
 ·obtain ⟨⟨t406, t407, t408⟩, A5, H⟩ := bnd H
  try dsimp only at H
  rcases je H with ⟨-, c6b0, c6b1, H⟩ | ⟨c6, c6b0, c6b1, H⟩
  ·obtain ⟨⟨t409, t410⟩, A7, H⟩ := bnd H
   try dsimp only at H
   simp only [Option.some.injEq, Prod.mk.injEq] at H
   obtain ⟨rfl, rfl⟩ := H
   go_enter Tryz.func34, Tryz.ntmps34
   go_wp2_with (first | ((with_reducible refine gc_ 90 rfl ?_); refine goB (some 13) Tryz.func90 #[.string a0, .string a1] bq (rAnewPair.calls k a0 a1 t400 t401 t402 t403 t404 _ (hL.below bq) A3.out) ?_; clear HB; intro w8 HB) | ((with_reducible refine gd_ 6 rfl ?_); refine bxE 6 #[.string (⟨#[]⟩ : ByteArray), .string (⟨#[]⟩ : ByteArray), .string (⟨#[]⟩ : ByteArray), .string (⟨#[]⟩ : ByteArray)] 95 ?_; intro gb405 hg w9 hbox hb; have BK405 := Z0.mk hbox; have GW405 := fE HB hg; have GE405 := fE HB hg; replace HB := fB HB hb; clear hb hbox hg; obtain ⟨hcz10_0, hcz10_1, hcz10_2, hcz10_3, hfz10_0, hfz10_1, hfz10_2, hfz10_3⟩ := b4 BK405) | ((with_reducible refine gc_ 91 rfl ?_); refine gL 28 Tryz.func91 (rAboth.calls k t400 t403 t402 t401 t406 t407 t408 _ ?side1 A5.out) ?_; (case side1 => exact LaidW.below hL bqs); rintro _ w11 ⟨rfl, hb⟩; refine ⟨_, rfl, ?_⟩; replace BK405 := Z0.mk (blk_below (g := gb405) (o := .cells #[.string t400, .string t401, .string t402, .string t403] 95 (0, 0)) (by (with_reducible repeat (first | refine blk_drewN ?_ _ | refine blk_drew ?_ | refine blk_alloc ?_ _)); refine blk_put (cs := #[.string t400, .string t401, .string t402, .string (⟨#[]⟩ : ByteArray)]) ?_ 3 _ rfl; (with_reducible repeat (first | refine blk_drewN ?_ _ | refine blk_drew ?_ | refine blk_alloc ?_ _)); refine blk_put (cs := #[.string t400, .string t401, .string (⟨#[]⟩ : ByteArray), .string (⟨#[]⟩ : ByteArray)]) ?_ 2 _ rfl; (with_reducible repeat (first | refine blk_drewN ?_ _ | refine blk_drew ?_ | refine blk_alloc ?_ _)); refine blk_put (cs := #[.string t400, .string (⟨#[]⟩ : ByteArray), .string (⟨#[]⟩ : ByteArray), .string (⟨#[]⟩ : ByteArray)]) ?_ 1 _ rfl; (with_reducible repeat (first | refine blk_drewN ?_ _ | refine blk_drew ?_ | refine blk_alloc ?_ _)); refine blk_put (cs := #[.string (⟨#[]⟩ : ByteArray), .string (⟨#[]⟩ : ByteArray), .string (⟨#[]⟩ : ByteArray), .string (⟨#[]⟩ : ByteArray)]) ?_ 0 _ rfl; (with_reducible repeat (first | refine blk_drewN ?_ _ | refine blk_drew ?_ | refine blk_alloc ?_ _)); exact BK405.out) hb); replace HB := fB HB hb; clear hb) | ((with_reducible refine gc_ 63 rfl ?_); refine gL 37 Tryz.func63 (bICompare.calls _ _ _ _ _ _ A7.out) ?_; rintro _ w12 ⟨rfl, hb⟩; refine ⟨_, rfl, ?_⟩; replace BK405 := fk BK405 hb; replace HB := fB HB hb; clear hb))
   go_ret2
   exact finE
  simp only [Option.some.injEq, Prod.mk.injEq] at H
  obtain ⟨rfl, rfl⟩ := H
  go_enter Tryz.func34, Tryz.ntmps34
  go_wp2_with (first | ((with_reducible refine gc_ 90 rfl ?_); refine goB (some 13) Tryz.func90 #[.string a0, .string a1] bq (rAnewPair.calls k a0 a1 t400 t401 t402 t403 t404 _ (hL.below bq) A3.out) ?_; clear HB; intro w13 HB) | ((with_reducible refine gd_ 6 rfl ?_); refine bxE 6 #[.string (⟨#[]⟩ : ByteArray), .string (⟨#[]⟩ : ByteArray), .string (⟨#[]⟩ : ByteArray), .string (⟨#[]⟩ : ByteArray)] 95 ?_; intro gb405 hg w14 hbox hb; have BK405 := Z0.mk hbox; have GW405 := fE HB hg; have GE405 := fE HB hg; replace HB := fB HB hb; clear hb hbox hg; obtain ⟨hcz15_0, hcz15_1, hcz15_2, hcz15_3, hfz15_0, hfz15_1, hfz15_2, hfz15_3⟩ := b4 BK405) | ((with_reducible refine gc_ 91 rfl ?_); refine gL 28 Tryz.func91 (rAboth.calls k t400 t403 t402 t401 t406 t407 t408 _ ?side1 A5.out) ?_; (case side1 => exact LaidW.below hL bqs); rintro _ w16 ⟨rfl, hb⟩; refine ⟨_, rfl, ?_⟩; replace BK405 := Z0.mk (blk_below (g := gb405) (o := .cells #[.string t400, .string t401, .string t402, .string t403] 95 (0, 0)) (by (with_reducible repeat (first | refine blk_drewN ?_ _ | refine blk_drew ?_ | refine blk_alloc ?_ _)); refine blk_put (cs := #[.string t400, .string t401, .string t402, .string (⟨#[]⟩ : ByteArray)]) ?_ 3 _ rfl; (with_reducible repeat (first | refine blk_drewN ?_ _ | refine blk_drew ?_ | refine blk_alloc ?_ _)); refine blk_put (cs := #[.string t400, .string t401, .string (⟨#[]⟩ : ByteArray), .string (⟨#[]⟩ : ByteArray)]) ?_ 2 _ rfl; (with_reducible repeat (first | refine blk_drewN ?_ _ | refine blk_drew ?_ | refine blk_alloc ?_ _)); refine blk_put (cs := #[.string t400, .string (⟨#[]⟩ : ByteArray), .string (⟨#[]⟩ : ByteArray), .string (⟨#[]⟩ : ByteArray)]) ?_ 1 _ rfl; (with_reducible repeat (first | refine blk_drewN ?_ _ | refine blk_drew ?_ | refine blk_alloc ?_ _)); refine blk_put (cs := #[.string (⟨#[]⟩ : ByteArray), .string (⟨#[]⟩ : ByteArray), .string (⟨#[]⟩ : ByteArray), .string (⟨#[]⟩ : ByteArray)]) ?_ 0 _ rfl; (with_reducible repeat (first | refine blk_drewN ?_ _ | refine blk_drew ?_ | refine blk_alloc ?_ _)); exact BK405.out) hb); replace HB := fB HB hb; clear hb))
  go_ret2
  exact finE
 simp only [Option.some.injEq, Prod.mk.injEq] at H
 obtain ⟨rfl, rfl⟩ := H
 go_enter Tryz.func34, Tryz.ntmps34
 go_wp2_with (first | ((with_reducible refine gc_ 90 rfl ?_); refine goB (some 13) Tryz.func90 #[.string a0, .string a1] bq (rAnewPair.calls k a0 a1 t400 t401 t402 t403 t404 _ (hL.below bq) A3.out) ?_; clear HB; intro w17 HB) | ((with_reducible refine gd_ 6 rfl ?_); refine bxE 6 #[.string (⟨#[]⟩ : ByteArray), .string (⟨#[]⟩ : ByteArray), .string (⟨#[]⟩ : ByteArray), .string (⟨#[]⟩ : ByteArray)] 95 ?_; intro gb405 hg w18 hbox hb; have BK405 := Z0.mk hbox; have GW405 := fE HB hg; have GE405 := fE HB hg; replace HB := fB HB hb; clear hb hbox hg; obtain ⟨hcz19_0, hcz19_1, hcz19_2, hcz19_3, hfz19_0, hfz19_1, hfz19_2, hfz19_3⟩ := b4 BK405))
 go_ret2
 exact finE
theorem rAOf.calls (k : Nat) (a0 : ByteArray) (a1 : ByteArray) (r1 : ByteArray) (r2 : Int) (w : World) (hL : LaidW w) (h : rAOf.f k a0 a1 = some (r1, r2)) :
  Calls Tryz.prog 30 #[.string a0, .string a1] w fun e w' => e = .returned (.tuple #[.string r1, .int .i64 r2]) ∧ Below w.heap.size w w' := by
 have HB := Z0.mk (Below.refl w.heap.size w)
 have H := h
 clear h
 unfold rAOf.f at H
 obtain ⟨t362, A3, H⟩ := bnd H
 rcases je H with ⟨-, c4b0, c4b1, H⟩ | ⟨c4, c4b0, c4b1, H⟩
 ·obtain ⟨t363, A5, H⟩ := bnd H
  rcases je H with ⟨-, c6b0, c6b1, H⟩ | ⟨c6, c6b0, c6b1, H⟩
  ·rcases je H with ⟨-, c7b0, c7b1, H⟩ | ⟨c7, c7b0, c7b1, H⟩
   ·simp only [Option.some.injEq, Prod.mk.injEq] at H
    obtain ⟨rfl, rfl⟩ := H
    go_enter Tryz.func30, Tryz.ntmps30
    go_wp2_with (first | ((with_reducible refine gc_ 83 rfl ?_); refine goB (some 9) Tryz.func83 #[.string a0] bq (bICheck.calls a0 t362 _ A3.out) ?_; clear HB; intro w8 HB) | ((with_reducible refine gc_ 83 rfl ?_); refine goB (some 14) Tryz.func83 #[.string a1] bq (bICheck.calls a1 t363 _ A5.out) ?_; clear HB; intro w9 HB))
    go_ret2
    exact finE
   obtain ⟨⟨t364, t365⟩, A10, H⟩ := bnd H
   try dsimp only at H
   simp only [Option.some.injEq, Prod.mk.injEq] at H
   obtain ⟨rfl, rfl⟩ := H
   go_enter Tryz.func30, Tryz.ntmps30
   go_wp2_with (first | ((with_reducible refine gc_ 83 rfl ?_); refine goB (some 9) Tryz.func83 #[.string a0] bq (bICheck.calls a0 t362 _ A3.out) ?_; clear HB; intro w11 HB) | ((with_reducible refine gc_ 83 rfl ?_); refine goB (some 14) Tryz.func83 #[.string a1] bq (bICheck.calls a1 t363 _ A5.out) ?_; clear HB; intro w12 HB) | ((with_reducible refine gc_ 84 rfl ?_); refine goB (some 22) Tryz.func84 #[.string a0, .string a1] bq (rAwhole.calls k a0 a1 t364 t365 _ (hL.below bq) A10.out) ?_; clear HB; intro w13 HB))
   go_ret2
   exact finE
  simp only [Option.some.injEq, Prod.mk.injEq] at H
  obtain ⟨rfl, rfl⟩ := H
  go_enter Tryz.func30, Tryz.ntmps30
  go_wp2_with (first | ((with_reducible refine gc_ 83 rfl ?_); refine goB (some 9) Tryz.func83 #[.string a0] bq (bICheck.calls a0 t362 _ A3.out) ?_; clear HB; intro w14 HB) | ((with_reducible refine gc_ 83 rfl ?_); refine goB (some 14) Tryz.func83 #[.string a1] bq (bICheck.calls a1 t363 _ A5.out) ?_; clear HB; intro w15 HB))
  go_ret2
  exact finE
 simp only [Option.some.injEq, Prod.mk.injEq] at H
 obtain ⟨rfl, rfl⟩ := H
 go_enter Tryz.func30, Tryz.ntmps30
 go_wp2_with (first | ((with_reducible refine gc_ 83 rfl ?_); refine goB (some 9) Tryz.func83 #[.string a0] bq (bICheck.calls a0 t362 _ A3.out) ?_; clear HB; intro w16 HB))
 go_ret2
 exact finE
theorem rANum.calls (k : Nat) (a0 : ByteArray) (r1 : ByteArray) (r2 : Int) (w : World) (hL : LaidW w) (h : rANum.f k a0 = some (r1, r2)) :
  Calls Tryz.prog 18 #[.string a0] w fun e w' => e = .returned (.tuple #[.string r1, .int .i64 r2]) ∧ Below w.heap.size w w' := by
 have HB := Z0.mk (Below.refl w.heap.size w)
 have H := h
 clear h
 unfold rANum.f at H
 obtain ⟨t223, A2, H⟩ := bnd H
 rcases je H with ⟨-, c3b0, c3b1, H⟩ | ⟨c3, c3b0, c3b1, H⟩
 ·obtain ⟨⟨t224, t225⟩, A4, H⟩ := bnd H
  try dsimp only at H
  simp only [Option.some.injEq, Prod.mk.injEq] at H
  obtain ⟨rfl, rfl⟩ := H
  go_enter Tryz.func18, Tryz.ntmps18
  go_wp2_with (first | ((with_reducible refine gc_ 28 rfl ?_); refine goB (some 8) Tryz.func28 #[.string a0] bq (rACheck.calls k a0 t223 _ (hL.below bq) A2.out) ?_; clear HB; intro w5 HB) | ((with_reducible refine gc_ 71 rfl ?_); refine goB (some 14) Tryz.func71 #[.string a0] bq (rAsplit.calls a0 t224 t225 _ A4.out) ?_; clear HB; intro w6 HB))
  go_ret2
  exact finE
 simp only [Option.some.injEq, Prod.mk.injEq] at H
 obtain ⟨rfl, rfl⟩ := H
 go_enter Tryz.func18, Tryz.ntmps18
 go_wp2_with (first | ((with_reducible refine gc_ 28 rfl ?_); refine goB (some 8) Tryz.func28 #[.string a0] bq (rACheck.calls k a0 t223 _ (hL.below bq) A2.out) ?_; clear HB; intro w7 HB))
 go_ret2
 exact finE
theorem rADen.calls (k : Nat) (a0 : ByteArray) (r1 : ByteArray) (r2 : Int) (w : World) (hL : LaidW w) (h : rADen.f k a0 = some (r1, r2)) :
  Calls Tryz.prog 19 #[.string a0] w fun e w' => e = .returned (.tuple #[.string r1, .int .i64 r2]) ∧ Below w.heap.size w w' := by
 have HB := Z0.mk (Below.refl w.heap.size w)
 have H := h
 clear h
 unfold rADen.f at H
 obtain ⟨t226, A2, H⟩ := bnd H
 rcases je H with ⟨-, c3b0, c3b1, H⟩ | ⟨c3, c3b0, c3b1, H⟩
 ·obtain ⟨⟨t227, t228⟩, A4, H⟩ := bnd H
  try dsimp only at H
  simp only [Option.some.injEq, Prod.mk.injEq] at H
  obtain ⟨rfl, rfl⟩ := H
  go_enter Tryz.func19, Tryz.ntmps19
  go_wp2_with (first | ((with_reducible refine gc_ 28 rfl ?_); refine goB (some 8) Tryz.func28 #[.string a0] bq (rACheck.calls k a0 t226 _ (hL.below bq) A2.out) ?_; clear HB; intro w5 HB) | ((with_reducible refine gc_ 71 rfl ?_); refine goB (some 14) Tryz.func71 #[.string a0] bq (rAsplit.calls a0 t227 t228 _ A4.out) ?_; clear HB; intro w6 HB))
  go_ret2
  exact finE
 simp only [Option.some.injEq, Prod.mk.injEq] at H
 obtain ⟨rfl, rfl⟩ := H
 go_enter Tryz.func19, Tryz.ntmps19
 go_wp2_with (first | ((with_reducible refine gc_ 28 rfl ?_); refine goB (some 8) Tryz.func28 #[.string a0] bq (rACheck.calls k a0 t226 _ (hL.below bq) A2.out) ?_; clear HB; intro w7 HB))
 go_ret2
 exact finE
theorem rAFloor.calls (k : Nat) (a0 : ByteArray) (r1 : ByteArray) (r2 : Int) (w : World) (hL : LaidW w) (h : rAFloor.f k a0 = some (r1, r2)) :
  Calls Tryz.prog 21 #[.string a0] w fun e w' => e = .returned (.tuple #[.string r1, .int .i64 r2]) ∧ Below w.heap.size w w' := by
 have HB := Z0.mk (Below.refl w.heap.size w)
 have H := h
 clear h
 unfold rAFloor.f at H
 obtain ⟨t286, A2, H⟩ := bnd H
 rcases je H with ⟨-, c3b0, c3b1, H⟩ | ⟨c3, c3b0, c3b1, H⟩
 ·obtain ⟨⟨t287, t288⟩, A4, H⟩ := bnd H
  try dsimp only at H
  obtain ⟨⟨t289, t290⟩, A5, H⟩ := bnd H
  try dsimp only at H
  simp only [Option.some.injEq, Prod.mk.injEq] at H
  obtain ⟨rfl, rfl⟩ := H
  go_enter Tryz.func21, Tryz.ntmps21
  go_wp2_with (first | ((with_reducible refine gc_ 28 rfl ?_); refine goB (some 8) Tryz.func28 #[.string a0] bq (rACheck.calls k a0 t286 _ (hL.below bq) A2.out) ?_; clear HB; intro w6 HB) | ((with_reducible refine gc_ 71 rfl ?_); refine goB (some 14) Tryz.func71 #[.string a0] bq (rAsplit.calls a0 t287 t288 _ A4.out) ?_; clear HB; intro w7 HB) | ((with_reducible refine gc_ 69 rfl ?_); refine goB (some 19) Tryz.func69 #[.string t287, .string t288] bq (bIQuo.calls k t287 t288 t289 t290 _ (hL.below bq) A5.out) ?_; clear HB; intro w8 HB))
  go_ret2
  exact finE
 simp only [Option.some.injEq, Prod.mk.injEq] at H
 obtain ⟨rfl, rfl⟩ := H
 go_enter Tryz.func21, Tryz.ntmps21
 go_wp2_with (first | ((with_reducible refine gc_ 28 rfl ?_); refine goB (some 8) Tryz.func28 #[.string a0] bq (rACheck.calls k a0 t286 _ (hL.below bq) A2.out) ?_; clear HB; intro w9 HB))
 go_ret2
 exact finE
theorem rANeg.calls (k : Nat) (a0 : ByteArray) (r1 : ByteArray) (r2 : Int) (w : World) (hL : LaidW w) (h : rANeg.f k a0 = some (r1, r2)) :
  Calls Tryz.prog 20 #[.string a0] w fun e w' => e = .returned (.tuple #[.string r1, .int .i64 r2]) ∧ Below w.heap.size w w' := by
 have HB := Z0.mk (Below.refl w.heap.size w)
 have H := h
 clear h
 unfold rANeg.f at H
 obtain ⟨t291, A2, H⟩ := bnd H
 rcases je H with ⟨-, c3b0, c3b1, H⟩ | ⟨c3, c3b0, c3b1, H⟩
 ·rcases je H with ⟨-, c4b0, c4b1, H⟩ | ⟨c4, c4b0, c4b1, H⟩
  ·simp only [Option.some.injEq, Prod.mk.injEq] at H
   obtain ⟨rfl, rfl⟩ := H
   go_enter Tryz.func20, Tryz.ntmps20
   go_wp2_with (first | ((with_reducible refine gc_ 28 rfl ?_); refine goB (some 6) Tryz.func28 #[.string a0] bq (rACheck.calls k a0 t291 _ (hL.below bq) A2.out) ?_; clear HB; intro w5 HB))
   go_ret2
   exact finE
  obtain ⟨c6, c6b0, H⟩ := gd H
  have c6b1 : decide (0 < a0.size) = true := decide_eq_true (by omega)
  clear c6
  rcases je H with ⟨-, c8b0, c8b1, H⟩ | ⟨c8, c8b0, c8b1, H⟩
  ·obtain ⟨-, c9b0, c9b1, H⟩ := gt H
   simp only [Option.some.injEq, Prod.mk.injEq] at H
   obtain ⟨rfl, rfl⟩ := H
   go_enter Tryz.func20, Tryz.ntmps20
   go_wp2_with (first | ((with_reducible refine gc_ 28 rfl ?_); refine gL 6 Tryz.func28 (rACheck.calls k a0 t291 _ ?side1 A2.out) ?_; (case side1 => exact LaidW.below hL bqs); rintro _ w10 ⟨rfl, hb⟩; refine ⟨_, rfl, ?_⟩; replace HB := fB HB hb; clear hb; have p7 : 0 ≤ (0 : Int) := (by omega); have q7 : 0 < a0.size := (by have : (0 : Int) < (a0.size : Int) := od; omega); have hx7 : ∀ h : 0 < a0.size, ((a0[0]'h).toNat : Int) = bt a0 0 := bt_at a0 0; clear p7; have qi7 : (0 < (a0.size : Int)) = True := eq_true od; replace q7 := eq_true q7))
   go_ret2
   exact finE
  obtain ⟨c11, c11b0, c11b1, H⟩ := gt H
  try have c11b2 : (9223372036854775807 < 1 + a0.size) = False := eq_false (Nat.not_lt.2 c11)
  simp only [Option.some.injEq, Prod.mk.injEq] at H
  obtain ⟨rfl, rfl⟩ := H
  go_enter Tryz.func20, Tryz.ntmps20
  go_wp2_with (first | ((with_reducible refine gc_ 28 rfl ?_); refine gL 6 Tryz.func28 (rACheck.calls k a0 t291 _ ?side1 A2.out) ?_; (case side1 => exact LaidW.below hL bqs); rintro _ w12 ⟨rfl, hb⟩; refine ⟨_, rfl, ?_⟩; replace HB := fB HB hb; clear hb; have p7 : 0 ≤ (0 : Int) := (by omega); have q7 : 0 < a0.size := (by have : (0 : Int) < (a0.size : Int) := od; omega); have hx7 : ∀ h : 0 < a0.size, ((a0[0]'h).toNat : Int) = bt a0 0 := bt_at a0 0; clear p7; have qi7 : (0 < (a0.size : Int)) = True := eq_true od; replace q7 := eq_true q7))
  go_ret2
  exact finE
 simp only [Option.some.injEq, Prod.mk.injEq] at H
 obtain ⟨rfl, rfl⟩ := H
 go_enter Tryz.func20, Tryz.ntmps20
 go_wp2_with (first | ((with_reducible refine gc_ 28 rfl ?_); refine goB (some 6) Tryz.func28 #[.string a0] bq (rACheck.calls k a0 t291 _ (hL.below bq) A2.out) ?_; clear HB; intro w13 HB))
 go_ret2
 exact finE
theorem rACeil.calls (k : Nat) (a0 : ByteArray) (r1 : ByteArray) (r2 : Int) (w : World) (hL : LaidW w) (h : rACeil.f k a0 = some (r1, r2)) :
  Calls Tryz.prog 22 #[.string a0] w fun e w' => e = .returned (.tuple #[.string r1, .int .i64 r2]) ∧ Below w.heap.size w w' := by
 have HB := Z0.mk (Below.refl w.heap.size w)
 have H := h
 clear h
 unfold rACeil.f at H
 obtain ⟨⟨t323, t324⟩, A2, H⟩ := bnd H
 try dsimp only at H
 rcases je H with ⟨-, c3b0, c3b1, H⟩ | ⟨c3, c3b0, c3b1, H⟩
 ·obtain ⟨⟨t325, t326⟩, A4, H⟩ := bnd H
  try dsimp only at H
  rcases je H with ⟨-, c5b0, c5b1, H⟩ | ⟨c5, c5b0, c5b1, H⟩
  ·obtain ⟨⟨t327, t328⟩, A6, H⟩ := bnd H
   try dsimp only at H
   simp only [Option.some.injEq, Prod.mk.injEq] at H
   obtain ⟨rfl, rfl⟩ := H
   go_enter Tryz.func22, Tryz.ntmps22
   go_wp2_with (first | ((with_reducible refine gc_ 20 rfl ?_); refine goB (some 9) Tryz.func20 #[.string a0] bq (rANeg.calls k a0 t323 t324 _ (hL.below bq) A2.out) ?_; clear HB; intro w7 HB) | ((with_reducible refine gc_ 21 rfl ?_); refine goB (some 17) Tryz.func21 #[.string t323] bq (rAFloor.calls k t323 t325 t326 _ (hL.below bq) A4.out) ?_; clear HB; intro w8 HB) | ((with_reducible refine gc_ 35 rfl ?_); refine goB (some 24) Tryz.func35 #[.string t325] bq (bINeg.calls k t325 t327 t328 _ (hL.below bq) A6.out) ?_; clear HB; intro w9 HB))
   go_ret2
   exact finE
  simp only [Option.some.injEq, Prod.mk.injEq] at H
  obtain ⟨rfl, rfl⟩ := H
  go_enter Tryz.func22, Tryz.ntmps22
  go_wp2_with (first | ((with_reducible refine gc_ 20 rfl ?_); refine goB (some 9) Tryz.func20 #[.string a0] bq (rANeg.calls k a0 t323 t324 _ (hL.below bq) A2.out) ?_; clear HB; intro w10 HB) | ((with_reducible refine gc_ 21 rfl ?_); refine goB (some 17) Tryz.func21 #[.string t323] bq (rAFloor.calls k t323 t325 t326 _ (hL.below bq) A4.out) ?_; clear HB; intro w11 HB))
  go_ret2
  exact finE
 simp only [Option.some.injEq, Prod.mk.injEq] at H
 obtain ⟨rfl, rfl⟩ := H
 go_enter Tryz.func22, Tryz.ntmps22
 go_wp2_with (first | ((with_reducible refine gc_ 20 rfl ?_); refine goB (some 9) Tryz.func20 #[.string a0] bq (rANeg.calls k a0 t323 t324 _ (hL.below bq) A2.out) ?_; clear HB; intro w12 HB))
 go_ret2
 exact finE
end Go.Proofs.YthnfajboebaajaaGreatDoor.PA
namespace Go.Proofs.YthnfajboebaajaaGreatDoor.Rb
set_option linter.unusedVariables false
open Go.ChangeShapes Go.WideShapes Go.ChangeAt Go.RowKit
theorem and_ {a b : Bool} (h : a = true) (k : b = true) : (a && b) = true := by rw [h, k]; rfl
theorem own : ownKnob Tryz.prog.godebug = none := by kernel_rfl
abbrev laid : List (String × DataW Unit) := Rows.rationalMakesRow.laid
theorem shaped (os : Os) (args : Array Value) : ((World.laidAll Tryz.prog os laid).forCall (fun _ _ => 0) ⟨#[], args, []⟩).Shaped Tryz.checked.prog := World.shaped_of_ZipB (by kernel_rfl) (by kernel_rfl)
theorem met (os : Os) (args : Array Value) : laidMetH Tryz.prog laid ((World.laidAll Tryz.prog os laid).forCall (fun _ _ => 0) ⟨#[], args, []⟩).memory := by
 rw [MakeChecks.laidMetH_plain _ _ _ (by kernel_rfl)]
 exact laidMet_laidAll _ (by kernel_rfl) (by kernel_rfl)
theorem gPow : Tryz.prog.globalNamed "internal/strconv.uint64pow10" = some 1 := by kernel_rfl
theorem tPow : (Tryz.prog.globals[1]?).map (·.type) = some 206 := by kernel_rfl
theorem dPow : (Rows.laid_internal_strconv_uint64pow10 : DataW Unit) = Lib.tabData .u64 Lib.pow10Tab := rfl
theorem of_laid {W : World} (h : laidMetH Tryz.prog laid W) : LaidW W := by
 rw [MakeChecks.laidMetH_plain _ _ _ (by kernel_rfl)] at h
 obtain ⟨_, ⟨_, _, _, _, _, _, _, _, _, _, ⟨_, _, _, _, _, _, _, _, _, _, ⟨g', t', cs, fuel, p, q, hg', ht', hvar, hd, _⟩, _⟩, _⟩, _⟩ := h
 obtain rfl := Option.some.inj (gPow.symm.trans hg')
 obtain rfl := Option.some.inj (tPow.symm.trans ht')
 unfold LaidW Lib.TabIs
 rw [hvar, ← Lib.cells_of_tab Tryz.underlying206 Tryz.underlying182 (by kernel_rfl) (by kernel_rfl) (dPow ▸ hd)]
end Go.Proofs.YthnfajboebaajaaGreatDoor.Rb
