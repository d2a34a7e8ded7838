import Derived.Test.YtihbebbabjklkaaGreatDoorAG1
import Derived.Test.YtihbebbabjklkaaGreatDoorAD
import Derived.Test.YtihbebbabjklkaaGreatDoorAG8
import Derived.Test.YtihbebbabjklkaaGreatDoorAG7
set_option maxHeartbeats 8000000
set_option maxRecDepth 100000
set_option linter.unusedVariables false
namespace Go.Proofs.YtihbebbabjklkaaGreatDoor.PA
set_option linter.unusedVariables false
open Go.RowKit Go.Proofs.WWords Go.Proofs.WLast Go.Proofs.WMore
attribute [local go_sem] max2_int min2_int max_two min_two max_three min_three max_four min_four
set_option linter.unusedSimpArgs false
theorem rEFloor.calls (k : Nat) (a0 : ByteArray) (a1 : ByteArray) (r : ByteArray) (w : World) (h : rEFloor.f k a0 a1 = some r) :
  Calls Tryz.prog 127 #[.string a0, .string a1] w fun e w' => e = .returned (.string r) ∧ Below w.heap.size w w' := by
 have HB := Z0.mk (Below.refl w.heap.size w)
 have H := h
 clear h
 unfold rEFloor.f at H
 have HC3 := Z0.mk H
 clear H
 go_enter Tryz.func127, Tryz.ntmps127
 go_upto_region 1 with (fail)
 go_cut [13] (fun v13 wc => ∃ (kq : Nat) (x13_2 : Bool), v13 = .bool x13_2 ∧ Z0 (rEFloor.j0 kq a0 a1 x13_2 = some r) ∧ Z0 (kq ≤ k) ∧ Z0 (Below w.heap.size w wc))
 case first =>
  have H := HC3.out
  clear HC3
  obtain ⟨t605, A4, H⟩ := bnd H
  by_cases c5 : t605 = true
  ·subst c5
   have H1 : ((rEshort.f a1 17).bind fun t606 => (rEFloor.j0 k a0 a1 t606)) = some r := by rw [if_pos rfl] at H; exact H
   clear H
   have H := H1
   clear H1
   obtain ⟨t606, A6, H⟩ := bnd H
   have H' := Z0.mk H
   clear H
   go_wp2_with (first | ((with_reducible refine gc_ 169 rfl ?_); refine goD (some 9) Tryz.func169 #[.string a0, .int .i64 17] (rEshort.calls a0 17 true _ A4.out) ?_; intro nd) | (go_at_call 169; (with_reducible refine (rEshort.calls a1 17 t606 _ A6.out).mono ?_); rintro e w' ⟨rfl, ⟨nd, rfl⟩⟩))
   go_meet
   case rel => exact ⟨_, (t606), fs, H', ⟨by first | omega | exact Nat.le_refl _⟩, ⟨bqs⟩⟩
  replace c5 := Bool.eq_false_iff.mpr c5
  subst c5
  have H1 : (rEFloor.j0 k a0 a1 false) = some r := by rw [if_neg (show ¬ (false = true) by decide)] at H; exact H
  clear H
  have H := H1
  clear H1
  have H' := Z0.mk H
  clear H
  go_wp2_with (first | ((with_reducible refine gc_ 169 rfl ?_); refine goD (some 9) Tryz.func169 #[.string a0, .int .i64 17] (rEshort.calls a0 17 false _ A4.out) ?_; intro nd))
  go_meet
  case rel => exact ⟨_, (false), fs, H', ⟨by first | omega | exact Nat.le_refl _⟩, ⟨bqs⟩⟩
 case rest =>
  clear HC3
  try clear c1
  try clear p2
  try clear c5
  obtain ⟨kq, x13_2, rfl, HA, HJ2, HB⟩ := hcut
  cases kq with
  | zero => exact absurd HA.out (by simp [rEFloor.j0])
  | succ kj2 =>
   have H := HA.out
   clear HA
   simp only [rEFloor.j0] at H
   by_cases c7 : x13_2 = true
   ·subst c7
    have H1 : ((rEnumber.f kj2 a0).bind fun t607 => ((rEnumber.f kj2 a1).bind fun t608 => ((rEfloor.f t607 t608).bind fun t609 => ((rEWhole.f kj2 t609).bind fun t610 => (some t610))))) = some r := by rw [if_pos rfl] at H; exact H
    clear H
    have H := H1
    clear H1
    obtain ⟨t607, A8, H⟩ := bnd H
    obtain ⟨t608, A9, H⟩ := bnd H
    obtain ⟨t609, A10, H⟩ := bnd H
    obtain ⟨t610, A11, H⟩ := bnd H
    obtain rfl := Option.some.inj H
    go_wp2_with (first | ((with_reducible refine gc_ 172 rfl ?_); refine goD (some 15) Tryz.func172 #[.string a0] (rEnumber.calls kj2 a0 t607 _ A8.out) ?_; intro nd) | ((with_reducible refine gc_ 172 rfl ?_); refine goD (some 17) Tryz.func172 #[.string a1] (rEnumber.calls kj2 a1 t608 _ A9.out) ?_; intro nd) | ((with_reducible refine gc_ 171 rfl ?_); refine goD (some 18) Tryz.func171 #[.int .i64 t607, .int .i64 t608] (rEfloor.calls t607 t608 t609 _ A10.out) ?_; intro nd) | ((with_reducible refine gc_ 170 rfl ?_); refine goB (some 19) Tryz.func170 #[.int .i64 t609] bq (rEWhole.calls kj2 t609 t610 _ A11.out) ?_; clear HB; intro w12 HB))
    go_ret
    exact finE
   replace c7 := Bool.eq_false_iff.mpr c7
   subst c7
   have H1 : ((rEdigits.f kj2 a0).bind fun t611 => ((rEcut.f kj2 t611).bind fun t614 => ((rEdigits.f kj2 a1).bind fun t617 => ((rEcut.f kj2 t617).bind fun t620 => ((rEsplit.f kj2 t614 t620).bind fun bt623 => ((rENegative.f a0).bind fun t629 => ((rENegative.f a1).bind fun t630 => ((rEmade.f kj2 bt623.1 (t629 != t630)).bind fun t631 => ((rENegative.f a0).bind fun t632 => ((rENegative.f a1).bind fun t633 => (if (t632 != t633) = true then (if (bt623.2.length : Int) > 0 then ((rEDiff.f kj2 t631 (⟨#[49]⟩ : ByteArray)).bind fun t634 => (some t634)) else (some t631)) else (some t631)))))))))))) = some r := by rw [if_neg (show ¬ (false = true) by decide)] at H; exact H
   clear H
   have H := H1
   clear H1
   obtain ⟨t611, A13, H⟩ := bnd H
   obtain ⟨t614, A14, H⟩ := bnd H
   obtain ⟨t617, A15, H⟩ := bnd H
   obtain ⟨t620, A16, H⟩ := bnd H
   obtain ⟨⟨t623, t626⟩, A17, H⟩ := bnd H
   try dsimp only at H
   obtain ⟨t629, A18, H⟩ := bnd H
   obtain ⟨t630, A19, H⟩ := bnd H
   obtain ⟨t631, A20, H⟩ := bnd H
   obtain ⟨t632, A21, H⟩ := bnd H
   obtain ⟨t633, A22, H⟩ := bnd H
   rcases jn H with ⟨c23, H⟩ | ⟨c23, H⟩
   ·have c23b0 : (t632 != t633) = true := c23
    (try (have c23b1 : decide (t632 = t633) = false := by simpa using c23))
    (try (have c23b2 : (t632 == t633) = false := by simpa using c23))
    (try (have c23b3 : ¬ (t632 = t633) := by simpa using c23))
    clear c23
    rcases jg H with ⟨c24, c24b0, H⟩ | ⟨c24, c24b0, H⟩
    ·have c24b1 : decide (0 < t626.length) = true := decide_eq_true (by omega)
     clear c24
     obtain ⟨t634, A25, H⟩ := bnd H
     obtain rfl := Option.some.inj H
     go_wp2_with (first | ((with_reducible refine gc_ 166 rfl ?_); refine gL 22 Tryz.func166 (rEdigits.calls _ _ _ _ A13.out) ?_; rintro _ w26 ⟨v612, rfl, ho0, hb⟩; refine ⟨_, rfl, ?_⟩; have HO613 := fN ho0; replace HB := fB HB hb; clear hb ho0; obtain ⟨Ao27, co27, eo27⟩ := Kd.R_slice HO613.out; subst eo27) | ((with_reducible refine gc_ 165 rfl ?_); refine gL 23 Tryz.func165 (rEcut.calls kj2 (fun k_ => some k_ = (.slice Ao27 t611.length co27 : Value).ownBlock) _ _ t611 t614 _ ?side1 A14.out) ?_; (case side1 => exact Kd.R_V (Kd.R_tight rfl (HO613.out))); rintro _ w28 ⟨v615, rfl, ho0, hb⟩; refine ⟨_, rfl, ?_⟩; have HO616 := Z0.mk (Kd.V_lower (Kd.V_mono (ok' := fun k_ => True) ho0 (fun k_ hk_ => trivial)) (below_size bqs)); replace HO613 := fR HO613 hb; replace HB := fB HB hb; clear hb ho0) | ((with_reducible refine gc_ 166 rfl ?_); refine gL 25 Tryz.func166 (rEdigits.calls _ _ _ _ A15.out) ?_; rintro _ w29 ⟨v618, rfl, ho0, hb⟩; refine ⟨_, rfl, ?_⟩; have HO619 := Z0.mk (Kd.R_lower (Kd.R_new' ho0 (Kd.R_lt (rq HO613))) (below_size bqs)); replace HO613 := Z0.mk (Kd.R_elder' (rq HO613) (Kd.R_base ho0) hb); replace HO616 := Z0.mk (Kd.V_elder' (vq HO616) (Kd.R_base ho0) hb); replace HB := fB HB hb; clear hb ho0; obtain ⟨Ao30, co30, eo30⟩ := Kd.R_slice HO619.out; subst eo30) | ((with_reducible refine gc_ 165 rfl ?_); refine gL 26 Tryz.func165 (rEcut.calls kj2 (fun k_ => some k_ = (.slice Ao30 t617.length co30 : Value).ownBlock) _ _ t617 t620 _ ?side1 A16.out) ?_; (case side1 => exact Kd.R_V (Kd.R_tight rfl (HO619.out))); rintro _ w31 ⟨v621, rfl, ho0, hb⟩; refine ⟨_, rfl, ?_⟩; have HO622 := Z0.mk (Kd.V_lower (Kd.V_mono (ok' := fun k_ => some k_ ≠ (.slice Ao27 t611.length co27 : Value).ownBlock) ho0 (fun k_ hk_ => Or.elim hk_ (fun hs_ => ((HO619.out).1 k_ hs_.symm).2) (fun hn_ => (Kd.fresh' (Kd.R_lt (rq HO613)) k_ hn_)))) (below_size bqs)); replace HO613 := fR HO613 hb; replace HO616 := fV HO616 hb; replace HO619 := fR HO619 hb; replace HB := fB HB hb; clear hb ho0; obtain ⟨Ao32, co32, eo32⟩ := Kd.V_slice HO616.out; subst eo32; obtain ⟨Ao33, co33, eo33⟩ := Kd.V_slice HO622.out; subst eo33) | ((with_reducible refine gc_ 173 rfl ?_); refine gL 27 Tryz.func173 (rEsplit.calls kj2 _ _ t614 _ _ t620 t623 t626 _ ?side1 ?side2 ?side3 ?side4 A17.out) ?_; (case side1 => exact cq (Kd.V_reads' HO616.out).2.2); (case side2 => exact (Kd.V_reads' HO616.out).2.1); (case side3 => exact cq (Kd.V_reads' HO622.out).2.2); (case side4 => exact (Kd.V_reads' HO622.out).2.1); rintro _ w34 ⟨v624, v627, rfl, ho0, ho1, hb⟩; refine ⟨_, rfl, ?_⟩; have HO625 := Z0.mk (Kd.V_lower (Kd.V_mono (ok' := fun k_ => some k_ ≠ (.slice Ao27 t611.length co27 : Value).ownBlock ∧ some k_ ≠ (.slice Ao30 t617.length co30 : Value).ownBlock) ho0 (fun k_ hk_ => ⟨(Kd.fresh' (Kd.R_lt (rq HO613)) k_ hk_), (Kd.fresh' (Kd.R_lt (rq HO619)) k_ hk_)⟩)) (below_size bqs)); have HO628 := Z0.mk (Kd.V_lower (Kd.V_mono (ok' := fun k_ => some k_ ≠ (.slice Ao27 t611.length co27 : Value).ownBlock ∧ some k_ ≠ (.slice Ao30 t617.length co30 : Value).ownBlock) ho1 (fun k_ hk_ => ⟨(Kd.fresh' (Kd.R_lt (rq HO613)) k_ hk_), (Kd.fresh' (Kd.R_lt (rq HO619)) k_ hk_)⟩)) (below_size bqs)); replace HO613 := fR HO613 hb; replace HO616 := fV HO616 hb; replace HO619 := fR HO619 hb; replace HO622 := fV HO622 hb; replace HB := fB HB hb; clear hb ho0 ho1) | ((with_reducible refine gc_ 130 rfl ?_); refine goD (some 32) Tryz.func130 #[.string a0] (rENegative.calls a0 t629 _ A18.out) ?_; intro nd) | ((with_reducible refine gc_ 130 rfl ?_); refine gL 34 Tryz.func130 (rENegative.calls _ _ _ A19.out) ?_; rintro _ w' ⟨rfl, ⟨nd, rfl⟩⟩; refine ⟨_, rfl, ?_⟩; obtain ⟨Ao35, co35, eo35⟩ := Kd.V_slice HO625.out; subst eo35) | ((with_reducible refine gc_ 174 rfl ?_); refine gL 36 Tryz.func174 (rEmade.calls kj2 _ _ t623 (t629 != t630) t631 _ ?side1 ?side2 A20.out) ?_; (case side1 => exact cq (Kd.V_reads' HO625.out).2.2); (case side2 => exact (Kd.V_reads' HO625.out).2.1); rintro _ w36 ⟨rfl, hb⟩; refine ⟨_, rfl, ?_⟩; replace HO613 := fR HO613 hb; replace HO616 := fV HO616 hb; replace HO619 := fR HO619 hb; replace HO622 := fV HO622 hb; replace HO625 := fV HO625 hb; replace HO628 := fV HO628 hb; replace HB := fB HB hb; clear hb) | ((with_reducible refine gc_ 130 rfl ?_); refine goD (some 38) Tryz.func130 #[.string a0] (rENegative.calls a0 t632 _ A21.out) ?_; intro nd) | ((with_reducible refine gc_ 130 rfl ?_); refine gL 40 Tryz.func130 (rENegative.calls _ _ _ A22.out) ?_; rintro _ w' ⟨rfl, ⟨nd, rfl⟩⟩; refine ⟨_, rfl, ?_⟩; obtain ⟨Ao37, co37, eo37⟩ := Kd.V_slice HO628.out; subst eo37) | ((with_reducible refine gc_ 175 rfl ?_); refine gL 48 Tryz.func175 (rEDiff.calls _ _ _ _ _ A25.out) ?_; rintro _ w38 ⟨rfl, hb⟩; refine ⟨_, rfl, ?_⟩; replace HO613 := fR HO613 hb; replace HO616 := fV HO616 hb; replace HO619 := fR HO619 hb; replace HO622 := fV HO622 hb; replace HO625 := fV HO625 hb; replace HO628 := fV HO628 hb; replace HB := fB HB hb; clear hb))
     go_ret
     exact finE
    have c24b1 : decide (0 < t626.length) = false := decide_eq_false (by omega)
    clear c24
    obtain rfl := Option.some.inj H
    go_wp2_with (first | ((with_reducible refine gc_ 166 rfl ?_); refine gL 22 Tryz.func166 (rEdigits.calls _ _ _ _ A13.out) ?_; rintro _ w39 ⟨v612, rfl, ho0, hb⟩; refine ⟨_, rfl, ?_⟩; have HO613 := fN ho0; replace HB := fB HB hb; clear hb ho0; obtain ⟨Ao40, co40, eo40⟩ := Kd.R_slice HO613.out; subst eo40) | ((with_reducible refine gc_ 165 rfl ?_); refine gL 23 Tryz.func165 (rEcut.calls kj2 (fun k_ => some k_ = (.slice Ao40 t611.length co40 : Value).ownBlock) _ _ t611 t614 _ ?side1 A14.out) ?_; (case side1 => exact Kd.R_V (Kd.R_tight rfl (HO613.out))); rintro _ w41 ⟨v615, rfl, ho0, hb⟩; refine ⟨_, rfl, ?_⟩; have HO616 := Z0.mk (Kd.V_lower (Kd.V_mono (ok' := fun k_ => True) ho0 (fun k_ hk_ => trivial)) (below_size bqs)); replace HO613 := fR HO613 hb; replace HB := fB HB hb; clear hb ho0) | ((with_reducible refine gc_ 166 rfl ?_); refine gL 25 Tryz.func166 (rEdigits.calls _ _ _ _ A15.out) ?_; rintro _ w42 ⟨v618, rfl, ho0, hb⟩; refine ⟨_, rfl, ?_⟩; have HO619 := Z0.mk (Kd.R_lower (Kd.R_new' ho0 (Kd.R_lt (rq HO613))) (below_size bqs)); replace HO613 := Z0.mk (Kd.R_elder' (rq HO613) (Kd.R_base ho0) hb); replace HO616 := Z0.mk (Kd.V_elder' (vq HO616) (Kd.R_base ho0) hb); replace HB := fB HB hb; clear hb ho0; obtain ⟨Ao43, co43, eo43⟩ := Kd.R_slice HO619.out; subst eo43) | ((with_reducible refine gc_ 165 rfl ?_); refine gL 26 Tryz.func165 (rEcut.calls kj2 (fun k_ => some k_ = (.slice Ao43 t617.length co43 : Value).ownBlock) _ _ t617 t620 _ ?side1 A16.out) ?_; (case side1 => exact Kd.R_V (Kd.R_tight rfl (HO619.out))); rintro _ w44 ⟨v621, rfl, ho0, hb⟩; refine ⟨_, rfl, ?_⟩; have HO622 := Z0.mk (Kd.V_lower (Kd.V_mono (ok' := fun k_ => some k_ ≠ (.slice Ao40 t611.length co40 : Value).ownBlock) ho0 (fun k_ hk_ => Or.elim hk_ (fun hs_ => ((HO619.out).1 k_ hs_.symm).2) (fun hn_ => (Kd.fresh' (Kd.R_lt (rq HO613)) k_ hn_)))) (below_size bqs)); replace HO613 := fR HO613 hb; replace HO616 := fV HO616 hb; replace HO619 := fR HO619 hb; replace HB := fB HB hb; clear hb ho0; obtain ⟨Ao45, co45, eo45⟩ := Kd.V_slice HO616.out; subst eo45; obtain ⟨Ao46, co46, eo46⟩ := Kd.V_slice HO622.out; subst eo46) | ((with_reducible refine gc_ 173 rfl ?_); refine gL 27 Tryz.func173 (rEsplit.calls kj2 _ _ t614 _ _ t620 t623 t626 _ ?side1 ?side2 ?side3 ?side4 A17.out) ?_; (case side1 => exact cq (Kd.V_reads' HO616.out).2.2); (case side2 => exact (Kd.V_reads' HO616.out).2.1); (case side3 => exact cq (Kd.V_reads' HO622.out).2.2); (case side4 => exact (Kd.V_reads' HO622.out).2.1); rintro _ w47 ⟨v624, v627, rfl, ho0, ho1, hb⟩; refine ⟨_, rfl, ?_⟩; have HO625 := Z0.mk (Kd.V_lower (Kd.V_mono (ok' := fun k_ => some k_ ≠ (.slice Ao40 t611.length co40 : Value).ownBlock ∧ some k_ ≠ (.slice Ao43 t617.length co43 : Value).ownBlock) ho0 (fun k_ hk_ => ⟨(Kd.fresh' (Kd.R_lt (rq HO613)) k_ hk_), (Kd.fresh' (Kd.R_lt (rq HO619)) k_ hk_)⟩)) (below_size bqs)); have HO628 := Z0.mk (Kd.V_lower (Kd.V_mono (ok' := fun k_ => some k_ ≠ (.slice Ao40 t611.length co40 : Value).ownBlock ∧ some k_ ≠ (.slice Ao43 t617.length co43 : Value).ownBlock) ho1 (fun k_ hk_ => ⟨(Kd.fresh' (Kd.R_lt (rq HO613)) k_ hk_), (Kd.fresh' (Kd.R_lt (rq HO619)) k_ hk_)⟩)) (below_size bqs)); replace HO613 := fR HO613 hb; replace HO616 := fV HO616 hb; replace HO619 := fR HO619 hb; replace HO622 := fV HO622 hb; replace HB := fB HB hb; clear hb ho0 ho1) | ((with_reducible refine gc_ 130 rfl ?_); refine goD (some 32) Tryz.func130 #[.string a0] (rENegative.calls a0 t629 _ A18.out) ?_; intro nd) | ((with_reducible refine gc_ 130 rfl ?_); refine gL 34 Tryz.func130 (rENegative.calls _ _ _ A19.out) ?_; rintro _ w' ⟨rfl, ⟨nd, rfl⟩⟩; refine ⟨_, rfl, ?_⟩; obtain ⟨Ao48, co48, eo48⟩ := Kd.V_slice HO625.out; subst eo48) | ((with_reducible refine gc_ 174 rfl ?_); refine gL 36 Tryz.func174 (rEmade.calls kj2 _ _ t623 (t629 != t630) t631 _ ?side1 ?side2 A20.out) ?_; (case side1 => exact cq (Kd.V_reads' HO625.out).2.2); (case side2 => exact (Kd.V_reads' HO625.out).2.1); rintro _ w49 ⟨rfl, hb⟩; refine ⟨_, rfl, ?_⟩; replace HO613 := fR HO613 hb; replace HO616 := fV HO616 hb; replace HO619 := fR HO619 hb; replace HO622 := fV HO622 hb; replace HO625 := fV HO625 hb; replace HO628 := fV HO628 hb; replace HB := fB HB hb; clear hb) | ((with_reducible refine gc_ 130 rfl ?_); refine goD (some 38) Tryz.func130 #[.string a0] (rENegative.calls a0 t632 _ A21.out) ?_; intro nd) | ((with_reducible refine gc_ 130 rfl ?_); refine gL 40 Tryz.func130 (rENegative.calls _ _ _ A22.out) ?_; rintro _ w' ⟨rfl, ⟨nd, rfl⟩⟩; refine ⟨_, rfl, ?_⟩; obtain ⟨Ao50, co50, eo50⟩ := Kd.V_slice HO628.out; subst eo50))
    go_ret
    exact finE
   have c23b0 : (t632 != t633) = false := by simpa using c23
   (try (have c23b1 : decide (t632 = t633) = true := by simpa using c23))
   (try (have c23b2 : (t632 == t633) = true := by simpa using c23))
   clear c23
   obtain rfl := Option.some.inj H
   go_wp2_with (first | ((with_reducible refine gc_ 166 rfl ?_); refine gL 22 Tryz.func166 (rEdigits.calls _ _ _ _ A13.out) ?_; rintro _ w51 ⟨v612, rfl, ho0, hb⟩; refine ⟨_, rfl, ?_⟩; have HO613 := fN ho0; replace HB := fB HB hb; clear hb ho0; obtain ⟨Ao52, co52, eo52⟩ := Kd.R_slice HO613.out; subst eo52) | ((with_reducible refine gc_ 165 rfl ?_); refine gL 23 Tryz.func165 (rEcut.calls kj2 (fun k_ => some k_ = (.slice Ao52 t611.length co52 : Value).ownBlock) _ _ t611 t614 _ ?side1 A14.out) ?_; (case side1 => exact Kd.R_V (Kd.R_tight rfl (HO613.out))); rintro _ w53 ⟨v615, rfl, ho0, hb⟩; refine ⟨_, rfl, ?_⟩; have HO616 := Z0.mk (Kd.V_lower (Kd.V_mono (ok' := fun k_ => True) ho0 (fun k_ hk_ => trivial)) (below_size bqs)); replace HO613 := fR HO613 hb; replace HB := fB HB hb; clear hb ho0) | ((with_reducible refine gc_ 166 rfl ?_); refine gL 25 Tryz.func166 (rEdigits.calls _ _ _ _ A15.out) ?_; rintro _ w54 ⟨v618, rfl, ho0, hb⟩; refine ⟨_, rfl, ?_⟩; have HO619 := Z0.mk (Kd.R_lower (Kd.R_new' ho0 (Kd.R_lt (rq HO613))) (below_size bqs)); replace HO613 := Z0.mk (Kd.R_elder' (rq HO613) (Kd.R_base ho0) hb); replace HO616 := Z0.mk (Kd.V_elder' (vq HO616) (Kd.R_base ho0) hb); replace HB := fB HB hb; clear hb ho0; obtain ⟨Ao55, co55, eo55⟩ := Kd.R_slice HO619.out; subst eo55) | ((with_reducible refine gc_ 165 rfl ?_); refine gL 26 Tryz.func165 (rEcut.calls kj2 (fun k_ => some k_ = (.slice Ao55 t617.length co55 : Value).ownBlock) _ _ t617 t620 _ ?side1 A16.out) ?_; (case side1 => exact Kd.R_V (Kd.R_tight rfl (HO619.out))); rintro _ w56 ⟨v621, rfl, ho0, hb⟩; refine ⟨_, rfl, ?_⟩; have HO622 := Z0.mk (Kd.V_lower (Kd.V_mono (ok' := fun k_ => some k_ ≠ (.slice Ao52 t611.length co52 : Value).ownBlock) ho0 (fun k_ hk_ => Or.elim hk_ (fun hs_ => ((HO619.out).1 k_ hs_.symm).2) (fun hn_ => (Kd.fresh' (Kd.R_lt (rq HO613)) k_ hn_)))) (below_size bqs)); replace HO613 := fR HO613 hb; replace HO616 := fV HO616 hb; replace HO619 := fR HO619 hb; replace HB := fB HB hb; clear hb ho0; obtain ⟨Ao57, co57, eo57⟩ := Kd.V_slice HO616.out; subst eo57; obtain ⟨Ao58, co58, eo58⟩ := Kd.V_slice HO622.out; subst eo58) | ((with_reducible refine gc_ 173 rfl ?_); refine gL 27 Tryz.func173 (rEsplit.calls kj2 _ _ t614 _ _ t620 t623 t626 _ ?side1 ?side2 ?side3 ?side4 A17.out) ?_; (case side1 => exact cq (Kd.V_reads' HO616.out).2.2); (case side2 => exact (Kd.V_reads' HO616.out).2.1); (case side3 => exact cq (Kd.V_reads' HO622.out).2.2); (case side4 => exact (Kd.V_reads' HO622.out).2.1); rintro _ w59 ⟨v624, v627, rfl, ho0, ho1, hb⟩; refine ⟨_, rfl, ?_⟩; have HO625 := Z0.mk (Kd.V_lower (Kd.V_mono (ok' := fun k_ => some k_ ≠ (.slice Ao52 t611.length co52 : Value).ownBlock ∧ some k_ ≠ (.slice Ao55 t617.length co55 : Value).ownBlock) ho0 (fun k_ hk_ => ⟨(Kd.fresh' (Kd.R_lt (rq HO613)) k_ hk_), (Kd.fresh' (Kd.R_lt (rq HO619)) k_ hk_)⟩)) (below_size bqs)); have HO628 := Z0.mk (Kd.V_lower (Kd.V_mono (ok' := fun k_ => some k_ ≠ (.slice Ao52 t611.length co52 : Value).ownBlock ∧ some k_ ≠ (.slice Ao55 t617.length co55 : Value).ownBlock) ho1 (fun k_ hk_ => ⟨(Kd.fresh' (Kd.R_lt (rq HO613)) k_ hk_), (Kd.fresh' (Kd.R_lt (rq HO619)) k_ hk_)⟩)) (below_size bqs)); replace HO613 := fR HO613 hb; replace HO616 := fV HO616 hb; replace HO619 := fR HO619 hb; replace HO622 := fV HO622 hb; replace HB := fB HB hb; clear hb ho0 ho1) | ((with_reducible refine gc_ 130 rfl ?_); refine goD (some 32) Tryz.func130 #[.string a0] (rENegative.calls a0 t629 _ A18.out) ?_; intro nd) | ((with_reducible refine gc_ 130 rfl ?_); refine gL 34 Tryz.func130 (rENegative.calls _ _ _ A19.out) ?_; rintro _ w' ⟨rfl, ⟨nd, rfl⟩⟩; refine ⟨_, rfl, ?_⟩; obtain ⟨Ao60, co60, eo60⟩ := Kd.V_slice HO625.out; subst eo60) | ((with_reducible refine gc_ 174 rfl ?_); refine gL 36 Tryz.func174 (rEmade.calls kj2 _ _ t623 (t629 != t630) t631 _ ?side1 ?side2 A20.out) ?_; (case side1 => exact cq (Kd.V_reads' HO625.out).2.2); (case side2 => exact (Kd.V_reads' HO625.out).2.1); rintro _ w61 ⟨rfl, hb⟩; refine ⟨_, rfl, ?_⟩; replace HO613 := fR HO613 hb; replace HO616 := fV HO616 hb; replace HO619 := fR HO619 hb; replace HO622 := fV HO622 hb; replace HO625 := fV HO625 hb; replace HO628 := fV HO628 hb; replace HB := fB HB hb; clear hb) | ((with_reducible refine gc_ 130 rfl ?_); refine goD (some 38) Tryz.func130 #[.string a0] (rENegative.calls a0 t632 _ A21.out) ?_; intro nd) | ((with_reducible refine gc_ 130 rfl ?_); refine goD (some 40) Tryz.func130 #[.string a1] (rENegative.calls a1 t633 _ A22.out) ?_; intro nd))
   go_ret
   exact finE
theorem rERest.calls (k : Nat) (a0 : ByteArray) (a1 : ByteArray) (r : ByteArray) (w : World) (h : rERest.f k a0 a1 = some r) :
  Calls Tryz.prog 168 #[.string a0, .string a1] w fun e w' => e = .returned (.string r) ∧ Below w.heap.size w w' := by
 have HB := Z0.mk (Below.refl w.heap.size w)
 have H := h
 clear h
 unfold rERest.f at H
 obtain ⟨t635, A3, H⟩ := bnd H
 obtain ⟨t636, A4, H⟩ := bnd H
 obtain ⟨t637, A5, H⟩ := bnd H
 obtain rfl := Option.some.inj H
 go_enter Tryz.func168, Tryz.ntmps168
 go_wp2_with (first | ((with_reducible refine gc_ 127 rfl ?_); refine goB (some 9) Tryz.func127 #[.string a0, .string a1] bq (rEFloor.calls k a0 a1 t635 _ A3.out) ?_; clear HB; intro w6 HB) | ((with_reducible refine gc_ 128 rfl ?_); refine goB (some 10) Tryz.func128 #[.string a1, .string t635] bq (rEProduct.calls k a1 t635 t636 _ A4.out) ?_; clear HB; intro w7 HB) | ((with_reducible refine gc_ 175 rfl ?_); refine goB (some 11) Tryz.func175 #[.string a0, .string t636] bq (rEDiff.calls k a0 t636 t637 _ A5.out) ?_; clear HB; intro w8 HB))
 go_ret
 exact finE
theorem rECommon.calls (k : Nat) (a0 : ByteArray) (a1 : ByteArray) (r : ByteArray) (w : World) (h : rECommon.f k a0 a1 = some r) :
  Calls Tryz.prog 125 #[.string a0, .string a1] w fun e w' => e = .returned (.string r) ∧ Below w.heap.size w w' := by
 have HB := Z0.mk (Below.refl w.heap.size w)
 have H := h
 clear h
 unfold rECommon.f at H
 obtain ⟨t638, A3, H⟩ := bnd H
 obtain ⟨t639, A4, H⟩ := bnd H
 have H' := Z0.mk H
 clear H
 go_enter Tryz.func125, Tryz.ntmps125
 go_wp2_with (first | ((with_reducible refine gc_ 167 rfl ?_); refine goD (some 8) Tryz.func167 #[.string a0] (rEMagnitude.calls a0 t638 _ A3.out) ?_; intro nd) | ((with_reducible refine gc_ 167 rfl ?_); refine goD (some 10) Tryz.func167 #[.string a1] (rEMagnitude.calls a1 t639 _ A4.out) ?_; intro nd))
 go_loopg [5, 6] k (fun kq v5 v6 w' => ∃ (x5_1 : ByteArray) (x6_1 : ByteArray), v5 = .string x5_1 ∧ v6 = .string x6_1 ∧ Z0 (rECommon.l0 kq x5_1 x6_1 = some r) ∧ Z0 (kq ≤ k) ∧ Z0 (Below w.heap.size w w'))
 case atStart => exact ⟨(t638), (t639), fs, fs, H', ⟨Nat.le_refl _⟩, ⟨bqs⟩⟩
 case round =>
  clear H'
  try clear c1
  try clear p2
  obtain ⟨x5_1, x6_1, rfl, rfl, HA, HK1, HB⟩ := hrel
  cases gk with
  | zero => exact absurd HA.out (by simp [rECommon.l0])
  | succ k1 =>
   have H := HA.out
   clear HA
   simp only [rECommon.l0] at H
   rcases je H with ⟨-, c5b0, c5b1, H⟩ | ⟨c5, c5b0, c5b1, H⟩
   ·obtain rfl := Option.some.inj H
    go_wp2
    go_ret
    exact finE
   obtain ⟨t640, A6, H⟩ := bnd H
   have H' := Z0.mk H
   clear H
   go_wp2_with (first | ((with_reducible refine gc_ 168 rfl ?_); refine goB (some 16) Tryz.func168 #[.string x5_1, .string x6_1] bq (rERest.calls k1 x5_1 x6_1 t640 _ A6.out) ?_; clear HB; intro w7 HB))
   go_roundg k1
   case measure => have := HK1.out; omega
   case rel => exact ⟨(x6_1), (t640), fs, fs, H', ⟨by have := HK1.out; omega⟩, ⟨bqs⟩⟩
theorem rESign.calls (a0 : ByteArray) (r : Int) (w : World) (h : rESign.f a0 = some r) :
  Calls Tryz.prog 163 #[.string a0] w fun e w' => e = .returned (.int .i64 r) ∧ Drawn0 w w' := by
 have H := h
 clear h
 unfold rESign.f at H
 rcases je H with ⟨-, c2b0, c2b1, H⟩ | ⟨c2, c2b0, c2b1, H⟩
 ·obtain rfl := Option.some.inj H
  go_enter Tryz.func163, Tryz.ntmps163
  go_wp2
  go_ret
  exact finD
 obtain ⟨t443, A3, H⟩ := bnd H
 by_cases c4 : t443 = true
 ·subst c4
  have H1 : (some (-1)) = some r := by rw [if_pos rfl] at H; exact H
  clear H
  have H := H1
  clear H1
  obtain rfl := Option.some.inj H
  go_enter Tryz.func163, Tryz.ntmps163
  go_wp2_with (first | ((with_reducible refine gc_ 130 rfl ?_); refine goD (some 6) Tryz.func130 #[.string a0] (rENegative.calls a0 true _ A3.out) ?_; intro nd))
  go_ret
  exact finD
 replace c4 := Bool.eq_false_iff.mpr c4
 subst c4
 have H1 : (some 1) = some r := by rw [if_neg (show ¬ (false = true) by decide)] at H; exact H
 clear H
 have H := H1
 clear H1
 obtain rfl := Option.some.inj H
 go_enter Tryz.func163, Tryz.ntmps163
 go_wp2_with (first | ((with_reducible refine gc_ 130 rfl ?_); refine goD (some 6) Tryz.func130 #[.string a0] (rENegative.calls a0 false _ A3.out) ?_; intro nd))
 go_ret
 exact finD
theorem rFFrac.calls (k : Nat) (a0 : ByteArray) (a1 : ByteArray) (r : ByteArray) (w : World) (h : rFFrac.f k a0 a1 = some r) :
  Calls Tryz.prog 129 #[.string a0, .string a1] w fun e w' => e = .returned (.string r) ∧ Below w.heap.size w w' := by
 have HB := Z0.mk (Below.refl w.heap.size w)
 have H := h
 clear h
 unfold rFFrac.f at H
 obtain ⟨t702, A3, H⟩ := bnd H
 have HC4 := Z0.mk H
 clear H
 go_enter Tryz.func129, Tryz.ntmps129
 go_upto_if 8 with (first | ((with_reducible refine gc_ 163 rfl ?_); refine goD (some 7) Tryz.func163 #[.string a1] (rESign.calls a1 t702 _ A3.out) ?_; intro nd))
 (try simp only [Act.put, List.setIfInBounds_toArray, List.set_cons_zero, List.set_cons_succ])
 go_cut [0, 1] (fun v0 v1 wc => ∃ (kq : Nat) (x0_3 : ByteArray) (x1_3 : ByteArray), v0 = .string x0_3 ∧ v1 = .string x1_3 ∧ Z0 (rFFrac.j0 kq x0_3 x1_3 = some r) ∧ Z0 (kq ≤ k) ∧ Z0 (Below w.heap.size w wc))
 case first =>
  have H := HC4.out
  clear HC4
  rcases jd H with ⟨-, c5b0, H⟩ | ⟨-, c5b0, H⟩
  ·(first | rw [c5b0] | (simp only [i64_w, i32_w]; rw [c5b0]) | skip)
   obtain ⟨t703, A6, H⟩ := bnd H
   obtain ⟨t704, A7, H⟩ := bnd H
   have H' := Z0.mk H
   clear H
   go_wp2_with (first | ((with_reducible refine gc_ 177 rfl ?_); refine goD (some 10) Tryz.func177 #[.string a0] (rENegated.calls a0 t703 _ A6.out) ?_; intro nd) | ((with_reducible refine gc_ 177 rfl ?_); refine goD (some 12) Tryz.func177 #[.string a1] (rENegated.calls a1 t704 _ A7.out) ?_; intro nd))
   go_meet
   case rel => exact ⟨_, (t703), (t704), fs, fs, H', ⟨by first | omega | exact Nat.le_refl _⟩, ⟨bqs⟩⟩
  (first | rw [c5b0] | (simp only [i64_w, i32_w]; rw [c5b0]) | skip)
  have H' := Z0.mk H
  clear H
  go_wp2
  go_meet
  case rel => exact ⟨_, (a0), (a1), fs, fs, H', ⟨by first | omega | exact Nat.le_refl _⟩, ⟨bqs⟩⟩
 case rest =>
  clear HC4
  try clear c1
  try clear p2
  try clear c5
  try clear c5b0
  obtain ⟨kq, x0_3, x1_3, rfl, rfl, HA, HJ3, HB⟩ := hcut
  cases kq with
  | zero => exact absurd HA.out (by simp [rFFrac.j0])
  | succ kj3 =>
   have H := HA.out
   clear HA
   simp only [rFFrac.j0] at H
   obtain ⟨t705, A8, H⟩ := bnd H
   obtain ⟨t706, A9, H⟩ := bnd H
   obtain ⟨t707, A10, H⟩ := bnd H
   rcases je H with ⟨-, c11b0, c11b1, H⟩ | ⟨c11, c11b0, c11b1, H⟩
   ·obtain rfl := Option.some.inj H
    go_wp2_with (first | ((with_reducible refine gc_ 125 rfl ?_); refine goB (some 15) Tryz.func125 #[.string x0_3, .string x1_3] bq (rECommon.calls kj3 x0_3 x1_3 t705 _ A8.out) ?_; clear HB; intro w12 HB) | ((with_reducible refine gc_ 127 rfl ?_); refine goB (some 18) Tryz.func127 #[.string x0_3, .string t705] bq (rEFloor.calls kj3 x0_3 t705 t706 _ A9.out) ?_; clear HB; intro w13 HB) | ((with_reducible refine gc_ 127 rfl ?_); refine goB (some 21) Tryz.func127 #[.string x1_3, .string t705] bq (rEFloor.calls kj3 x1_3 t705 t707 _ A10.out) ?_; clear HB; intro w14 HB))
    go_ret
    exact finE
   obtain ⟨c15, c15b0, c15b1, H⟩ := gt H
   try have c15b2 : (9223372036854775807 < t706.size + 1) = False := eq_false (Nat.not_lt.2 c15)
   obtain ⟨c16, c16b0, c16b1, H⟩ := gt H
   try have c16b2 : (9223372036854775807 < (t706 ++ (⟨#[47]⟩ : ByteArray)).size + t707.size) = False := eq_false (Nat.not_lt.2 c16)
   obtain rfl := Option.some.inj H
   go_wp2_with (first | ((with_reducible refine gc_ 125 rfl ?_); refine goB (some 15) Tryz.func125 #[.string x0_3, .string x1_3] bq (rECommon.calls kj3 x0_3 x1_3 t705 _ A8.out) ?_; clear HB; intro w17 HB) | ((with_reducible refine gc_ 127 rfl ?_); refine goB (some 18) Tryz.func127 #[.string x0_3, .string t705] bq (rEFloor.calls kj3 x0_3 t705 t706 _ A9.out) ?_; clear HB; intro w18 HB) | ((with_reducible refine gc_ 127 rfl ?_); refine goB (some 21) Tryz.func127 #[.string x1_3, .string t705] bq (rEFloor.calls kj3 x1_3 t705 t707 _ A10.out) ?_; clear HB; intro w19 HB))
   go_ret
   exact finE
theorem rFslash.calls (k : Nat) (a0 : ByteArray) (r : Int) (w : World) (h : rFslash.f k a0 = some r) :
  Calls Tryz.prog 82 #[.string a0] w fun e w' => e = .returned (.int .i64 r) ∧ Drawn0 w w' := by
 have H := h
 clear h
 unfold rFslash.f at H
 have H' := Z0.mk H
 clear H
 go_enter Tryz.func82, Tryz.ntmps82
 go_wp2
 go_loopg [3] k (fun kq v3 w' => ∃ (x3_1 : Int), v3 = .int .i64 x3_1 ∧ Z0 (rFslash.l0 kq a0 x3_1 = some r) ∧ Z0 (kq ≤ k) ∧ Drawn0 w w')
 case atStart => exact ⟨(0), fs, H', ⟨Nat.le_refl _⟩, by repeat (first | exact Drawn0.refl _ | apply Drawn0.step)⟩
 case round =>
  clear H'
  try clear c1
  obtain ⟨x3_1, rfl, HA, HK1, ⟨m1, rfl⟩⟩ := hrel
  cases gk with
  | zero => exact absurd HA.out (by simp [rFslash.l0])
  | succ k1 =>
   have H := HA.out
   clear HA
   simp only [rFslash.l0] at H
   rcases jd H with ⟨-, c2b0, H⟩ | ⟨-, c2b0, H⟩
   ·obtain ⟨-, c3b0, H⟩ := gd H
    rcases je H with ⟨-, c5b0, c5b1, H⟩ | ⟨c5, c5b0, c5b1, H⟩
    ·obtain rfl := Option.some.inj H
     obtain ⟨hx4, p4, q4⟩ := btA a0 x3_1
     go_wp2
     go_ret
     exact finD
    have H' := Z0.mk H
    clear H
    obtain ⟨hx4, p4, q4⟩ := btA a0 x3_1
    go_wp2
    go_roundg k1
    case measure => have := HK1.out; omega
    case rel => exact ⟨(wrap64 (x3_1 + 1)), fs, H', ⟨by have := HK1.out; omega⟩, by repeat (first | exact Drawn0.refl _ | apply Drawn0.step)⟩
   obtain rfl := Option.some.inj H
   go_wp2
   go_ret
   exact finD
theorem rFTop.calls (k : Nat) (a0 : ByteArray) (r : ByteArray) (w : World) (h : rFTop.f k a0 = some r) :
  Calls Tryz.prog 123 #[.string a0] w fun e w' => e = .returned (.string r) ∧ Drawn0 w w' := by
 have H := h
 clear h
 unfold rFTop.f at H
 obtain ⟨t441, A2, H⟩ := bnd H
 rcases jh H with ⟨-, c3b0, H⟩ | ⟨-, c3b0, H⟩
 ·obtain ⟨-, c4b0, c4b1, H⟩ := gt H
  obtain ⟨-, c5b0, c5b1, H⟩ := gt H
  obtain rfl := Option.some.inj H
  go_enter Tryz.func123, Tryz.ntmps123
  go_wp2_with (first | ((with_reducible refine gc_ 82 rfl ?_); refine goD (some 5) Tryz.func82 #[.string a0] (rFslash.calls k a0 t441 _ A2.out) ?_; intro nd))
  go_ret
  exact finD
 obtain rfl := Option.some.inj H
 go_enter Tryz.func123, Tryz.ntmps123
 go_wp2_with (first | ((with_reducible refine gc_ 82 rfl ?_); refine goD (some 5) Tryz.func82 #[.string a0] (rFslash.calls k a0 t441 _ A2.out) ?_; intro nd))
 go_ret
 exact finD
theorem rFBottom.calls (k : Nat) (a0 : ByteArray) (r : ByteArray) (w : World) (h : rFBottom.f k a0 = some r) :
  Calls Tryz.prog 25 #[.string a0] w fun e w' => e = .returned (.string r) ∧ Drawn0 w w' := by
 have H := h
 clear h
 unfold rFBottom.f at H
 obtain ⟨t442, A2, H⟩ := bnd H
 rcases jh H with ⟨-, c3b0, H⟩ | ⟨-, c3b0, H⟩
 ·obtain ⟨ji4, hji4⟩ : ∃ j_ : Int, (wrap64 (t442 + 1)) = j_ := ⟨_, rfl⟩
  replace H : (if 0 ≤ (ji4) then (if (ji4) ≤ (a0.size : Int) then (some (a0.extract ((ji4) : Int).toNat a0.size)) else (none)) else (none)) = some r := by first | (rw [hji4] at H; exact H) | (simp only [hji4] at H ⊢; exact H)
  (try rw [hji4] at A2)
  have hji4w : (IntKind.i64.wrap (t442 + 1)) = ji4 := (i64_w _).trans hji4
  obtain ⟨-, c5b0, c5b1, H⟩ := gt H
  obtain ⟨-, c6b0, c6b1, H⟩ := gt H
  obtain rfl := Option.some.inj H
  go_enter Tryz.func25, Tryz.ntmps25
  go_wp2_with (first | ((with_reducible refine gc_ 82 rfl ?_); refine goD (some 5) Tryz.func82 #[.string a0] (rFslash.calls k a0 t442 _ A2.out) ?_; intro nd))
  go_ret
  exact ⟨by first | rfl | (simp; done) | (simp only [← hji4] <;> (first | rfl | simp)) | (simp [*]; done), by repeat (first | exact Drawn0.refl _ | apply Drawn0.step)⟩
 obtain rfl := Option.some.inj H
 go_enter Tryz.func25, Tryz.ntmps25
 go_wp2_with (first | ((with_reducible refine gc_ 82 rfl ?_); refine goD (some 5) Tryz.func82 #[.string a0] (rFslash.calls k a0 t442 _ A2.out) ?_; intro nd))
 go_ret
 exact finD
set_option linter.unusedVariables false
set_option linter.unusedSimpArgs false
open Go.RowKit Go.Shelf Go.Proofs.WWords Go.Proofs.WLast Go.Proofs.WMore
instance lw_slash : Ctr 82 (type_of% @rFslash.calls) := ⟨@rFslash.calls, _, Tryz.func82, by kernel_rfl, rfl⟩
instance lw_Top : Ctr 123 (type_of% @rFTop.calls) := ⟨@rFTop.calls, _, Tryz.func123, by kernel_rfl, rfl⟩
instance lw_Bottom : Ctr 25 (type_of% @rFBottom.calls) := ⟨@rFBottom.calls, _, Tryz.func25, by kernel_rfl, rfl⟩
instance lw_Sum : Ctr 151 (type_of% @rESum.calls) := ⟨@rESum.calls, _, Tryz.func151, by kernel_rfl, rfl⟩
instance lw_Product : Ctr 128 (type_of% @rEProduct.calls) := ⟨@rEProduct.calls, _, Tryz.func128, by kernel_rfl, rfl⟩
theorem topQ {p : Rat} (hp : ndR p ≤ 100000) : Ev (fun k => rFTop.f k (Sv.rtxt p)) (Sv.txt p.num) := by
 have s1 := rtxt_size p
 exact (ref_Top _ (by omega)).eq (topS_rtxt p)
theorem botQ {p : Rat} (hp : ndR p ≤ 100000) : Ev (fun k => rFBottom.f k (Sv.rtxt p)) (Sv.txt p.den) := by
 have s1 := rtxt_size p
 exact (ref_Bottom _ (by omega)).eq (botS_rtxt p)
theorem eq_num {p : Rat} (h : p.den = 1) : p = (p.num : Rat) := Rat.ext (by rw [Rat.num_intCast]) (by rw [Rat.den_intCast, h])
theorem rtxt_of_int {p : Rat} (h : p.den = 1) : Sv.rtxt p = Sv.txt p.num := by
 rw [← rtxt_int, ← eq_num h]
set_option linter.unusedVariables false
open Go.RowKit Go.Proofs.WWords Go.Proofs.WLast Go.Proofs.WMore
attribute [local go_sem] max2_int min2_int max_two min_two max_three min_three max_four min_four
set_option linter.unusedSimpArgs false
theorem rFDigits.calls (k : Nat) (a0 : ByteArray) (r : Int) (w : World) (h : rFDigits.f k a0 = some r) :
  Calls Tryz.prog 84 #[.string a0] w fun e w' => e = .returned (.int .i64 r) ∧ Below w.heap.size w w' := by
 have HB := Z0.mk (Below.refl w.heap.size w)
 have H := h
 clear h
 unfold rFDigits.f at H
 obtain ⟨t649, A2, H⟩ := bnd H
 obtain ⟨t650, A3, H⟩ := bnd H
 obtain ⟨t651, A4, H⟩ := bnd H
 obtain ⟨t652, A5, H⟩ := bnd H
 obtain ⟨ji6, hji6⟩ : ∃ j_ : Int, (mx t650 t652) = j_ := ⟨_, rfl⟩
 replace H : (some ji6) = some r := by first | (rw [hji6] at H; exact H) | (simp only [hji6] at H ⊢; exact H)
 (try rw [hji6] at A2)
 (try rw [hji6] at A3)
 (try rw [hji6] at A4)
 (try rw [hji6] at A5)
 have hji6_ : (if t650 < t652 then t652 else t650) = ji6 := hji6
 obtain rfl := Option.some.inj H
 go_enter Tryz.func84, Tryz.ntmps84
 go_wp2_with (first | ((with_reducible refine gc_ 123 rfl ?_); refine goD (some 4) Tryz.func123 #[.string a0] (rFTop.calls k a0 t649 _ A2.out) ?_; intro nd) | ((with_reducible refine gc_ 90 rfl ?_); refine goD (some 5) Tryz.func90 #[.string t649] (rEDigits.calls t649 t650 _ A3.out) ?_; intro nd) | ((with_reducible refine gc_ 25 rfl ?_); refine goD (some 7) Tryz.func25 #[.string a0] (rFBottom.calls k a0 t651 _ A4.out) ?_; intro nd) | ((with_reducible refine gc_ 90 rfl ?_); refine goD (some 8) Tryz.func90 #[.string t651] (rEDigits.calls t651 t652 _ A5.out) ?_; intro nd))
 go_ret
 exact ⟨by first | rfl | (simp [errW_none, errW_some] <;> rfl) | (simp only [← hji6]; first | rfl | (simp [errW_none, errW_some] <;> rfl)) | (simp [*, errW_none, errW_some] <;> rfl), bqs⟩
theorem rEForm.calls (k : Nat) (a0 : ByteArray) (r : Bool) (w : World) (h : rEForm.f k a0 = some r) :
  Calls Tryz.prog 131 #[.string a0] w fun e w' => e = .returned (.bool r) ∧ Drawn0 w w' := by
 have H := h
 clear h
 unfold rEForm.f at H
 rcases je H with ⟨-, c2b0, c2b1, H⟩ | ⟨c2, c2b0, c2b1, H⟩
 ·obtain rfl := Option.some.inj H
  go_enter Tryz.func131, Tryz.ntmps131
  go_wp2
  go_ret
  exact finD
 have HC3 := Z0.mk H
 clear H
 go_enter Tryz.func131, Tryz.ntmps131
 go_upto_region 4 with (fail)
 go_cut [14] (fun v14 wc => ∃ (kq : Nat) (x14_2 : Bool), v14 = .bool x14_2 ∧ Z0 (rEForm.j0 kq a0 0 x14_2 = some r) ∧ Z0 (kq ≤ k) ∧ Drawn0 w wc)
 case first =>
  have H := HC3.out
  clear HC3
  rcases jg H with ⟨c4, c4b0, H⟩ | ⟨c4, c4b0, H⟩
  ·have c4b1 : decide (0 < a0.size) = true := decide_eq_true (by omega)
   clear c4
   (first | rw [c4b0] | (simp only [i64_w, i32_w]; rw [c4b0]) | skip)
   obtain ⟨c5, c5b0, H⟩ := gd H
   have c5b1 : decide (0 < a0.size) = true := decide_eq_true (by omega)
   clear c5
   have H' := Z0.mk H
   clear H
   have p6 : 0 ≤ (0 : Int) := (by omega)
   have q6 : 0 < a0.size := (by have : (0 : Int) < (a0.size : Int) := od; omega)
   have hx6 : ∀ h : 0 < a0.size, ((a0[0]'h).toNat : Int) = bt a0 0 := bt_at a0 0
   clear p6
   have qi6 : (0 < (a0.size : Int)) = True := eq_true od
   replace q6 := eq_true q6
   go_wp2
   go_meet
   case rel => exact ⟨_, (((bt a0 0) == 45)), fs, H', ⟨by first | omega | exact Nat.le_refl _⟩, by repeat (first | exact Drawn0.refl _ | apply Drawn0.step)⟩
  have c4b1 : decide (0 < a0.size) = false := decide_eq_false (by omega)
  clear c4
  (first | rw [c4b0] | (simp only [i64_w, i32_w]; rw [c4b0]) | skip)
  have H' := Z0.mk H
  clear H
  go_wp2
  go_meet
  case rel => exact ⟨_, (false), fs, H', ⟨by first | omega | exact Nat.le_refl _⟩, by repeat (first | exact Drawn0.refl _ | apply Drawn0.step)⟩
 case rest =>
  clear HC3
  try clear c2
  try clear c2b0
  try clear c2b1
  try clear p2
  try clear c4
  try clear c4b0
  try clear c4b1
  try clear c5
  try clear c5b0
  try clear c5b1
  try clear p6
  try clear q6
  try clear hx6
  try clear qi6
  try clear p6
  try clear q6
  obtain ⟨kq, x14_2, rfl, HA, HJ2, ⟨mc2, rfl⟩⟩ := hcut
  cases kq with
  | zero => exact absurd HA.out (by simp [rEForm.j0])
  | succ kj2 =>
   have H := HA.out
   clear HA
   simp only [rEForm.j0] at H
   have HC7 := Z0.mk H
   clear H
   go_upto_if 14 with (fail)
   go_cut [3] (fun v3 wc => ∃ (kq : Nat) (x3_6 : Int), v3 = .int .i64 x3_6 ∧ Z0 (rEForm.j1 kq a0 x3_6 = some r) ∧ Z0 (kq ≤ kj2) ∧ Drawn0 w wc)
   case first =>
    have H := HC7.out
    clear HC7
    by_cases c8 : x14_2 = true
    ·subst c8
     have H1 : (rEForm.j1 kj2 a0 1) = some r := by rw [if_pos rfl] at H; exact H
     clear H
     have H := H1
     clear H1
     have H' := Z0.mk H
     clear H
     go_wp2
     go_meet
     case rel => exact ⟨_, (1), fs, H', ⟨by have := HJ2.out; first | omega | exact Nat.le_refl _⟩, by repeat (first | exact Drawn0.refl _ | apply Drawn0.step)⟩
    replace c8 := Bool.eq_false_iff.mpr c8
    subst c8
    have H1 : (rEForm.j1 kj2 a0 0) = some r := by rw [if_neg (show ¬ (false = true) by decide)] at H; exact H
    clear H
    have H := H1
    clear H1
    have H' := Z0.mk H
    clear H
    go_wp2
    go_meet
    case rel => exact ⟨_, (0), fs, H', ⟨by have := HJ2.out; first | omega | exact Nat.le_refl _⟩, by repeat (first | exact Drawn0.refl _ | apply Drawn0.step)⟩
   case rest =>
    clear HC7
    try clear c2
    try clear c2b0
    try clear c2b1
    try clear p2
    try clear c4
    try clear c4b0
    try clear c4b1
    try clear c5
    try clear c5b0
    try clear c5b1
    try clear p6
    try clear q6
    try clear hx6
    try clear qi6
    try clear c8
    try clear p2
    try clear p6
    try clear q6
    obtain ⟨kq, x3_6, rfl, HA, HJ6, ⟨mc6, rfl⟩⟩ := hcut
    cases kq with
    | zero => exact absurd HA.out (by simp [rEForm.j1])
    | succ kj6 =>
     have H := HA.out
     clear HA
     simp only [rEForm.j1] at H
     have HC9 := Z0.mk H
     clear H
     go_upto_region 6 with (fail)
     go_cut [24] (fun v24 wc => ∃ (kq : Nat) (x24_8 : Bool), v24 = .bool x24_8 ∧ Z0 (rEForm.j2 kq a0 x3_6 x24_8 = some r) ∧ Z0 (kq ≤ kj6) ∧ Drawn0 w wc)
     case first =>
      have H := HC9.out
      clear HC9
      rcases je H with ⟨-, c10b0, c10b1, H⟩ | ⟨c10, c10b0, c10b1, H⟩
      ·(first | rw [c10b0] | (simp only [i64_w, i32_w]; rw [c10b0]) | skip)
       have H' := Z0.mk H
       clear H
       go_wp2
       go_meet
       case rel => exact ⟨_, (true), fs, H', ⟨by have := HJ2.out; have := HJ6.out; first | omega | exact Nat.le_refl _⟩, by repeat (first | exact Drawn0.refl _ | apply Drawn0.step)⟩
      (first | rw [c10b0] | (simp only [i64_w, i32_w]; rw [c10b0]) | skip)
      obtain ⟨-, c11b0, H⟩ := gd H
      obtain ⟨-, c12b0, H⟩ := gd H
      have H' := Z0.mk H
      clear H
      obtain ⟨hx13, p13, q13⟩ := btA a0 x3_6
      go_wp2
      go_meet
      case rel => exact ⟨_, (((bt a0 x3_6) == 48)), fs, H', ⟨by have := HJ2.out; have := HJ6.out; first | omega | exact Nat.le_refl _⟩, by repeat (first | exact Drawn0.refl _ | apply Drawn0.step)⟩
     case rest =>
      clear HC9
      try clear c1
      try clear p1
      try clear q1
      try clear hx1
      try clear c2
      try clear c2b0
      try clear c2b1
      try clear p2
      try clear c4
      try clear c4b0
      try clear c4b1
      try clear c5
      try clear c5b0
      try clear c5b1
      try clear c6
      try clear p6
      try clear q6
      try clear hx6
      try clear qi6
      try clear c8
      try clear c9
      try clear c10
      try clear c10b0
      try clear c10b1
      try clear c11
      try clear c11b0
      try clear c12
      try clear c12b0
      try clear p13
      try clear q13
      try clear hx13
      try clear p13
      try clear p2
      try clear p6
      try clear q13
      try clear q6
      obtain ⟨kq, x24_8, rfl, HA, HJ8, ⟨mc8, rfl⟩⟩ := hcut
      cases kq with
      | zero => exact absurd HA.out (by simp [rEForm.j2])
      | succ kj8 =>
       have H := HA.out
       clear HA
       simp only [rEForm.j2] at H
       by_cases c14 : x24_8 = true
       ·subst c14
        have H1 : (some false) = some r := by rw [if_pos rfl] at H; exact H
        clear H
        have H := H1
        clear H1
        obtain rfl := Option.some.inj H
        go_wp2
        go_ret
        exact finD
       replace c14 := Bool.eq_false_iff.mpr c14
       subst c14
       have H1 : (rEForm.l0 kj8 a0 x3_6) = some r := by rw [if_neg (show ¬ (false = true) by decide)] at H; exact H
       clear H
       have H := H1
       clear H1
       have H' := Z0.mk H
       clear H
       go_wp2
       go_loopg [4] kj8 (fun kq v4 w' => ∃ (x4_4 : Int), v4 = .int .i64 x4_4 ∧ Z0 (rEForm.l0 kq a0 x4_4 = some r) ∧ Z0 (kq ≤ kj8) ∧ Drawn0 w w')
       case atStart => exact ⟨(x3_6), fs, H', ⟨Nat.le_refl _⟩, by repeat (first | exact Drawn0.refl _ | apply Drawn0.step)⟩
       case round =>
        clear H'
        try clear c1
        try clear p1
        try clear q1
        try clear hx1
        try clear c2
        try clear c2b0
        try clear c2b1
        try clear p2
        try clear c4
        try clear c4b0
        try clear c4b1
        try clear c5
        try clear c5b0
        try clear c5b1
        try clear c6
        try clear p6
        try clear q6
        try clear hx6
        try clear qi6
        try clear c8
        try clear c9
        try clear c10
        try clear c10b0
        try clear c10b1
        try clear c11
        try clear c11b0
        try clear c12
        try clear c12b0
        try clear p13
        try clear q13
        try clear hx13
        try clear c14
        try clear p1
        try clear p13
        try clear p2
        try clear p6
        try clear q1
        try clear q13
        try clear q6
        obtain ⟨x4_4, rfl, HA, HK4, ⟨m4, rfl⟩⟩ := hrel
        cases gk with
        | zero => exact absurd HA.out (by simp [rEForm.l0])
        | succ k4 =>
         have H := HA.out
         clear HA
         simp only [rEForm.l0] at H
         rcases jd H with ⟨-, c15b0, H⟩ | ⟨-, c15b0, H⟩
         ·obtain ⟨-, c16b0, H⟩ := gd H
          rcases jd H with ⟨-, c18b0, H⟩ | ⟨-, c18b0, H⟩
          ·obtain rfl := Option.some.inj H
           obtain ⟨hx17, p17, q17⟩ := btA a0 x4_4
           go_wp2
           go_ret
           exact finD
          rcases jg H with ⟨-, c20b0, H⟩ | ⟨-, c20b0, H⟩
          ·obtain rfl := Option.some.inj H
           obtain ⟨hx17, p17, q17⟩ := btA a0 x4_4
           obtain ⟨hx19, p19, q19⟩ := btA a0 x4_4
           go_wp2
           go_ret
           exact finD
          have H' := Z0.mk H
          clear H
          obtain ⟨hx17, p17, q17⟩ := btA a0 x4_4
          obtain ⟨hx19, p19, q19⟩ := btA a0 x4_4
          go_wp2
          go_roundg k4
          case measure => have := HJ2.out; have := HJ6.out; have := HJ8.out; have := HK4.out; omega
          case rel => exact ⟨(wrap64 (x4_4 + 1)), fs, H', ⟨by have := HJ2.out; have := HJ6.out; have := HJ8.out; have := HK4.out; omega⟩, by repeat (first | exact Drawn0.refl _ | apply Drawn0.step)⟩
         obtain rfl := Option.some.inj H
         go_wp2
         go_ret
         exact finD
theorem rECheck.calls (k : Nat) (a0 : ByteArray) (r : Int) (w : World) (h : rECheck.f k a0 = some r) :
  Calls Tryz.prog 94 #[.string a0] w fun e w' => e = .returned (.int .i64 r) ∧ Drawn0 w w' := by
 have H := h
 clear h
 unfold rECheck.f at H
 obtain ⟨t439, A2, H⟩ := bnd H
 by_cases c3 : t439 = true
 ·subst c3
  have H1 : ((rEDigits.f a0).bind fun t440 => (if t440 > 4096 then (some 10) else (some 0))) = some r := by rw [if_pos rfl] at H; exact H
  clear H
  have H := H1
  clear H1
  obtain ⟨t440, A4, H⟩ := bnd H
  rcases jg H with ⟨-, c5b0, H⟩ | ⟨-, c5b0, H⟩
  ·obtain rfl := Option.some.inj H
   go_enter Tryz.func94, Tryz.ntmps94
   go_wp2_with (first | ((with_reducible refine gc_ 131 rfl ?_); refine goD (some 4) Tryz.func131 #[.string a0] (rEForm.calls k a0 true _ A2.out) ?_; intro nd) | ((with_reducible refine gc_ 90 rfl ?_); refine goD (some 7) Tryz.func90 #[.string a0] (rEDigits.calls a0 t440 _ A4.out) ?_; intro nd))
   go_ret
   exact finD
  obtain rfl := Option.some.inj H
  go_enter Tryz.func94, Tryz.ntmps94
  go_wp2_with (first | ((with_reducible refine gc_ 131 rfl ?_); refine goD (some 4) Tryz.func131 #[.string a0] (rEForm.calls k a0 true _ A2.out) ?_; intro nd) | ((with_reducible refine gc_ 90 rfl ?_); refine goD (some 7) Tryz.func90 #[.string a0] (rEDigits.calls a0 t440 _ A4.out) ?_; intro nd))
  go_ret
  exact finD
 replace c3 := Bool.eq_false_iff.mpr c3
 subst c3
 have H1 : (some 3) = some r := by rw [if_neg (show ¬ (false = true) by decide)] at H; exact H
 clear H
 have H := H1
 clear H1
 obtain rfl := Option.some.inj H
 go_enter Tryz.func94, Tryz.ntmps94
 go_wp2_with (first | ((with_reducible refine gc_ 131 rfl ?_); refine goD (some 4) Tryz.func131 #[.string a0] (rEForm.calls k a0 false _ A2.out) ?_; intro nd))
 go_ret
 exact finD
theorem rEOrder.calls (k : Nat) (a0 : ByteArray) (a1 : ByteArray) (r : Int) (w : World) (h : rEOrder.f k a0 a1 = some r) :
  Calls Tryz.prog 124 #[.string a0, .string a1] w fun e w' => e = .returned (.int .i64 r) ∧ Below w.heap.size w w' := by
 have HB := Z0.mk (Below.refl w.heap.size w)
 have H := h
 clear h
 unfold rEOrder.f at H
 obtain ⟨t462, A3, H⟩ := bnd H
 obtain ⟨t463, A4, H⟩ := bnd H
 rcases je H with ⟨-, c5b0, c5b1, H⟩ | ⟨c5, c5b0, c5b1, H⟩
 ·obtain ⟨t464, A6, H⟩ := bnd H
  obtain ⟨t467, A7, H⟩ := bnd H
  obtain ⟨t470, A8, H⟩ := bnd H
  obtain ⟨t473, A9, H⟩ := bnd H
  obtain ⟨t476, A10, H⟩ := bnd H
  obtain rfl := Option.some.inj H
  go_enter Tryz.func124, Tryz.ntmps124
  go_wp2_with (first | ((with_reducible refine gc_ 163 rfl ?_); refine goD (some 8) Tryz.func163 #[.string a0] (rESign.calls a0 t462 _ A3.out) ?_; intro nd) | ((with_reducible refine gc_ 163 rfl ?_); refine goD (some 10) Tryz.func163 #[.string a1] (rESign.calls a1 t463 _ A4.out) ?_; intro nd) | ((with_reducible refine gc_ 166 rfl ?_); refine gL 19 Tryz.func166 (rEdigits.calls _ _ _ _ A6.out) ?_; rintro _ w11 ⟨v465, rfl, ho0, hb⟩; refine ⟨_, rfl, ?_⟩; have HO466 := fN ho0; replace HB := fB HB hb; clear hb ho0; obtain ⟨Ao12, co12, eo12⟩ := Kd.R_slice HO466.out; subst eo12) | ((with_reducible refine gc_ 165 rfl ?_); refine gL 20 Tryz.func165 (rEcut.calls k (fun k_ => some k_ = (.slice Ao12 t464.length co12 : Value).ownBlock) _ _ t464 t467 _ ?side1 A7.out) ?_; (case side1 => exact Kd.R_V (Kd.R_tight rfl (HO466.out))); rintro _ w13 ⟨v468, rfl, ho0, hb⟩; refine ⟨_, rfl, ?_⟩; have HO469 := Z0.mk (Kd.V_lower (Kd.V_mono (ok' := fun k_ => True) ho0 (fun k_ hk_ => trivial)) (below_size bqs)); replace HO466 := fR HO466 hb; replace HB := fB HB hb; clear hb ho0) | ((with_reducible refine gc_ 166 rfl ?_); refine gL 22 Tryz.func166 (rEdigits.calls _ _ _ _ A8.out) ?_; rintro _ w14 ⟨v471, rfl, ho0, hb⟩; refine ⟨_, rfl, ?_⟩; have HO472 := Z0.mk (Kd.R_lower (Kd.R_new' ho0 (Kd.R_lt (rq HO466))) (below_size bqs)); replace HO466 := Z0.mk (Kd.R_elder' (rq HO466) (Kd.R_base ho0) hb); replace HO469 := Z0.mk (Kd.V_elder' (vq HO469) (Kd.R_base ho0) hb); replace HB := fB HB hb; clear hb ho0; obtain ⟨Ao15, co15, eo15⟩ := Kd.R_slice HO472.out; subst eo15) | ((with_reducible refine gc_ 165 rfl ?_); refine gL 23 Tryz.func165 (rEcut.calls k (fun k_ => some k_ = (.slice Ao15 t470.length co15 : Value).ownBlock) _ _ t470 t473 _ ?side1 A9.out) ?_; (case side1 => exact Kd.R_V (Kd.R_tight rfl (HO472.out))); rintro _ w16 ⟨v474, rfl, ho0, hb⟩; refine ⟨_, rfl, ?_⟩; have HO475 := Z0.mk (Kd.V_lower (Kd.V_mono (ok' := fun k_ => some k_ ≠ (.slice Ao12 t464.length co12 : Value).ownBlock) ho0 (fun k_ hk_ => Or.elim hk_ (fun hs_ => ((HO472.out).1 k_ hs_.symm).2) (fun hn_ => (Kd.fresh' (Kd.R_lt (rq HO466)) k_ hn_)))) (below_size bqs)); replace HO466 := fR HO466 hb; replace HO469 := fV HO469 hb; replace HO472 := fR HO472 hb; replace HB := fB HB hb; clear hb ho0; obtain ⟨Ao17, co17, eo17⟩ := Kd.V_slice HO469.out; subst eo17; obtain ⟨Ao18, co18, eo18⟩ := Kd.V_slice HO475.out; subst eo18) | ((with_reducible refine gc_ 164 rfl ?_); refine goesL_ (some 24) rfl rfl Tryz.func164 (by kernel_rfl) rfl #[.slice Ao17 t467.length co17, .slice Ao18 t473.length co18] rfl (by (try simp only [List.map_toArray, List.map_cons, List.map_nil]); first | done | rfl | (simp only [List.length_drop, List.length_take]; rfl)) ?_; (with_reducible refine (rEorder.calls k _ _ t467 _ _ t473 t476 _ ?side1 ?side2 ?side3 ?side4 A10.out).mono ?_); (case side1 => exact cq (Kd.V_reads' HO469.out).2.2); (case side2 => exact (Kd.V_reads' HO469.out).2.1); (case side3 => exact cq (Kd.V_reads' HO475.out).2.2); (case side4 => exact (Kd.V_reads' HO475.out).2.1); rintro e w' ⟨rfl, ⟨nd, rfl⟩⟩; refine ⟨_, rfl, ?_⟩))
  go_ret
  exact finE
 rcases jd H with ⟨-, c19b0, H⟩ | ⟨-, c19b0, H⟩
 ·obtain rfl := Option.some.inj H
  go_enter Tryz.func124, Tryz.ntmps124
  go_wp2_with (first | ((with_reducible refine gc_ 163 rfl ?_); refine goD (some 8) Tryz.func163 #[.string a0] (rESign.calls a0 t462 _ A3.out) ?_; intro nd) | ((with_reducible refine gc_ 163 rfl ?_); refine goD (some 10) Tryz.func163 #[.string a1] (rESign.calls a1 t463 _ A4.out) ?_; intro nd))
  go_ret
  exact finE
 obtain rfl := Option.some.inj H
 go_enter Tryz.func124, Tryz.ntmps124
 go_wp2_with (first | ((with_reducible refine gc_ 163 rfl ?_); refine goD (some 8) Tryz.func163 #[.string a0] (rESign.calls a0 t462 _ A3.out) ?_; intro nd) | ((with_reducible refine gc_ 163 rfl ?_); refine goD (some 10) Tryz.func163 #[.string a1] (rESign.calls a1 t463 _ A4.out) ?_; intro nd))
 go_ret
 exact finE
theorem rFformed.calls (k : Nat) (a0 : ByteArray) (r : Bool) (w : World) (h : rFformed.f k a0 = some r) :
  Calls Tryz.prog 83 #[.string a0] w fun e w' => e = .returned (.bool r) ∧ Below w.heap.size w w' := by
 have HB := Z0.mk (Below.refl w.heap.size w)
 have H := h
 clear h
 unfold rFformed.f at H
 obtain ⟨t641, A2, H⟩ := bnd H
 obtain ⟨t642, A3, H⟩ := bnd H
 have HC4 := Z0.mk H
 clear H
 go_enter Tryz.func83, Tryz.ntmps83
 go_upto_region 2 with (first | ((with_reducible refine gc_ 123 rfl ?_); refine goD (some 7) Tryz.func123 #[.string a0] (rFTop.calls k a0 t641 _ A2.out) ?_; intro nd) | ((with_reducible refine gc_ 94 rfl ?_); refine goD (some 8) Tryz.func94 #[.string t641] (rECheck.calls k t641 t642 _ A3.out) ?_; intro nd))
 (try simp only [Act.put, List.setIfInBounds_toArray, List.set_cons_zero, List.set_cons_succ])
 go_cut [14] (fun v14 wc => ∃ (kq : Nat) (x14_3 : Bool), v14 = .bool x14_3 ∧ Z0 (rFformed.j0 kq a0 x14_3 = some r) ∧ Z0 (kq ≤ k) ∧ Z0 (Below w.heap.size w wc))
 case first =>
  have H := HC4.out
  clear HC4
  rcases je H with ⟨-, c5b0, c5b1, H⟩ | ⟨c5, c5b0, c5b1, H⟩
  ·(first | rw [c5b0] | (simp only [i64_w, i32_w]; rw [c5b0]) | skip)
   have H' := Z0.mk H
   clear H
   go_wp2
   go_meet
   case rel => exact ⟨_, (false), fs, H', ⟨by first | omega | exact Nat.le_refl _⟩, ⟨bqs⟩⟩
  (first | rw [c5b0] | (simp only [i64_w, i32_w]; rw [c5b0]) | skip)
  have H' := Z0.mk H
  clear H
  go_wp2
  go_meet
  case rel => exact ⟨_, ((t642 != 10)), fs, H', ⟨by first | omega | exact Nat.le_refl _⟩, ⟨bqs⟩⟩
 case rest =>
  clear HC4
  try clear p2
  try clear c3
  try clear c5
  try clear c5b0
  try clear c5b1
  obtain ⟨kq, x14_3, rfl, HA, HJ3, HB⟩ := hcut
  cases kq with
  | zero => exact absurd HA.out (by simp [rFformed.j0])
  | succ kj3 =>
   have H := HA.out
   clear HA
   simp only [rFformed.j0] at H
   by_cases c6 : x14_3 = true
   ·subst c6
    have H1 : (some false) = some r := by rw [if_pos rfl] at H; exact H
    clear H
    have H := H1
    clear H1
    obtain rfl := Option.some.inj H
    go_wp2
    go_ret
    exact finE
   replace c6 := Bool.eq_false_iff.mpr c6
   subst c6
   have H1 : ((rFslash.f kj3 a0).bind fun t643 => (if t643 < 0 then (some true) else ((rFBottom.f kj3 a0).bind fun t644 => ((rECheck.f kj3 t644).bind fun t645 => (if t645 = 0 then (rFformed.j1 kj3 a0 t644 false) else (rFformed.j1 kj3 a0 t644 (t645 != 10))))))) = some r := by rw [if_neg (show ¬ (false = true) by decide)] at H; exact H
   clear H
   have H := H1
   clear H1
   obtain ⟨t643, A7, H⟩ := bnd H
   rcases jd H with ⟨-, c8b0, H⟩ | ⟨-, c8b0, H⟩
   ·obtain rfl := Option.some.inj H
    go_wp2_with (first | ((with_reducible refine gc_ 82 rfl ?_); refine goD (some 16) Tryz.func82 #[.string a0] (rFslash.calls kj3 a0 t643 _ A7.out) ?_; intro nd))
    go_ret
    exact finE
   obtain ⟨t644, A9, H⟩ := bnd H
   obtain ⟨t645, A10, H⟩ := bnd H
   have HC11 := Z0.mk H
   clear H
   go_upto_region 8 with (first | ((with_reducible refine gc_ 82 rfl ?_); refine goD (some 16) Tryz.func82 #[.string a0] (rFslash.calls kj3 a0 t643 _ A7.out) ?_; intro nd) | ((with_reducible refine gc_ 25 rfl ?_); refine goD (some 19) Tryz.func25 #[.string a0] (rFBottom.calls kj3 a0 t644 _ A9.out) ?_; intro nd) | ((with_reducible refine gc_ 94 rfl ?_); refine goD (some 21) Tryz.func94 #[.string t644] (rECheck.calls kj3 t644 t645 _ A10.out) ?_; intro nd))
   (try simp only [Act.put, List.setIfInBounds_toArray, List.set_cons_zero, List.set_cons_succ])
   go_cut [27] (fun v27 wc => ∃ (kq : Nat) (x27_10 : Bool), v27 = .bool x27_10 ∧ Z0 (rFformed.j1 kq a0 t644 x27_10 = some r) ∧ Z0 (kq ≤ kj3) ∧ Z0 (Below w.heap.size w wc))
   case first =>
    have H := HC11.out
    clear HC11
    rcases je H with ⟨-, c12b0, c12b1, H⟩ | ⟨c12, c12b0, c12b1, H⟩
    ·(first | rw [c12b0] | (simp only [i64_w, i32_w]; rw [c12b0]) | skip)
     have H' := Z0.mk H
     clear H
     go_wp2
     go_meet
     case rel => exact ⟨_, (false), fs, H', ⟨by have := HJ3.out; first | omega | exact Nat.le_refl _⟩, ⟨bqs⟩⟩
    (first | rw [c12b0] | (simp only [i64_w, i32_w]; rw [c12b0]) | skip)
    have H' := Z0.mk H
    clear H
    go_wp2
    go_meet
    case rel => exact ⟨_, ((t645 != 10)), fs, H', ⟨by have := HJ3.out; first | omega | exact Nat.le_refl _⟩, ⟨bqs⟩⟩
   case rest =>
    clear HC11
    try clear c1
    try clear p2
    try clear c3
    try clear c5
    try clear c5b0
    try clear c5b1
    try clear c6
    try clear c7
    try clear c8
    try clear c8b0
    try clear c11
    try clear c12
    try clear c12b0
    try clear c12b1
    try clear p2
    obtain ⟨kq, x27_10, rfl, HA, HJ10, HB⟩ := hcut
    cases kq with
    | zero => exact absurd HA.out (by simp [rFformed.j1])
    | succ kj10 =>
     have H := HA.out
     clear HA
     simp only [rFformed.j1] at H
     by_cases c13 : x27_10 = true
     ·subst c13
      have H1 : (some false) = some r := by rw [if_pos rfl] at H; exact H
      clear H
      have H := H1
      clear H1
      obtain rfl := Option.some.inj H
      go_wp2
      go_ret
      exact finE
     replace c13 := Bool.eq_false_iff.mpr c13
     subst c13
     have H1 : ((rEOrder.f kj10 t644 (⟨#[49]⟩ : ByteArray)).bind fun t646 => (if t646 > 0 then ((rFTop.f kj10 a0).bind fun t647 => ((rECommon.f kj10 t647 t644).bind fun t648 => (some (t648.toList == ([49] : List UInt8))))) else (some false))) = some r := by rw [if_neg (show ¬ (false = true) by decide)] at H; exact H
     clear H
     have H := H1
     clear H1
     obtain ⟨t646, A14, H⟩ := bnd H
     rcases jg H with ⟨-, c15b0, H⟩ | ⟨-, c15b0, H⟩
     ·obtain ⟨t647, A16, H⟩ := bnd H
      obtain ⟨t648, A17, H⟩ := bnd H
      obtain rfl := Option.some.inj H
      go_wp2_with (first | ((with_reducible refine gc_ 124 rfl ?_); refine goB (some 29) Tryz.func124 #[.string t644, .string (⟨#[49]⟩ : ByteArray)] bq (rEOrder.calls kj10 t644 (⟨#[49]⟩ : ByteArray) t646 _ A14.out) ?_; clear HB; intro w18 HB) | (go_at_call 123; (with_reducible refine (rFTop.calls kj10 a0 t647 _ A16.out).mono ?_); rintro e w' ⟨rfl, ⟨nd, rfl⟩⟩) | (go_at_call 125; (with_reducible refine (rECommon.calls kj10 t647 t644 t648 _ A17.out).mono ?_); rintro e w19 ⟨rfl, hb⟩; replace HB := fB HB hb; clear hb))
      go_ret
      exact finE
     obtain rfl := Option.some.inj H
     go_wp2_with (first | ((with_reducible refine gc_ 124 rfl ?_); refine goB (some 29) Tryz.func124 #[.string t644, .string (⟨#[49]⟩ : ByteArray)] bq (rEOrder.calls kj10 t644 (⟨#[49]⟩ : ByteArray) t646 _ A14.out) ?_; clear HB; intro w20 HB))
     go_ret
     exact finE
theorem rFCheck.calls (k : Nat) (a0 : ByteArray) (r : Int) (w : World) (h : rFCheck.f k a0 = some r) :
  Calls Tryz.prog 26 #[.string a0] w fun e w' => e = .returned (.int .i64 r) ∧ Below w.heap.size w w' := by
 have HB := Z0.mk (Below.refl w.heap.size w)
 have H := h
 clear h
 unfold rFCheck.f at H
 obtain ⟨t653, A2, H⟩ := bnd H
 by_cases c3 : t653 = true
 ·subst c3
  have H1 : ((rFDigits.f k a0).bind fun t654 => (if t654 > 4096 then (some 10) else (some 0))) = some r := by rw [if_pos rfl] at H; exact H
  clear H
  have H := H1
  clear H1
  obtain ⟨t654, A4, H⟩ := bnd H
  rcases jg H with ⟨-, c5b0, H⟩ | ⟨-, c5b0, H⟩
  ·obtain rfl := Option.some.inj H
   go_enter Tryz.func26, Tryz.ntmps26
   go_wp2_with (first | ((with_reducible refine gc_ 83 rfl ?_); refine goB (some 4) Tryz.func83 #[.string a0] bq (rFformed.calls k a0 true _ A2.out) ?_; clear HB; intro w6 HB) | ((with_reducible refine gc_ 84 rfl ?_); refine goB (some 7) Tryz.func84 #[.string a0] bq (rFDigits.calls k a0 t654 _ A4.out) ?_; clear HB; intro w7 HB))
   go_ret
   exact finE
  obtain rfl := Option.some.inj H
  go_enter Tryz.func26, Tryz.ntmps26
  go_wp2_with (first | ((with_reducible refine gc_ 83 rfl ?_); refine goB (some 4) Tryz.func83 #[.string a0] bq (rFformed.calls k a0 true _ A2.out) ?_; clear HB; intro w8 HB) | ((with_reducible refine gc_ 84 rfl ?_); refine goB (some 7) Tryz.func84 #[.string a0] bq (rFDigits.calls k a0 t654 _ A4.out) ?_; clear HB; intro w9 HB))
  go_ret
  exact finE
 replace c3 := Bool.eq_false_iff.mpr c3
 subst c3
 have H1 : (some 3) = some r := by rw [if_neg (show ¬ (false = true) by decide)] at H; exact H
 clear H
 have H := H1
 clear H1
 obtain rfl := Option.some.inj H
 go_enter Tryz.func26, Tryz.ntmps26
 go_wp2_with (first | ((with_reducible refine gc_ 83 rfl ?_); refine goB (some 4) Tryz.func83 #[.string a0] bq (rFformed.calls k a0 false _ A2.out) ?_; clear HB; intro w10 HB))
 go_ret
 exact finE
set_option linter.unusedVariables false
set_option linter.unusedSimpArgs false
open Go.RowKit Go.Shelf Go.Proofs.WWords Go.Proofs.WLast Go.Proofs.WMore
instance lx_Digits : Ctr 90 (type_of% @rEDigits.calls) := ⟨@rEDigits.calls, _, Tryz.func90, by kernel_rfl, rfl⟩
instance lx_Check : Ctr 26 (type_of% @rFCheck.calls) := ⟨@rFCheck.calls, _, Tryz.func26, by kernel_rfl, rfl⟩
theorem refShort_ok (q : Rat) (b : Bool) (w : World) (hq : ndR q ≤ 100000) (hb : Z0 (decide (ndR q ≤ 100) = b)) :
  Calls Tryz.prog 87 #[.string (Sv.rtxt q)] w fun e w' => e = .returned (.bool b) ∧ Below w.heap.size w w' := by
 have HB := Z0.mk (Below.refl w.heap.size w)
 have h1 := ndR_nd q
 obtain ⟨k1, A1⟩ := (topQ hq).as
 obtain ⟨k2, A2⟩ := (botQ hq).as
 have A3 := Z0.mk (ref_Digits q.num (by omega))
 have A4 := Z0.mk (ref_Digits q.den (by omega))
 have hb' := hb.out
 clear hb
 unfold ndR at hb'
 go_enter Tryz.func87, Tryz.ntmps87
 by_cases a1 : Sv.nd q.num ≤ 100
 · have c1 : decide ((Sv.nd q.num : Int) ≤ 100) = true := decide_eq_true (by omega)
   by_cases a2 : Sv.nd (q.den : Int) ≤ 100
   · have c2 : decide ((Sv.nd (q.den : Int) : Int) ≤ 100) = true := decide_eq_true (by omega)
     obtain rfl : true = b := by rw [← hb', decide_eq_true (by omega)]
     clear a1 a2 hb' h1 hq
     go_wp2_with (first
      | (go_at_call 25; refine (drB (rFBottom.calls k2 _ _ _ A2.out)).mono ?_; rintro _ w' ⟨rfl, hb⟩; replace HB := fB HB hb; clear hb)
      | (go_at_call 90; refine (drB (rEDigits.calls _ _ _ A4.out)).mono ?_; rintro _ w' ⟨rfl, hb⟩; replace HB := fB HB hb; clear hb)
      | (refine cG rfl ?_; intro w' hb; replace HB := fB HB hb; clear hb))
     go_ret
     exact ⟨rfl, HB.out⟩
   · have c2 : decide ((Sv.nd (q.den : Int) : Int) ≤ 100) = false := decide_eq_false (by omega)
     obtain rfl : false = b := by rw [← hb', decide_eq_false (by omega)]
     clear a1 a2 hb' h1 hq
     go_wp2_with (first
      | (go_at_call 25; refine (drB (rFBottom.calls k2 _ _ _ A2.out)).mono ?_; rintro _ w' ⟨rfl, hb⟩; replace HB := fB HB hb; clear hb)
      | (go_at_call 90; refine (drB (rEDigits.calls _ _ _ A4.out)).mono ?_; rintro _ w' ⟨rfl, hb⟩; replace HB := fB HB hb; clear hb)
      | (refine cG rfl ?_; intro w' hb; replace HB := fB HB hb; clear hb))
     go_ret
     exact ⟨rfl, HB.out⟩
 · have c1 : decide ((Sv.nd q.num : Int) ≤ 100) = false := decide_eq_false (by omega)
   obtain rfl : false = b := by rw [← hb', decide_eq_false (by omega)]
   clear a1 hb' h1 hq
   go_wp2_with (refine cG rfl ?_; intro w' hb; replace HB := fB HB hb; clear hb)
   go_ret
   exact ⟨rfl, HB.out⟩
instance lx_Short : Ctr 87 (type_of% @refShort_ok) := ⟨@refShort_ok, _, Tryz.func87, by kernel_rfl, rfl⟩
theorem refNumber_ok (s : ByteArray) (x : Int) (w : World) (hs : s.size ≤ 10000000000) (hx : Z0 (numC s = x)) :
  Calls Tryz.prog 74 #[.string s] w fun e w' => e = .returned (.int .i64 x) ∧ Below w.heap.size w w' := by
 have HB := Z0.mk (Below.refl w.heap.size w)
 obtain ⟨k, A1⟩ := (ref_RCheck s hs).as
 by_cases h0 : chkR s = 0
 · obtain ⟨q, rfl, hq⟩ := of_chkR h0
   rw [h0] at A1
   have h1 := hx.out
   rw [numC_rtxt] at h1
   have hq' : ndR q ≤ 100000 := by omega
   clear hx
   obtain ⟨b, hb⟩ : ∃ b, Z0 (decide (ndR q ≤ 100) = b) := ⟨_, ⟨rfl⟩⟩
   go_enter Tryz.func74, Tryz.ntmps74
   by_cases h2 : ndR q ≤ 100
   · rw [if_pos h2] at h1
     subst h1
     obtain rfl : true = b := by rw [← hb.out, decide_eq_true h2]
     go_wp2_with (refine cG rfl ?_; intro w' hb; replace HB := fB HB hb; clear hb)
     go_ret
     exact ⟨rfl, HB.out⟩
   · rw [if_neg h2] at h1
     subst h1
     obtain rfl : false = b := by rw [← hb.out, decide_eq_false h2]
     go_wp2_with (refine cG rfl ?_; intro w' hb; replace HB := fB HB hb; clear hb)
     go_ret
     exact ⟨rfl, HB.out⟩
 · have h1 : numC s = chkR s := if_neg h0
   rw [h1] at hx
   rw [hx.out] at A1 h0
   have e1 : (x != 0) = true := bne_iff_ne.mpr h0
   clear hx h1
   go_enter Tryz.func74, Tryz.ntmps74
   go_wp2_with (refine cG rfl ?_; intro w' hb; replace HB := fB HB hb; clear hb)
   go_ret
   exact ⟨rfl, HB.out⟩
instance lx_Number : Ctr 74 (type_of% @refNumber_ok) := ⟨@refNumber_ok, _, Tryz.func74, by kernel_rfl, rfl⟩
theorem refNumbers_ok (A : Option Addr) (n c : Nat) (l : List ByteArray) (x : Int) (w : World) (hC : Z0 (Kd.string.C w A n l)) (hn : n = l.length) (hm : n ≤ 1000000) (hO : ∀ s ∈ l, s.size ≤ 10000000000) (hx : Z0 (numsC l = x)) :
  Calls Tryz.prog 71 #[.slice A n c] w fun e w' => e = .returned (.int .i64 x) ∧ Below w.heap.size w w' := by
 subst hn
 have HB := Z0.mk (Below.refl w.heap.size w)
 go_enter Tryz.func71, Tryz.ntmps71
 go_wp2
 go_loopw [3] (fun i wr => ∃ j : Nat, j ≤ l.length ∧ i = .int .i64 j ∧ numsC (l.drop j) = x ∧ Z0 (Kd.string.C wr A l.length l) ∧ Z0 (Below w.heap.size w wr))
  (fun i _ => l.length - (Go.RowKit.intOf i).toNat)
 case atStart => exact ⟨0, by omega, rfl, hx.out, hC, HB⟩
 clear hC HB
 obtain ⟨j, hj, rfl, hok, HC, HB⟩ := hrel
 rcases Nat.lt_or_ge j l.length with h4 | h4
 · obtain ⟨ad, rfl, hxx, p, q⟩ := asI HC.out (j : Int) (by omega) (by omega)
   rw [Int.toNat_natCast] at hxx
   have hs : rdOf ByteArray.empty l (j : Int) = l[j] := by simp [rdOf, h4]
   rw [hs] at hxx
   clear hs
   have c4 : decide ((j : Int) < l.length) = true := decide_eq_true (by omega)
   have hOj := hO _ (List.getElem_mem h4)
   rw [numsC_drop h4] at hok
   obtain ⟨y, hy⟩ : ∃ y, Z0 (numC l[j] = y) := ⟨_, ⟨rfl⟩⟩
   rw [hy.out] at hok
   by_cases h0 : y = 0
   · subst h0
     rw [if_pos rfl] at hok
     go_wp2_with (refine cG rfl ?_; intro w' hb; replace HC := Z0.mk (Kd.C_below HC.out hb); replace HB := fB HB hb; clear hb)
     exact ⟨⟨j + 1, by omega, by simp, hok, HC, HB⟩, by simp [Go.RowKit.intOf]; omega⟩
   rw [if_neg h0] at hok
   subst hok
   have h0' : (y != 0) = true := bne_iff_ne.mpr h0
   go_wp2_with (refine cG rfl ?_; intro w' hb; replace HB := fB HB hb; clear hb)
   go_ret
   exact ⟨rfl, HB.out⟩
 obtain rfl : j = l.length := by omega
 rw [List.drop_length] at hok
 obtain rfl : 0 = x := hok
 go_wp2
 go_ret
 exact ⟨rfl, HB.out⟩
instance lx_Numbers : Ctr 71 (type_of% @refNumbers_ok) := ⟨@refNumbers_ok, _, Tryz.func71, by kernel_rfl, rfl⟩
theorem refCheck_ok (A : Option Addr) (n c : Nat) (l : List ByteArray) (s : ByteArray) (x : Int) (w : World) (hC : Z0 (Kd.string.C w A n l)) (hn : n = l.length) (hO : ∀ s ∈ l, s.size ≤ 10000000000) (hOs : s.size ≤ 10000000000) (hx : Z0 (chkL l s = x)) :
  Calls Tryz.prog 22 #[.agg #[.slice A n c, .string s]] w fun e w' => e = .returned (.int .i64 x) ∧ Below w.heap.size w w' := by
 subst hn
 have HB := Z0.mk (Below.refl w.heap.size w)
 have hu := Tryz.underlying25
 obtain ⟨y, hy⟩ : ∃ y, Z0 (numsC l = y) := ⟨_, ⟨rfl⟩⟩
 obtain ⟨z, hz⟩ : ∃ y, Z0 (numC s = y) := ⟨_, ⟨rfl⟩⟩
 have h := hx.out
 unfold chkL at h
 rw [hy.out, hz.out] at h
 clear hx
 go_enter Tryz.func22, Tryz.ntmps22
 by_cases h1 : 32 < l.length
 · rw [if_pos h1] at h
   subst h
   have c1 : decide (32 < (l.length : Int)) = true := decide_eq_true (by omega)
   go_wp2_with ((with_reducible refine gd_ 1 rfl ?_); refine bxE 1 #[.slice A l.length c, .string s] 25 ?_; intro g hg w1 hbox hb; have B1 := Z0.mk hbox; obtain ⟨p0, p1, -, -⟩ := b2 B1; replace HB := fB HB hb; clear hb hbox hg)
   go_ret
   exact ⟨rfl, HB.out⟩
 rw [if_neg h1] at h
 have c1 : decide (32 < (l.length : Int)) = false := decide_eq_false (by omega)
 have hm6 : l.length ≤ 1000000 := by omega
 by_cases h2 : y = 0
 · subst h2
   rw [if_pos rfl] at h
   subst h
   go_wp2_with (first
    | ((with_reducible refine gd_ 1 rfl ?_); refine bxE 1 #[.slice A l.length c, .string s] 25 ?_; intro g hg w1 hbox hb; have B1 := Z0.mk hbox; obtain ⟨p0, p1, -, -⟩ := b2 B1; replace HB := fB HB hb; replace hC := Z0.mk (Kd.C_below hC.out hb); clear hb hbox hg)
    | (refine cG rfl ?_; intro w' hb; replace B1 := fk B1 hb; clear p0 p1; obtain ⟨p0, p1, -, -⟩ := b2 B1; replace HB := fB HB hb; clear hb))
   go_ret
   exact ⟨rfl, HB.out⟩
 · rw [if_neg h2] at h
   subst h
   have h0' : (y != 0) = true := bne_iff_ne.mpr h2
   go_wp2_with (first
    | ((with_reducible refine gd_ 1 rfl ?_); refine bxE 1 #[.slice A l.length c, .string s] 25 ?_; intro g hg w1 hbox hb; have B1 := Z0.mk hbox; obtain ⟨p0, p1, -, -⟩ := b2 B1; replace HB := fB HB hb; replace hC := Z0.mk (Kd.C_below hC.out hb); clear hb hbox hg)
    | (refine cG rfl ?_; intro w' hb; replace B1 := fk B1 hb; clear p0 p1; obtain ⟨p0, p1, -, -⟩ := b2 B1; replace HB := fB HB hb; clear hb))
   go_ret
   exact ⟨rfl, HB.out⟩
instance ly_Check : Ctr 22 (type_of% @refCheck_ok) := ⟨@refCheck_ok, _, Tryz.func22, by kernel_rfl, rfl⟩
structure S5 (w : World) (g : Nat) (o0 o1 o2 o3 : Obj) (u : World) : Prop where
  a : Z0 (u.heap[w.heap.size]? = some o0)
  b : Z0 (u.heap[w.heap.size + 1]? = some o1)
  c : Z0 (u.heap[w.heap.size + 1 + 1]? = some o2)
  d : Z0 (u.heap[g]? = some o3)
  B : Z0 (Below w.heap.size w u)
theorem S5.on {w u u' : World} {g : Nat} {o0 o1 o2 o3 : Obj} (h : S5 w g o0 o1 o2 o3 u) (hb : Below u.heap.size u u') : S5 w g o0 o1 o2 o3 u' :=
 ⟨⟨blk_below h.a.out hb⟩, ⟨blk_below h.b.out hb⟩, ⟨blk_below h.c.out hb⟩, ⟨blk_below h.d.out hb⟩, ⟨below_step h.B.out hb⟩⟩
theorem SameRats_ok (A B : Option Addr) (n n' c c' : Nat) (l : List ByteArray) (w : World) (hC : Z0 (Kd.string.C w A n l)) (hC' : Z0 (Kd.string.C w B n' l)) (hn : n = l.length) (hn' : n' = n) (hm : n ≤ 1000) :
  Calls Tryz.prog 65 #[.slice A n c, .slice B n' c'] w fun e w' => e = .returned (.bool true) ∧ Below w.heap.size w w' := by
 subst hn'
 have HB := Z0.mk (Below.refl w.heap.size w)
 have hCw := hC
 have hCw' := hC'
 replace hn := Z0.mk hn
 go_enter Tryz.func65, Tryz.ntmps65
 have c1 : ((n' : Int) != n') = false := bne_self_eq_false _
 go_wp2
 go_loopw [5] (fun i wr => ∃ j : Nat, j ≤ n' ∧ i = .int .i64 j ∧ Z0 (Below w.heap.size w wr))
  (fun i _ => n' - (Go.RowKit.intOf i).toNat)
 case atStart => exact ⟨0, by omega, rfl, HB⟩
 clear HB hC hC'
 obtain ⟨j, hj, rfl, HB⟩ := hrel
 rcases Nat.lt_or_ge j n' with h4 | h4
 · have c4 : decide ((j : Int) < n') = true := decide_eq_true (by omega)
   have hjl : j < l.length := by have := hn.out; omega
   obtain ⟨x, hx⟩ : ∃ x, l[j] = x := ⟨_, rfl⟩
   obtain ⟨ad, rfl, hxx, x1, x2⟩ := asI (Kd.C_below hCw.out HB.out) (j : Int) (by omega) (by omega)
   rw [Int.toNat_natCast, show rdOf ByteArray.empty l (j : Int) = x by rw [← hx]; simp [rdOf, hjl]] at hxx
   obtain ⟨ae, rfl, hyy, -, -⟩ := asI (Kd.C_below hCw'.out HB.out) (j : Int) (by omega) (by omega)
   rw [Int.toNat_natCast, show rdOf ByteArray.empty l (j : Int) = x by rw [← hx]; simp [rdOf, hjl]] at hyy
   clear hx
   go_wp2
   have hd := (Below.refl wr.heap.size wr).drew
   refine start_ (n := 9) (S := fun w' => w'.cell? (ad.add j) = some (.string x) ∧ w'.cell? (ae.add j) = some (.string x)) (ds := []) _ (by kernel_rfl) rfl rfl ⟨hxx, hyy⟩ (fun hHeld => ?_)
   refine tp 0 17 ?_
   refine tp 1 18 ?_
   refine tp 2 19 ?_
   refine tk 3 20 (by exact hHeld) ?_
   refine tp 4 21 ?_
   refine tp 5 22 ?_
   refine tp 6 23 ?_
   refine tk 7 24 (by exact hHeld) ?_
   refine tp 8 25 ?_
   refine done_ (by kernel_rfl) ?_
   have HBd := Z0.mk (below_step HB.out hd)
   clear hHeld hd
   go_wp2
   refine ⟨⟨j + 1, by omega, by simp, HBd⟩, by simp [Go.RowKit.intOf]; omega⟩
 obtain rfl : j = n' := by omega
 have c4 : decide ((j : Int) < j) = false := decide_eq_false (by omega)
 go_wp2
 go_ret
 exact ⟨rfl, HB.out⟩
theorem SameInts_ok (A B : Option Addr) (n n' c c' : Nat) (l : List ByteArray) (w : World) (hC : Z0 (Kd.string.C w A n l)) (hC' : Z0 (Kd.string.C w B n' l)) (hn : n = l.length) (hn' : n' = n) (hm : n ≤ 1000) :
  Calls Tryz.prog 39 #[.slice A n c, .slice B n' c'] w fun e w' => e = .returned (.bool true) ∧ Below w.heap.size w w' := by
 subst hn'
 have HB := Z0.mk (Below.refl w.heap.size w)
 have hCw := hC
 have hCw' := hC'
 replace hn := Z0.mk hn
 go_enter Tryz.func39, Tryz.ntmps39
 have c1 : ((n' : Int) != n') = false := bne_self_eq_false _
 go_wp2
 go_loopw [5] (fun i wr => ∃ j : Nat, j ≤ n' ∧ i = .int .i64 j ∧ Z0 (Below w.heap.size w wr))
  (fun i _ => n' - (Go.RowKit.intOf i).toNat)
 case atStart => exact ⟨0, by omega, rfl, HB⟩
 clear HB hC hC'
 obtain ⟨j, hj, rfl, HB⟩ := hrel
 rcases Nat.lt_or_ge j n' with h4 | h4
 · have c4 : decide ((j : Int) < n') = true := decide_eq_true (by omega)
   have hjl : j < l.length := by have := hn.out; omega
   obtain ⟨x, hx⟩ : ∃ x, l[j] = x := ⟨_, rfl⟩
   obtain ⟨ad, rfl, hxx, x1, x2⟩ := asI (Kd.C_below hCw.out HB.out) (j : Int) (by omega) (by omega)
   rw [Int.toNat_natCast, show rdOf ByteArray.empty l (j : Int) = x by rw [← hx]; simp [rdOf, hjl]] at hxx
   obtain ⟨ae, rfl, hyy, -, -⟩ := asI (Kd.C_below hCw'.out HB.out) (j : Int) (by omega) (by omega)
   rw [Int.toNat_natCast, show rdOf ByteArray.empty l (j : Int) = x by rw [← hx]; simp [rdOf, hjl]] at hyy
   clear hx
   go_wp2
   have hd := (Below.refl wr.heap.size wr).drew
   refine start_ (n := 9) (S := fun w' => w'.cell? (ad.add j) = some (.string x) ∧ w'.cell? (ae.add j) = some (.string x)) (ds := []) _ (by kernel_rfl) rfl rfl ⟨hxx, hyy⟩ (fun hHeld => ?_)
   refine tp 0 17 ?_
   refine tp 1 18 ?_
   refine tp 2 19 ?_
   refine tk 3 20 (by exact hHeld) ?_
   refine tp 4 21 ?_
   refine tp 5 22 ?_
   refine tp 6 23 ?_
   refine tk 7 24 (by exact hHeld) ?_
   refine tp 8 25 ?_
   refine done_ (by kernel_rfl) ?_
   have HBd := Z0.mk (below_step HB.out hd)
   clear hHeld hd
   go_wp2
   refine ⟨⟨j + 1, by omega, by simp, HBd⟩, by simp [Go.RowKit.intOf]; omega⟩
 obtain rfl : j = n' := by omega
 have c4 : decide ((j : Int) < j) = false := decide_eq_false (by omega)
 go_wp2
 go_ret
 exact ⟨rfl, HB.out⟩
theorem Same_ok (A B : Option Addr) (n n' c c' : Nat) (l : List ByteArray) (s : ByteArray) (w : World) (hC : Z0 (Kd.string.C w A n l)) (hC' : Z0 (Kd.string.C w B n' l)) (hn : n = l.length) (hn' : n' = n) (hm : n ≤ 1000) :
  Calls Tryz.prog 17 #[.agg #[.slice A n c, .string s], .agg #[.slice B n' c', .string s]] w fun e w' => e = .returned (.bool true) ∧ Below w.heap.size w w' := by
 subst hn'
 have HB := Z0.mk (Below.refl w.heap.size w)
 have hu := Tryz.underlying25
 replace hn := Z0.mk hn
 go_enter Tryz.func17, Tryz.ntmps17
 go_upto_region 1 with (fail)
 refine al2 ?_
 intro W hb B0 B1
 replace HB := fB HB hb
 replace hC := Z0.mk (Kd.C_below hC.out hb)
 replace hC' := Z0.mk (Kd.C_below hC'.out hb)
 obtain ⟨p0, p1, -, -⟩ := b2 B0
 obtain ⟨q0, q1, -, -⟩ := b2 B1
 clear hb
 go_wp2_with ((with_reducible refine gc_ 65 rfl ?_); refine gL 9 Tryz.func65 (SameRats_ok A B n' n' c c' l _ hC hC' hn.out rfl hm) ?_; rintro _ w6 ⟨rfl, hb⟩; refine ⟨_, rfl, ?_⟩; replace HB := fB HB hb; replace B0 := fk B0 hb; replace B1 := fk B1 hb; clear hb p0 p1 q0 q1; obtain ⟨p0, p1, -, -⟩ := b2 B0; obtain ⟨q0, q1, -, -⟩ := b2 B1)
 go_ret
 exact ⟨by simp, HB.out⟩
theorem FewText_ok (s : ByteArray) (b : Bool) (w : World) (hb : Z0 (decide (s.size ≤ 450) = b)) :
  Calls Tryz.prog 27 #[.string s] w fun e w' => e = .returned (.bool b) ∧ Below w.heap.size w w' := by
 have HB := Z0.mk (Below.refl w.heap.size w)
 have c1 : decide ((s.size : Int) ≤ 450) = b := by rw [← hb.out]; exact decide_eq_decide.2 (by omega)
 clear hb
 go_enter Tryz.func27, Tryz.ntmps27
 go_wp2
 go_ret
 exact ⟨rfl, HB.out⟩
instance nk_FewText : Ctr 27 (type_of% @FewText_ok) := ⟨@FewText_ok, _, Tryz.func27, by kernel_rfl, rfl⟩
def fewB (l : List ByteArray) (s : ByteArray) : Bool := decide (l.length ≤ 40) && (decide (s.size ≤ 450) && l.all fun x => decide (x.size ≤ 450))
theorem Few_ok (A : Option Addr) (n c : Nat) (l : List ByteArray) (s : ByteArray) (b : Bool) (w : World) (hC : Z0 (Kd.string.C w A n l)) (hn : n = l.length) (hb : Z0 (fewB l s = b)) :
  Calls Tryz.prog 13 #[.agg #[.slice A n c, .string s]] w fun e w' => e = .returned (.bool b) ∧ Below w.heap.size w w' := by
 have HB := Z0.mk (Below.refl w.heap.size w)
 have hCw := hC
 have h := hb.out
 unfold fewB at h
 clear hb
 replace hn := Z0.mk hn
 obtain ⟨z, hz⟩ : ∃ z, Z0 (decide (s.size ≤ 450) = z) := ⟨_, ⟨rfl⟩⟩
 rw [hz.out] at h
 go_enter Tryz.func13, Tryz.ntmps13
 go_upto_region 1 with (fail)
 refine al1 ?_
 intro W hb B0
 replace HB := fB HB hb
 obtain ⟨p0, p1, -, -⟩ := b2 B0
 clear hb
 by_cases h1 : 40 < n
 · have c1 : decide (40 < (n : Int)) = true := decide_eq_true (by omega)
   obtain rfl : false = b := by rw [← h, decide_eq_false (by have := hn.out; omega)]; rfl
   clear h h1
   go_wp2
   go_ret
   exact ⟨rfl, HB.out⟩
 have c1 : decide (40 < (n : Int)) = false := decide_eq_false (by omega)
 rw [decide_eq_true (by have := hn.out; omega), Bool.true_and] at h
 cases z with
 | false =>
  rw [Bool.false_and] at h
  subst h
  go_wp2_with (go_at_call 27; refine (FewText_ok _ _ _ hz).mono ?_; rintro _ w' ⟨rfl, hb⟩; replace B0 := fk B0 hb; replace HB := fB HB hb; clear hb p0 p1; obtain ⟨p0, p1, -, -⟩ := b2 B0)
  go_ret
  exact ⟨rfl, HB.out⟩
 | true =>
  rw [Bool.true_and] at h
  go_wp2_with (go_at_call 27; refine (FewText_ok _ _ _ hz).mono ?_; rintro _ w' ⟨rfl, hb⟩; replace B0 := fk B0 hb; replace HB := fB HB hb; clear hb p0 p1; obtain ⟨p0, p1, -, -⟩ := b2 B0)
  go_loopw [3] (fun i wr => ∃ j : Nat, j ≤ n ∧ i = .int .i64 j ∧ ((l.drop j).all fun x => decide (x.size ≤ 450)) = b ∧ Z0 (wr.heap[w.heap.size]? = some (.cells #[.slice A n c, .string s] 25 (0, 0))) ∧ Z0 (Below w.heap.size w wr))
   (fun i _ => n - (Go.RowKit.intOf i).toNat)
  case atStart => exact ⟨0, by omega, rfl, h, B0, HB⟩
  clear B0 HB hC h p0 p1
  obtain ⟨j, hj, rfl, h, B0, HB⟩ := hrel
  obtain ⟨p0, p1, -, -⟩ := b2 B0
  rcases Nat.lt_or_ge j n with h4 | h4
  · have c4 : decide ((j : Int) < n) = true := decide_eq_true (by omega)
    have hjl : j < l.length := by have := hn.out; omega
    obtain ⟨x, hx⟩ : ∃ x, l[j] = x := ⟨_, rfl⟩
    rw [List.drop_eq_getElem_cons hjl, List.all_cons, hx] at h
    obtain ⟨ad, rfl, hxx, x1, x2⟩ := asI (Kd.C_below hCw.out HB.out) (j : Int) (by omega) (by omega)
    rw [Int.toNat_natCast, show rdOf ByteArray.empty l (j : Int) = x by rw [← hx]; simp [rdOf, hjl]] at hxx
    clear hx
    obtain ⟨u, hu⟩ : ∃ u, Z0 (decide (x.size ≤ 450) = u) := ⟨_, ⟨rfl⟩⟩
    rw [hu.out] at h
    cases u with
    | true =>
     rw [Bool.true_and] at h
     replace h := Z0.mk h
     go_wp2_with (refine cG rfl ?_; intro w' hb; replace B0 := fk B0 hb; replace HB := fB HB hb; clear hb p0 p1; obtain ⟨p0, p1, -, -⟩ := b2 B0)
     refine ⟨⟨j + 1, by omega, by simp, h.out, B0, HB⟩, by simp [Go.RowKit.intOf]; omega⟩
    | false =>
     rw [Bool.false_and] at h
     subst h
     go_wp2_with (refine cG rfl ?_; intro w' hb; replace B0 := fk B0 hb; replace HB := fB HB hb; clear hb p0 p1; obtain ⟨p0, p1, -, -⟩ := b2 B0)
     go_ret
     exact ⟨rfl, HB.out⟩
  obtain rfl : j = n := by omega
  have c4 : decide ((j : Int) < j) = false := decide_eq_false (by omega)
  rw [List.drop_of_length_le (by rw [hn.out]; exact Nat.le_refl _)] at h
  obtain rfl : true = b := h
  go_wp2
  go_ret
  exact ⟨rfl, HB.out⟩
instance nk_Few : Ctr 13 (type_of% @Few_ok) := ⟨@Few_ok, _, Tryz.func13, by kernel_rfl, rfl⟩
noncomputable def movA (tv : List Int) (n : Nat) (qs : List Rat) : Nat → List Rat
 | 0 => List.replicate n 0
 | j + 1 => (movA tv n qs j).set (tv.getD j 0).toNat ((movA tv n qs j).getD (tv.getD j 0).toNat 0 + qs.getD j 0)
theorem movA_length (tv : List Int) (n : Nat) (qs : List Rat) (j : Nat) : (movA tv n qs j).length = n := by
 induction j with
 | zero => exact List.length_replicate
 | succ j ih => unfold movA; rw [List.length_set, ih]
theorem set_self0 (m : List Rat) (i : Nat) : m.set i (m.getD i 0 + 0) = m := by
 rw [Rat.add_zero]
 apply List.ext_getElem?
 intro j
 rw [List.getElem?_set]
 split
 · subst_vars
   split
   · rename_i h; rw [List.getD_eq_getElem?_getD, List.getElem?_eq_getElem h]; rfl
   · rename_i h; rw [List.getElem?_eq_none (by omega)]
 · rfl
theorem movT_eq (qs : List Rat) (tv : List Int) (n k : Nat) (hk : k ≤ qs.length) : movT tv n (tmL (qs.map Sv.rtxt) k) = movA tv n qs k := by
 induction k with
 | zero => rfl
 | succ k ih =>
  have ih := ih (by omega)
  have hkq : k < qs.length := by omega
  have hk' : k < (qs.map Sv.rtxt).length := by rw [List.length_map]; exact hkq
  have hg : (qs.map Sv.rtxt)[k] = Sv.rtxt qs[k] := by rw [List.getElem_map]
  have hqg : qs.getD k 0 = qs[k] := by rw [List.getD_eq_getElem?_getD, List.getElem?_eq_getElem hkq]; rfl
  by_cases h : (qs.map Sv.rtxt)[k] = ⟨#[48]⟩
  · have h0 : qs[k] = 0 := by
     have e : rv (Sv.rtxt qs[k]) = rv ⟨#[48]⟩ := by rw [← hg, h]
     rw [rv_rtxt, rv_zero] at e
     exact e
    rw [tmL_zero hk' h, ih, movA, hqg, h0, set_self0]
  · rw [tmL_succ hk' h, movT_snoc, ih, movA, hqg]
    show List.set _ _ (_ + rv (qs.map Sv.rtxt)[k]) = _
    rw [hg, rv_rtxt]
instance nq_Floor : Ctr 127 (type_of% @rEFloor.calls) := ⟨@rEFloor.calls, _, Tryz.func127, by kernel_rfl, rfl⟩
instance nq_Common : Ctr 125 (type_of% @rECommon.calls) := ⟨@rECommon.calls, _, Tryz.func125, by kernel_rfl, rfl⟩
end Go.Proofs.YtihbebbabjklkaaGreatDoor.PA
