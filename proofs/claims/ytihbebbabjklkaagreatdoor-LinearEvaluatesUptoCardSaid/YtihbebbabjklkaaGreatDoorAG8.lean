import Derived.Test.YtihbebbabjklkaaGreatDoorAG1
import Derived.Test.YtihbebbabjklkaaGreatDoorAD
import Derived.Test.YtihbebbabjklkaaGreatDoorAG7
set_option maxHeartbeats 8000000
set_option maxRecDepth 100000
set_option linter.unusedVariables false
namespace Go.Proofs.YtihbebbabjklkaaGreatDoor.PA
set_option linter.unusedVariables false
open Go.RowKit Go.Proofs.WWords Go.Proofs.WLast Go.Proofs.WMore
attribute [local go_sem] max2_int min2_int max_two min_two max_three min_three max_four min_four
set_option linter.unusedSimpArgs false
theorem rEminus.calls (k : Nat) (A0 : Option Addr) (c0 : Nat) (l0 : List Int) (A1 : Option Addr) (c1 : Nat) (l1 : List Int) (r : List Int) (w : World) (hr0 : Kd.C (Kd.int .i64) w A0 l0.length l0) (hc0 : l0.length ≤ c0) (hr1 : Kd.C (Kd.int .i64) w A1 l1.length l1) (hc1 : l1.length ≤ c1) (h : rEminus.f k l0 l1 = some r) :
  Calls Tryz.prog 195 #[.slice A0 l0.length c0, .slice A1 l1.length c1] w fun e w' => ∃ v0_ : Value, e = .returned (v0_) ∧ Kd.V (Kd.int .i64) 3 w' w.heap.size (fun k_ => (w.heap.size ≤ k_)) v0_ r ∧ Below w.heap.size w w' := by
 have HR0 := Z0.mk hr0
 have HC0 := Z0.mk hc0
 clear hr0 hc0
 have HR1 := Z0.mk hr1
 have HC1 := Z0.mk hc1
 clear hr1 hc1
 have HB := Z0.mk (Below.refl w.heap.size w)
 have H := h
 clear h
 unfold rEminus.f at H
 have H' := Z0.mk H
 clear H
 go_enter Tryz.func195, Tryz.ntmps195
 go_wp2
 repeat (go_quiet (fail); try go_wp2)
 go_loopg [5, 6, 7] k (fun kq v5 v6 v7 w' => ∃ (x5_1 : List Int) (x6_1 : Int) (x7_1 : Int), v6 = .int .i64 x6_1 ∧ v7 = .int .i64 x7_1 ∧ Z0 (rEminus.l0 kq l0 l1 x5_1 x6_1 x7_1 = some r) ∧ Z0 (kq ≤ k) ∧ Z0 (Kd.R (Kd.int .i64) 3 w' w.heap.size (fun k_ => (w.heap.size ≤ k_)) v5 x5_1) ∧ Z0 (Below w.heap.size w w'))
 case atStart => exact ⟨(([] : List Int)), (0), (0), fs, fs, H', ⟨Nat.le_refl _⟩, ⟨by first | exact Kd.R_nil _ _ _ _ _ | exact Kd.N_nil _ _ _ _ _ | exact Kd.V_nil _ _ _ _ _ | exact Kd.Q_nil _ _ _ _ _ | exact Kd.S_nil _ _ _ _ _⟩, ⟨bqs⟩⟩
 case round =>
  clear H'
  try clear c1
  try clear p2
  obtain ⟨x5_1, x6_1, x7_1, rfl, rfl, HA, HK1, HO_5, HB⟩ := hrel
  cases gk with
  | zero => exact absurd HA.out (by simp [rEminus.l0])
  | succ k1 =>
   have H := HA.out
   clear HA
   simp only [rEminus.l0] at H
   rcases jd H with ⟨-, c3b0, H⟩ | ⟨-, c3b0, H⟩
   ·obtain ⟨-, c4b0, H⟩ := gd H
    obtain ⟨t529, A5, H⟩ := bnd H
    rcases jd H with ⟨-, c6b0, H⟩ | ⟨-, c6b0, H⟩
    ·obtain ⟨c7, H⟩ := gn H
     have LMc7 := Z0.mk c7
     clear c7
     generalize hy530 : (x5_1 ++ [wrap64 ((wrap64 ((wrap64 ((rd l0 x7_1) - t529)) - x6_1)) + 10)] : List Int) = y530 at H
     have Ny530 := Z0.mk hy530.symm
     clear hy530
     have H' := Z0.mk H
     clear H
     obtain ⟨ad528, e528, hx528_0, p528, q528⟩ := atB HB HR0.out x7_1
     cases e528
     go_wp2_with (first | (go_at_call 217; (with_reducible refine (rEat.calls _ _ l1 x7_1 t529 _ ?side1 ?side2 A5.out).mono ?_); (case side1 => exact cq (Kd.C_below HR1.out HB.out)); (case side2 => exact HC1.out); rintro e w' ⟨rfl, ⟨nd, rfl⟩⟩; (try first | exact ⟨rfl, _, World.drewN_drewN _ _ _⟩ | exact ⟨rfl, _, Eq.trans (World.drewN_drewN _ _ _) (congrArg (World.drewN _) (Nat.add_assoc _ _ _))⟩)) | ((with_reducible refine gate_builtin (b := .append) (xs := #[.tmp 29, .tmp 31]) rfl ?_); at_builtin; refine Kd.R_append (Kd.int .i64) (w0 := w) w.heap.size rfl (.tmp 29) (.tmp 31) 35 3 (.int .i64 0) 8 rfl Tryz.underlying35 info3 rfl (by decide) (by omega) u5 x5_1 (wrap64 ((wrap64 ((wrap64 ((rd l0 x7_1) - t529)) - x6_1)) + 10)) [.int .i64 (wrap64 ((wrap64 ((wrap64 ((rd l0 x7_1) - t529)) - x6_1)) + 10))] (fun k_ => (w.heap.size ≤ k_)) (fun _ => False) rfl rfl ?aP (fun _ hk => hk.elim) ?aF ?aO ?aB ?aS ?aL ?_; (case aP => exact rfl); (case aB => exact bqs); (case aF => exact (fun k_ hk => (Nat.le_trans (below_size bqs) hk))); (case aO => exact (rq HO_5)); (case aS => exact (below_size bqs)); (case aL => have := LMc7.out; omega); intro v531 w8 ho hb hg hat; rw [← Ny530.out] at ho; have HO532 := Z0.mk (ho); replace HB := Z0.mk (hb); clear HO_5; clear ho hb hg hat) | (go_quiet (first | (go_at_call 217; (with_reducible refine (rEat.calls _ _ l1 x7_1 t529 _ ?side1 ?side2 A5.out).mono ?_); (case side1 => exact cq (Kd.C_below HR1.out HB.out)); (case side2 => exact HC1.out); rintro e w' ⟨rfl, ⟨nd, rfl⟩⟩; (try first | exact ⟨rfl, _, World.drewN_drewN _ _ _⟩ | exact ⟨rfl, _, Eq.trans (World.drewN_drewN _ _ _) (congrArg (World.drewN _) (Nat.add_assoc _ _ _))⟩)) | ((with_reducible refine gate_builtin (b := .append) (xs := #[.tmp 29, .tmp 31]) rfl ?_); at_builtin; refine Kd.R_append (Kd.int .i64) (w0 := w) w.heap.size rfl (.tmp 29) (.tmp 31) 35 3 (.int .i64 0) 8 rfl Tryz.underlying35 info3 rfl (by decide) (by omega) u5 x5_1 (wrap64 ((wrap64 ((wrap64 ((rd l0 x7_1) - t529)) - x6_1)) + 10)) [.int .i64 (wrap64 ((wrap64 ((wrap64 ((rd l0 x7_1) - t529)) - x6_1)) + 10))] (fun k_ => (w.heap.size ≤ k_)) (fun _ => False) rfl rfl ?aP (fun _ hk => hk.elim) ?aF ?aO ?aB ?aS ?aL ?_; (case aP => exact rfl); (case aB => exact bqs); (case aF => exact (fun k_ hk => (Nat.le_trans (below_size bqs) hk))); (case aO => exact (rq HO_5)); (case aS => exact (below_size bqs)); (case aL => have := LMc7.out; omega); intro v531 w8 ho hb hg hat; rw [← Ny530.out] at ho; have HO532 := Z0.mk (ho); replace HB := Z0.mk (hb); clear HO_5; clear ho hb hg hat))))
     go_roundg k1
     case measure => have := HK1.out; omega
     case rel => exact ⟨(y530), (1), (wrap64 (x7_1 + 1)), fs, fs, H', ⟨by have := HK1.out; omega⟩, ⟨rq HO532⟩, ⟨bqs⟩⟩
    obtain ⟨c9, H⟩ := gn H
    have LMc9 := Z0.mk c9
    clear c9
    generalize hy533 : (x5_1 ++ [wrap64 ((wrap64 ((rd l0 x7_1) - t529)) - x6_1)] : List Int) = y533 at H
    have Ny533 := Z0.mk hy533.symm
    clear hy533
    have H' := Z0.mk H
    clear H
    obtain ⟨ad528, e528, hx528_0, p528, q528⟩ := atB HB HR0.out x7_1
    cases e528
    go_wp2_with (first | (go_at_call 217; (with_reducible refine (rEat.calls _ _ l1 x7_1 t529 _ ?side1 ?side2 A5.out).mono ?_); (case side1 => exact cq (Kd.C_below HR1.out HB.out)); (case side2 => exact HC1.out); rintro e w' ⟨rfl, ⟨nd, rfl⟩⟩; (try first | exact ⟨rfl, _, World.drewN_drewN _ _ _⟩ | exact ⟨rfl, _, Eq.trans (World.drewN_drewN _ _ _) (congrArg (World.drewN _) (Nat.add_assoc _ _ _))⟩)) | ((with_reducible refine gate_builtin (b := .append) (xs := #[.tmp 29, .tmp 31]) rfl ?_); at_builtin; refine Kd.R_append (Kd.int .i64) (w0 := w) w.heap.size rfl (.tmp 29) (.tmp 31) 35 3 (.int .i64 0) 8 rfl Tryz.underlying35 info3 rfl (by decide) (by omega) u5 x5_1 (wrap64 ((wrap64 ((rd l0 x7_1) - t529)) - x6_1)) [.int .i64 (wrap64 ((wrap64 ((rd l0 x7_1) - t529)) - x6_1))] (fun k_ => (w.heap.size ≤ k_)) (fun _ => False) rfl rfl ?aP (fun _ hk => hk.elim) ?aF ?aO ?aB ?aS ?aL ?_; (case aP => exact rfl); (case aB => exact bqs); (case aF => exact (fun k_ hk => (Nat.le_trans (below_size bqs) hk))); (case aO => exact (rq HO_5)); (case aS => exact (below_size bqs)); (case aL => have := LMc9.out; omega); intro v534 w10 ho hb hg hat; rw [← Ny533.out] at ho; have HO535 := Z0.mk (ho); replace HB := Z0.mk (hb); clear HO_5; clear ho hb hg hat) | (go_quiet (first | (go_at_call 217; (with_reducible refine (rEat.calls _ _ l1 x7_1 t529 _ ?side1 ?side2 A5.out).mono ?_); (case side1 => exact cq (Kd.C_below HR1.out HB.out)); (case side2 => exact HC1.out); rintro e w' ⟨rfl, ⟨nd, rfl⟩⟩; (try first | exact ⟨rfl, _, World.drewN_drewN _ _ _⟩ | exact ⟨rfl, _, Eq.trans (World.drewN_drewN _ _ _) (congrArg (World.drewN _) (Nat.add_assoc _ _ _))⟩)) | ((with_reducible refine gate_builtin (b := .append) (xs := #[.tmp 29, .tmp 31]) rfl ?_); at_builtin; refine Kd.R_append (Kd.int .i64) (w0 := w) w.heap.size rfl (.tmp 29) (.tmp 31) 35 3 (.int .i64 0) 8 rfl Tryz.underlying35 info3 rfl (by decide) (by omega) u5 x5_1 (wrap64 ((wrap64 ((rd l0 x7_1) - t529)) - x6_1)) [.int .i64 (wrap64 ((wrap64 ((rd l0 x7_1) - t529)) - x6_1))] (fun k_ => (w.heap.size ≤ k_)) (fun _ => False) rfl rfl ?aP (fun _ hk => hk.elim) ?aF ?aO ?aB ?aS ?aL ?_; (case aP => exact rfl); (case aB => exact bqs); (case aF => exact (fun k_ hk => (Nat.le_trans (below_size bqs) hk))); (case aO => exact (rq HO_5)); (case aS => exact (below_size bqs)); (case aL => have := LMc9.out; omega); intro v534 w10 ho hb hg hat; rw [← Ny533.out] at ho; have HO535 := Z0.mk (ho); replace HB := Z0.mk (hb); clear HO_5; clear ho hb hg hat))))
    go_roundg k1
    case measure => have := HK1.out; omega
    case rel => exact ⟨(y533), (0), (wrap64 (x7_1 + 1)), fs, fs, H', ⟨by have := HK1.out; omega⟩, ⟨rq HO535⟩, ⟨bqs⟩⟩
   obtain ⟨t536, A11, H⟩ := bnd H
   obtain rfl := Option.some.inj H
   obtain ⟨Ao12, co12, eo12⟩ := Kd.R_slice HO_5.out
   subst eo12
   go_wp2_with (first | (go_at_call 165; (with_reducible refine (rEcut.calls k1 (fun k_ => some k_ = (.slice Ao12 x5_1.length co12 : Value).ownBlock) _ _ x5_1 t536 _ ?side1 A11.out).mono ?_); (case side1 => exact Kd.R_V (Kd.R_tight rfl (HO_5.out))); rintro e w13 ⟨v537, rfl, ho0, hb⟩; have HO538 := Z0.mk (Kd.V_lower (Kd.V_mono (ok' := fun k_ => (w.heap.size ≤ k_)) ho0 (fun k_ hk_ => Or.elim hk_ (fun hs_ => ((HO_5.out).1 k_ hs_.symm)) (fun hn_ => (Nat.le_trans (below_size bqs) hn_)))) (below_size bqs)); replace HO_5 := fR HO_5 hb; replace HB := fB HB hb; clear hb ho0) | (go_quiet (first | (go_at_call 165; (with_reducible refine (rEcut.calls k1 (fun k_ => some k_ = (.slice Ao12 x5_1.length co12 : Value).ownBlock) _ _ x5_1 t536 _ ?side1 A11.out).mono ?_); (case side1 => exact Kd.R_V (Kd.R_tight rfl (HO_5.out))); rintro e w13 ⟨v537, rfl, ho0, hb⟩; have HO538 := Z0.mk (Kd.V_lower (Kd.V_mono (ok' := fun k_ => (w.heap.size ≤ k_)) ho0 (fun k_ hk_ => Or.elim hk_ (fun hs_ => ((HO_5.out).1 k_ hs_.symm)) (fun hn_ => (Nat.le_trans (below_size bqs) hn_)))) (below_size bqs)); replace HO_5 := fR HO_5 hb; replace HB := fB HB hb; clear hb ho0))))
   go_ret
   exact ⟨_, fe, vq HO538, bqs⟩
theorem rEnumber.calls (k : Nat) (a0 : ByteArray) (r : Int) (w : World) (h : rEnumber.f k a0 = some r) :
  Calls Tryz.prog 172 #[.string a0] w fun e w' => e = .returned (.int .i64 r) ∧ Drawn0 w w' := by
 have H := h
 clear h
 unfold rEnumber.f at H
 have H' := Z0.mk H
 clear H
 go_enter Tryz.func172, Tryz.ntmps172
 go_wp2
 go_loopg [3, 4] k (fun kq v3 v4 w' => ∃ (x3_1 : Int) (x4_1 : Int), v3 = .int .i64 x3_1 ∧ v4 = .int .i64 x4_1 ∧ Z0 (rEnumber.l0 kq a0 x3_1 x4_1 = some r) ∧ Z0 (kq ≤ k) ∧ Drawn0 w w')
 case atStart => exact ⟨(0), (0), fs, fs, H', ⟨Nat.le_refl _⟩, by repeat (first | exact Drawn0.refl _ | apply Drawn0.step)⟩
 case round =>
  clear H'
  try clear c1
  obtain ⟨x3_1, x4_1, rfl, rfl, HA, HK1, ⟨m1, rfl⟩⟩ := hrel
  cases gk with
  | zero => exact absurd HA.out (by simp [rEnumber.l0])
  | succ k1 =>
   have H := HA.out
   clear HA
   simp only [rEnumber.l0] at H
   rcases jd H with ⟨-, c2b0, H⟩ | ⟨-, c2b0, H⟩
   ·obtain ⟨-, c3b0, H⟩ := gd H
    rcases je H with ⟨-, c5b0, c5b1, H⟩ | ⟨c5, c5b0, c5b1, H⟩
    ·have H' := Z0.mk H
     clear H
     obtain ⟨hx4, p4, q4⟩ := btA a0 x4_1
     go_wp2
     go_roundg k1
     case measure => have := HK1.out; omega
     case rel => exact ⟨(x3_1), (wrap64 (x4_1 + 1)), fs, fs, H', ⟨by have := HK1.out; omega⟩, by repeat (first | exact Drawn0.refl _ | apply Drawn0.step)⟩
    have H' := Z0.mk H
    clear H
    obtain ⟨hx4, p4, q4⟩ := btA a0 x4_1
    obtain ⟨hx6, p6, q6⟩ := btA a0 x4_1
    go_wp2
    go_roundg k1
    case measure => have := HK1.out; omega
    case rel => exact ⟨(wrap64 ((wrap64 (x3_1 * 10)) + (((bt a0 x4_1) - 48) % 256))), (wrap64 (x4_1 + 1)), fs, fs, H', ⟨by have := HK1.out; omega⟩, by repeat (first | exact Drawn0.refl _ | apply Drawn0.step)⟩
   obtain ⟨t478, A7, H⟩ := bnd H
   by_cases c8 : t478 = true
   ·subst c8
    have H1 : (some (wrap64 (-x3_1))) = some r := by rw [if_pos rfl] at H; exact H
    clear H
    have H := H1
    clear H1
    obtain rfl := Option.some.inj H
    go_wp2_with (first | ((with_reducible refine gc_ 130 rfl ?_); refine goD (some 24) Tryz.func130 #[.string a0] (rENegative.calls a0 true _ A7.out) ?_; intro nd))
    go_ret
    exact finD
   replace c8 := Bool.eq_false_iff.mpr c8
   subst c8
   have H1 : (some x3_1) = some r := by rw [if_neg (show ¬ (false = true) by decide)] at H; exact H
   clear H
   have H := H1
   clear H1
   obtain rfl := Option.some.inj H
   go_wp2_with (first | ((with_reducible refine gc_ 130 rfl ?_); refine goD (some 24) Tryz.func130 #[.string a0] (rENegative.calls a0 false _ A7.out) ?_; intro nd))
   go_ret
   exact finD
theorem rEorder.calls (k : Nat) (A0 : Option Addr) (c0 : Nat) (l0 : List Int) (A1 : Option Addr) (c1 : Nat) (l1 : List Int) (r : Int) (w : World) (hr0 : Kd.C (Kd.int .i64) w A0 l0.length l0) (hc0 : l0.length ≤ c0) (hr1 : Kd.C (Kd.int .i64) w A1 l1.length l1) (hc1 : l1.length ≤ c1) (h : rEorder.f k l0 l1 = some r) :
  Calls Tryz.prog 164 #[.slice A0 l0.length c0, .slice A1 l1.length c1] w fun e w' => e = .returned (.int .i64 r) ∧ Drawn0 w w' := by
 have HR0 := Z0.mk hr0
 have HC0 := Z0.mk hc0
 clear hr0 hc0
 have HR1 := Z0.mk hr1
 have HC1 := Z0.mk hc1
 clear hr1 hc1
 have H := h
 clear h
 unfold rEorder.f at H
 rcases je H with ⟨c3, c3b0, c3b1, H⟩ | ⟨c3, c3b0, c3b1, H⟩
 ·have c3b2 : (l0.length == l1.length) = true := by first | simpa using c3 | (simp at c3 ⊢; omega)
  clear c3
  have H' := Z0.mk H
  clear H
  go_enter Tryz.func164, Tryz.ntmps164
  go_wp2
  repeat (go_quiet (fail); try go_wp2)
  go_loopg [5] k (fun kq v5 w' => ∃ (x5_1 : Int), v5 = .int .i64 x5_1 ∧ Z0 (rEorder.l0 kq l0 l1 x5_1 = some r) ∧ Z0 (kq ≤ k) ∧ Drawn0 w w')
  case atStart => exact ⟨(wrap64 ((l0.length : Int) - 1)), fs, H', ⟨Nat.le_refl _⟩, by repeat (first | exact Drawn0.refl _ | apply Drawn0.step)⟩
  case round =>
   clear H'
   try clear c1
   try clear p2
   try clear c3
   try clear c3b0
   try clear c3b1
   try clear c3b2
   obtain ⟨x5_1, rfl, HA, HK1, ⟨m1, rfl⟩⟩ := hrel
   cases gk with
   | zero => exact absurd HA.out (by simp [rEorder.l0])
   | succ k1 =>
    have H := HA.out
    clear HA
    simp only [rEorder.l0] at H
    rcases jh H with ⟨-, c4b0, H⟩ | ⟨-, c4b0, H⟩
    ·obtain ⟨-, c5b0, H⟩ := gd H
     obtain ⟨-, c6b0, H⟩ := gd H
     obtain ⟨-, c7b0, H⟩ := gd H
     rcases je H with ⟨-, c8b0, c8b1, H⟩ | ⟨c8, c8b0, c8b1, H⟩
     ·have H' := Z0.mk H
      clear H
      obtain ⟨ad447, e447, hx447_0, p447, q447⟩ := atI HR0.out x5_1
      cases e447
      obtain ⟨ad448, e448, hx448_0, p448, q448⟩ := atI HR1.out x5_1
      cases e448
      go_wp2
      repeat (go_quiet (fail); try go_wp2)
      go_roundg k1
      case measure => have := HK1.out; omega
      case rel => exact ⟨(wrap64 (x5_1 - 1)), fs, H', ⟨by have := HK1.out; omega⟩, by repeat (first | exact Drawn0.refl _ | apply Drawn0.step)⟩
     rcases jd H with ⟨-, c9b0, H⟩ | ⟨-, c9b0, H⟩
     ·obtain rfl := Option.some.inj H
      obtain ⟨ad447, e447, hx447_0, p447, q447⟩ := atI HR0.out x5_1
      cases e447
      obtain ⟨ad448, e448, hx448_0, p448, q448⟩ := atI HR1.out x5_1
      cases e448
      obtain ⟨ad449, e449, hx449_0, p449, q449⟩ := atI HR0.out x5_1
      obtain rfl : ad447 = ad449 := (by injection e449)
      obtain ⟨ad450, e450, hx450_0, p450, q450⟩ := atI HR1.out x5_1
      obtain rfl : ad448 = ad450 := (by injection e450)
      go_wp2
      repeat (go_quiet (fail); try go_wp2)
      go_ret
      exact finD
     obtain rfl := Option.some.inj H
     obtain ⟨ad447, e447, hx447_0, p447, q447⟩ := atI HR0.out x5_1
     cases e447
     obtain ⟨ad448, e448, hx448_0, p448, q448⟩ := atI HR1.out x5_1
     cases e448
     obtain ⟨ad449, e449, hx449_0, p449, q449⟩ := atI HR0.out x5_1
     obtain rfl : ad447 = ad449 := (by injection e449)
     obtain ⟨ad450, e450, hx450_0, p450, q450⟩ := atI HR1.out x5_1
     obtain rfl : ad448 = ad450 := (by injection e450)
     go_wp2
     repeat (go_quiet (fail); try go_wp2)
     go_ret
     exact finD
    obtain rfl := Option.some.inj H
    go_wp2
    repeat (go_quiet (fail); try go_wp2)
    go_ret
    exact finD
 have c3b2 : (l0.length == l1.length) = false := by first | simpa using c3 | (simp at c3 ⊢; omega)
 rcases jd H with ⟨c10, c10b0, H⟩ | ⟨c10, c10b0, H⟩
 ·have c10b1 : decide (l0.length < l1.length) = true := decide_eq_true (Int.ofNat_lt.mp c10)
  clear c10
  obtain rfl := Option.some.inj H
  go_enter Tryz.func164, Tryz.ntmps164
  go_wp2
  repeat (go_quiet (fail); try go_wp2)
  go_ret
  exact finD
 have c10b1 : decide (l0.length < l1.length) = false := decide_eq_false (fun h => c10 (Int.ofNat_lt.mpr h))
 clear c10
 obtain rfl := Option.some.inj H
 go_enter Tryz.func164, Tryz.ntmps164
 go_wp2
 repeat (go_quiet (fail); try go_wp2)
 go_ret
 exact finD
theorem rEplus.calls (k : Nat) (A0 : Option Addr) (c0 : Nat) (l0 : List Int) (A1 : Option Addr) (c1 : Nat) (l1 : List Int) (r : List Int) (w : World) (hr0 : Kd.C (Kd.int .i64) w A0 l0.length l0) (hc0 : l0.length ≤ c0) (hr1 : Kd.C (Kd.int .i64) w A1 l1.length l1) (hc1 : l1.length ≤ c1) (h : rEplus.f k l0 l1 = some r) :
  Calls Tryz.prog 194 #[.slice A0 l0.length c0, .slice A1 l1.length c1] w fun e w' => ∃ v0_ : Value, e = .returned (v0_) ∧ Kd.V (Kd.int .i64) 3 w' w.heap.size (fun k_ => (w.heap.size ≤ k_)) v0_ r ∧ Below w.heap.size w w' := by
 have HR0 := Z0.mk hr0
 have HC0 := Z0.mk hc0
 clear hr0 hc0
 have HR1 := Z0.mk hr1
 have HC1 := Z0.mk hc1
 clear hr1 hc1
 have HB := Z0.mk (Below.refl w.heap.size w)
 have H := h
 clear h
 unfold rEplus.f at H
 have H' := Z0.mk H
 clear H
 go_enter Tryz.func194, Tryz.ntmps194
 go_wp2
 go_loopg [5, 6, 7] k (fun kq v5 v6 v7 w' => ∃ (x5_1 : List Int) (x6_1 : Int) (x7_1 : Int), v6 = .int .i64 x6_1 ∧ v7 = .int .i64 x7_1 ∧ Z0 (rEplus.l0 kq l0 l1 x5_1 x6_1 x7_1 = some r) ∧ Z0 (kq ≤ k) ∧ Z0 (Kd.R (Kd.int .i64) 3 w' w.heap.size (fun k_ => (w.heap.size ≤ k_)) v5 x5_1) ∧ Z0 (Below w.heap.size w w'))
 case atStart => exact ⟨(([] : List Int)), (0), (0), fs, fs, H', ⟨Nat.le_refl _⟩, ⟨by first | exact Kd.R_nil _ _ _ _ _ | exact Kd.N_nil _ _ _ _ _ | exact Kd.V_nil _ _ _ _ _ | exact Kd.Q_nil _ _ _ _ _ | exact Kd.S_nil _ _ _ _ _⟩, ⟨bqs⟩⟩
 case round =>
  clear H'
  try clear c1
  try clear p2
  obtain ⟨x5_1, x6_1, x7_1, rfl, rfl, HA, HK1, HO_5, HB⟩ := hrel
  cases gk with
  | zero => exact absurd HA.out (by simp [rEplus.l0])
  | succ k1 =>
   have H := HA.out
   clear HA
   simp only [rEplus.l0] at H
   obtain ⟨ji3, hji3⟩ : ∃ j_ : Int, (mx (l0.length : Int) (l1.length : Int)) = j_ := ⟨_, rfl⟩
   replace H : (if x7_1 < (wrap64 ((ji3) + 1)) then ((rEat.f l0 x7_1).bind fun t520 => ((rEat.f l1 x7_1).bind fun t521 => (if x5_1.length < 17592186044416 then (rEplus.l0 k1 l0 l1 (x5_1 ++ [Int.tmod (wrap64 (x6_1 + (wrap64 (t520 + t521)))) 10]) (wrap64 (Int.tdiv (wrap64 (x6_1 + (wrap64 (t520 + t521)))) 10)) (wrap64 (x7_1 + 1))) else (none)))) else ((rEcut.f k1 x5_1).bind fun t525 => (some t525))) = some r := by first | (rw [hji3] at H; exact H) | (simp only [hji3] at H ⊢; exact H)
   have hji3_ : (if (l0.length : Int) < (l1.length : Int) then (l1.length : Int) else (l0.length : Int)) = ji3 := hji3
   have hji3n : (if l0.length < l1.length then (l1.length : Int) else (l0.length : Int)) = ji3 := by have h := hji3_; simp only [Int.ofNat_lt] at h; exact h
   rcases jd H with ⟨-, c4b0, H⟩ | ⟨-, c4b0, H⟩
   ·obtain ⟨t520, A5, H⟩ := bnd H
    obtain ⟨t521, A6, H⟩ := bnd H
    obtain ⟨c7, H⟩ := gn H
    have LMc7 := Z0.mk c7
    clear c7
    generalize hy522 : (x5_1 ++ [Int.tmod (wrap64 (x6_1 + (wrap64 (t520 + t521)))) 10] : List Int) = y522 at H
    have Ny522 := Z0.mk hy522.symm
    clear hy522
    have H' := Z0.mk H
    clear H
    go_wp2_with (first | ((with_reducible refine gc_ 217 rfl ?_); refine goesL_ (some 21) rfl rfl Tryz.func217 (by kernel_rfl) rfl #[.slice A0 l0.length c0, .int .i64 x7_1] rfl (by (try simp only [List.map_toArray, List.map_cons, List.map_nil]); first | done | rfl | (simp only [List.length_drop, List.length_take]; rfl)) ?_; (with_reducible refine (rEat.calls _ _ l0 x7_1 t520 _ ?side1 ?side2 A5.out).mono ?_); (case side1 => exact cq (Kd.C_below HR0.out HB.out)); (case side2 => exact HC0.out); rintro e w' ⟨rfl, ⟨nd, rfl⟩⟩; refine ⟨_, rfl, ?_⟩) | ((with_reducible refine gc_ 217 rfl ?_); refine goesL_ (some 24) rfl rfl Tryz.func217 (by kernel_rfl) rfl #[.slice A1 l1.length c1, .int .i64 x7_1] rfl (by (try simp only [List.map_toArray, List.map_cons, List.map_nil]); first | done | rfl | (simp only [List.length_drop, List.length_take]; rfl)) ?_; (with_reducible refine (rEat.calls _ _ l1 x7_1 t521 _ ?side1 ?side2 A6.out).mono ?_); (case side1 => exact cq (Kd.C_below HR1.out bqs)); (case side2 => exact HC1.out); rintro e w' ⟨rfl, ⟨nd, rfl⟩⟩; refine ⟨_, rfl, ?_⟩) | ((with_reducible refine gate_builtin (b := .append) (xs := #[.tmp 27, .tmp 30]) rfl ?_); at_builtin; refine Kd.R_append (Kd.int .i64) (w0 := w) w.heap.size rfl (.tmp 27) (.tmp 30) 35 3 (.int .i64 0) 8 rfl Tryz.underlying35 info3 rfl (by decide) (by omega) u5 x5_1 (Int.tmod (wrap64 (x6_1 + (wrap64 (t520 + t521)))) 10) [.int .i64 (Int.tmod (wrap64 (x6_1 + (wrap64 (t520 + t521)))) 10)] (fun k_ => (w.heap.size ≤ k_)) (fun _ => False) rfl rfl ?aP (fun _ hk => hk.elim) ?aF ?aO ?aB ?aS ?aL ?_; (case aP => exact rfl); (case aB => exact bqs); (case aF => exact (fun k_ hk => (Nat.le_trans (below_size bqs) hk))); (case aO => exact (rq HO_5)); (case aS => exact (below_size bqs)); (case aL => have := LMc7.out; omega); intro v523 w8 ho hb hg hat; rw [← Ny522.out] at ho; have HO524 := Z0.mk (ho); replace HB := Z0.mk (hb); clear HO_5; clear ho hb hg hat))
    go_roundg k1
    case measure => have := HK1.out; omega
    case rel => exact ⟨(y522), (wrap64 (Int.tdiv (wrap64 (x6_1 + (wrap64 (t520 + t521)))) 10)), (wrap64 (x7_1 + 1)), fs, fs, H', ⟨by have := HK1.out; omega⟩, ⟨rq HO524⟩, ⟨bqs⟩⟩
   obtain ⟨t525, A9, H⟩ := bnd H
   obtain rfl := Option.some.inj H
   obtain ⟨Ao10, co10, eo10⟩ := Kd.R_slice HO_5.out
   subst eo10
   go_wp2_with (first | ((with_reducible refine gc_ 165 rfl ?_); refine gL 35 Tryz.func165 (rEcut.calls k1 (fun k_ => some k_ = (.slice Ao10 x5_1.length co10 : Value).ownBlock) _ _ x5_1 t525 _ ?side1 A9.out) ?_; (case side1 => exact Kd.R_V (Kd.R_tight rfl (HO_5.out))); rintro _ w11 ⟨v526, rfl, ho0, hb⟩; refine ⟨_, rfl, ?_⟩; have HO527 := Z0.mk (Kd.V_lower (Kd.V_mono (ok' := fun k_ => (w.heap.size ≤ k_)) ho0 (fun k_ hk_ => Or.elim hk_ (fun hs_ => ((HO_5.out).1 k_ hs_.symm)) (fun hn_ => (Nat.le_trans (below_size bqs) hn_)))) (below_size bqs)); replace HO_5 := fR HO_5 hb; replace HB := fB HB hb; clear hb ho0))
   go_ret
   exact ⟨_, by first | rfl | (simp [errW_none, errW_some] <;> rfl) | (simp only [← hji3]; first | rfl | (simp [errW_none, errW_some] <;> rfl)) | (simp [*, errW_none, errW_some] <;> rfl), vq HO527, bqs⟩
theorem rEDigits.calls (a0 : ByteArray) (r : Int) (w : World) (h : rEDigits.f a0 = some r) :
  Calls Tryz.prog 90 #[.string a0] w fun e w' => e = .returned (.int .i64 r) ∧ Drawn0 w w' := by
 have H := h
 clear h
 unfold rEDigits.f at H
 obtain ⟨t438, A2, H⟩ := bnd H
 by_cases c3 : t438 = true
 ·subst c3
  have H1 : (some (wrap64 ((a0.size : Int) - 1))) = some r := by rw [if_pos rfl] at H; exact H
  clear H
  have H := H1
  clear H1
  obtain rfl := Option.some.inj H
  go_enter Tryz.func90, Tryz.ntmps90
  go_wp2_with (first | ((with_reducible refine gc_ 130 rfl ?_); refine goD (some 4) Tryz.func130 #[.string a0] (rENegative.calls a0 true _ A2.out) ?_; intro nd))
  go_ret
  exact finD
 replace c3 := Bool.eq_false_iff.mpr c3
 subst c3
 have H1 : (some (a0.size : Int)) = some r := by rw [if_neg (show ¬ (false = true) by decide)] at H; exact H
 clear H
 have H := H1
 clear H1
 obtain rfl := Option.some.inj H
 go_enter Tryz.func90, Tryz.ntmps90
 go_wp2_with (first | ((with_reducible refine gc_ 130 rfl ?_); refine goD (some 4) Tryz.func130 #[.string a0] (rENegative.calls a0 false _ A2.out) ?_; intro nd))
 go_ret
 exact finD
theorem rEshort.calls (a0 : ByteArray) (a1 : Int) (r : Bool) (w : World) (h : rEshort.f a0 a1 = some r) :
  Calls Tryz.prog 169 #[.string a0, .int .i64 a1] w fun e w' => e = .returned (.bool r) ∧ Drawn0 w w' := by
 have H := h
 clear h
 unfold rEshort.f at H
 obtain ⟨t518, A3, H⟩ := bnd H
 obtain rfl := Option.some.inj H
 go_enter Tryz.func169, Tryz.ntmps169
 go_wp2_with (first | ((with_reducible refine gc_ 90 rfl ?_); refine goD (some 6) Tryz.func90 #[.string a0] (rEDigits.calls a0 t518 _ A3.out) ?_; intro nd))
 go_ret
 exact finD
theorem rESum.calls (k : Nat) (a0 : ByteArray) (a1 : ByteArray) (r : ByteArray) (w : World) (h : rESum.f k a0 a1 = some r) :
  Calls Tryz.prog 151 #[.string a0, .string a1] w fun e w' => e = .returned (.string r) ∧ Below w.heap.size w w' := by
 have HB := Z0.mk (Below.refl w.heap.size w)
 have H := h
 clear h
 unfold rESum.f at H
 have HC3 := Z0.mk H
 clear H
 go_enter Tryz.func151, Tryz.ntmps151
 go_upto_region 1 with (fail)
 go_cut [12] (fun v12 wc => ∃ (kq : Nat) (x12_2 : Bool), v12 = .bool x12_2 ∧ Z0 (rESum.j0 kq a0 a1 x12_2 = some r) ∧ Z0 (kq ≤ k) ∧ Z0 (Below w.heap.size w wc))
 case first =>
  have H := HC3.out
  clear HC3
  obtain ⟨t539, A4, H⟩ := bnd H
  by_cases c5 : t539 = true
  ·subst c5
   have H1 : ((rEshort.f a1 17).bind fun t540 => (rESum.j0 k a0 a1 t540)) = some r := by rw [if_pos rfl] at H; exact H
   clear H
   have H := H1
   clear H1
   obtain ⟨t540, A6, H⟩ := bnd H
   have H' := Z0.mk H
   clear H
   go_wp2_with (first | ((with_reducible refine gc_ 169 rfl ?_); refine goD (some 8) Tryz.func169 #[.string a0, .int .i64 17] (rEshort.calls a0 17 true _ A4.out) ?_; intro nd) | (go_at_call 169; (with_reducible refine (rEshort.calls a1 17 t540 _ A6.out).mono ?_); rintro e w' ⟨rfl, ⟨nd, rfl⟩⟩))
   go_meet
   case rel => exact ⟨_, (t540), fs, H', ⟨by first | omega | exact Nat.le_refl _⟩, ⟨bqs⟩⟩
  replace c5 := Bool.eq_false_iff.mpr c5
  subst c5
  have H1 : (rESum.j0 k a0 a1 false) = some r := by rw [if_neg (show ¬ (false = true) by decide)] at H; exact H
  clear H
  have H := H1
  clear H1
  have H' := Z0.mk H
  clear H
  go_wp2_with (first | ((with_reducible refine gc_ 169 rfl ?_); refine goD (some 8) Tryz.func169 #[.string a0, .int .i64 17] (rEshort.calls a0 17 false _ A4.out) ?_; intro nd))
  go_meet
  case rel => exact ⟨_, (false), fs, H', ⟨by first | omega | exact Nat.le_refl _⟩, ⟨bqs⟩⟩
 case rest =>
  clear HC3
  try clear c1
  try clear p2
  try clear c5
  obtain ⟨kq, x12_2, rfl, HA, HJ2, HB⟩ := hcut
  cases kq with
  | zero => exact absurd HA.out (by simp [rESum.j0])
  | succ kj2 =>
   have H := HA.out
   clear HA
   simp only [rESum.j0] at H
   by_cases c7 : x12_2 = true
   ·subst c7
    have H1 : ((rEnumber.f kj2 a0).bind fun t541 => ((rEnumber.f kj2 a1).bind fun t542 => ((rEWhole.f kj2 (wrap64 (t541 + t542))).bind fun t543 => (some t543)))) = some r := by rw [if_pos rfl] at H; exact H
    clear H
    have H := H1
    clear H1
    obtain ⟨t541, A8, H⟩ := bnd H
    obtain ⟨t542, A9, H⟩ := bnd H
    obtain ⟨t543, A10, H⟩ := bnd H
    obtain rfl := Option.some.inj H
    go_wp2_with (first | ((with_reducible refine gc_ 172 rfl ?_); refine goD (some 14) Tryz.func172 #[.string a0] (rEnumber.calls kj2 a0 t541 _ A8.out) ?_; intro nd) | ((with_reducible refine gc_ 172 rfl ?_); refine goD (some 16) Tryz.func172 #[.string a1] (rEnumber.calls kj2 a1 t542 _ A9.out) ?_; intro nd) | ((with_reducible refine gc_ 170 rfl ?_); refine goB (some 18) Tryz.func170 #[.int .i64 (wrap64 (t541 + t542))] bq (rEWhole.calls kj2 (wrap64 (t541 + t542)) t543 _ A10.out) ?_; clear HB; intro w11 HB))
    go_ret
    exact finE
   replace c7 := Bool.eq_false_iff.mpr c7
   subst c7
   have H1 : ((rEdigits.f kj2 a0).bind fun t544 => ((rEdigits.f kj2 a1).bind fun t547 => ((rENegative.f a0).bind fun t550 => ((rENegative.f a1).bind fun t551 => (if (t550 == t551) = true then ((rEplus.f kj2 t544 t547).bind fun t552 => ((rENegative.f a0).bind fun t555 => ((rEmade.f kj2 t552 t555).bind fun t556 => (some t556)))) else ((rEcut.f kj2 t544).bind fun t557 => ((rEcut.f kj2 t547).bind fun t560 => ((rEorder.f kj2 t557 t560).bind fun t563 => (if t563 ≥ 0 then ((rEminus.f kj2 t544 t547).bind fun t564 => ((rENegative.f a0).bind fun t567 => ((rEmade.f kj2 t564 t567).bind fun t568 => (some t568)))) else ((rEminus.f kj2 t547 t544).bind fun t569 => ((rENegative.f a1).bind fun t572 => ((rEmade.f kj2 t569 t572).bind fun t573 => (some t573))))))))))))) = some r := by rw [if_neg (show ¬ (false = true) by decide)] at H; exact H
   clear H
   have H := H1
   clear H1
   obtain ⟨t544, A12, H⟩ := bnd H
   obtain ⟨t547, A13, H⟩ := bnd H
   obtain ⟨t550, A14, H⟩ := bnd H
   obtain ⟨t551, A15, H⟩ := bnd H
   rcases jn H with ⟨c16, H⟩ | ⟨c16, H⟩
   ·have c16b0 : (t550 == t551) = true := c16
    (try (have c16b1 : decide (t550 = t551) = true := by simpa using c16))
    (try (have c16b2 : (t550 == t551) = true := by simpa using c16))
    clear c16
    obtain ⟨t552, A17, H⟩ := bnd H
    obtain ⟨t555, A18, H⟩ := bnd H
    obtain ⟨t556, A19, H⟩ := bnd H
    obtain rfl := Option.some.inj H
    go_wp2_with (first | ((with_reducible refine gc_ 166 rfl ?_); refine gL 20 Tryz.func166 (rEdigits.calls _ _ _ _ A12.out) ?_; rintro _ w20 ⟨v545, rfl, ho0, hb⟩; refine ⟨_, rfl, ?_⟩; have HO546 := fN ho0; replace HB := fB HB hb; clear hb ho0) | ((with_reducible refine gc_ 166 rfl ?_); refine gL 22 Tryz.func166 (rEdigits.calls _ _ _ _ A13.out) ?_; rintro _ w21 ⟨v548, rfl, ho0, hb⟩; refine ⟨_, rfl, ?_⟩; have HO549 := Z0.mk (Kd.R_lower (Kd.R_new' ho0 (Kd.R_lt (rq HO546))) (below_size bqs)); replace HO546 := Z0.mk (Kd.R_elder' (rq HO546) (Kd.R_base ho0) hb); replace HB := fB HB hb; clear hb ho0) | ((with_reducible refine gc_ 130 rfl ?_); refine goD (some 24) Tryz.func130 #[.string a0] (rENegative.calls a0 t550 _ A14.out) ?_; intro nd) | ((with_reducible refine gc_ 130 rfl ?_); refine gL 26 Tryz.func130 (rENegative.calls _ _ _ A15.out) ?_; rintro _ w' ⟨rfl, ⟨nd, rfl⟩⟩; refine ⟨_, rfl, ?_⟩; obtain ⟨Ao22, co22, eo22⟩ := Kd.R_slice HO546.out; subst eo22; obtain ⟨Ao23, co23, eo23⟩ := Kd.R_slice HO549.out; subst eo23) | ((with_reducible refine gc_ 194 rfl ?_); refine gL 30 Tryz.func194 (rEplus.calls kj2 _ _ t544 _ _ t547 t552 _ ?side1 ?side2 ?side3 ?side4 A17.out) ?_; (case side1 => exact cq (Kd.R_reads' HO546.out).2.2); (case side2 => exact (Kd.R_reads' HO546.out).2.1); (case side3 => exact cq (Kd.R_reads' HO549.out).2.2); (case side4 => exact (Kd.R_reads' HO549.out).2.1); rintro _ w24 ⟨v553, rfl, ho0, hb⟩; refine ⟨_, rfl, ?_⟩; have HO554 := Z0.mk (Kd.V_lower (Kd.V_mono (ok' := fun k_ => some k_ ≠ (.slice Ao22 t544.length co22 : Value).ownBlock ∧ some k_ ≠ (.slice Ao23 t547.length co23 : Value).ownBlock) ho0 (fun k_ hk_ => ⟨(Kd.fresh' (Kd.R_lt (rq HO546)) k_ hk_), (Kd.fresh' (Kd.R_lt (rq HO549)) k_ hk_)⟩)) (below_size bqs)); replace HO546 := fR HO546 hb; replace HO549 := fR HO549 hb; replace HB := fB HB hb; clear hb ho0) | ((with_reducible refine gc_ 130 rfl ?_); refine gL 32 Tryz.func130 (rENegative.calls _ _ _ A18.out) ?_; rintro _ w' ⟨rfl, ⟨nd, rfl⟩⟩; refine ⟨_, rfl, ?_⟩; obtain ⟨Ao25, co25, eo25⟩ := Kd.V_slice HO554.out; subst eo25) | ((with_reducible refine gc_ 174 rfl ?_); refine gL 33 Tryz.func174 (rEmade.calls kj2 _ _ t552 t555 t556 _ ?side1 ?side2 A19.out) ?_; (case side1 => exact cq (Kd.V_reads' HO554.out).2.2); (case side2 => exact (Kd.V_reads' HO554.out).2.1); rintro _ w26 ⟨rfl, hb⟩; refine ⟨_, rfl, ?_⟩; replace HO546 := fR HO546 hb; replace HO549 := fR HO549 hb; replace HO554 := fV HO554 hb; replace HB := fB HB hb; clear hb))
    go_ret
    exact finE
   have c16b0 : (t550 == t551) = false := by simpa using c16
   (try (have c16b1 : decide (t550 = t551) = false := by simpa using c16))
   (try (have c16b2 : (t550 == t551) = false := by simpa using c16))
   (try (have c16b3 : ¬ (t550 = t551) := by simpa using c16))
   clear c16
   obtain ⟨t557, A27, H⟩ := bnd H
   obtain ⟨t560, A28, H⟩ := bnd H
   obtain ⟨t563, A29, H⟩ := bnd H
   rcases jh H with ⟨-, c30b0, H⟩ | ⟨-, c30b0, H⟩
   ·obtain ⟨t564, A31, H⟩ := bnd H
    obtain ⟨t567, A32, H⟩ := bnd H
    obtain ⟨t568, A33, H⟩ := bnd H
    obtain rfl := Option.some.inj H
    go_wp2_with (first | ((with_reducible refine gc_ 166 rfl ?_); refine gL 20 Tryz.func166 (rEdigits.calls _ _ _ _ A12.out) ?_; rintro _ w34 ⟨v545, rfl, ho0, hb⟩; refine ⟨_, rfl, ?_⟩; have HO546 := fN ho0; replace HB := fB HB hb; clear hb ho0) | ((with_reducible refine gc_ 166 rfl ?_); refine gL 22 Tryz.func166 (rEdigits.calls _ _ _ _ A13.out) ?_; rintro _ w35 ⟨v548, rfl, ho0, hb⟩; refine ⟨_, rfl, ?_⟩; have HO549 := Z0.mk (Kd.R_lower (Kd.R_new' ho0 (Kd.R_lt (rq HO546))) (below_size bqs)); replace HO546 := Z0.mk (Kd.R_elder' (rq HO546) (Kd.R_base ho0) hb); replace HB := fB HB hb; clear hb ho0) | ((with_reducible refine gc_ 130 rfl ?_); refine goD (some 24) Tryz.func130 #[.string a0] (rENegative.calls a0 t550 _ A14.out) ?_; intro nd) | ((with_reducible refine gc_ 130 rfl ?_); refine gL 26 Tryz.func130 (rENegative.calls _ _ _ A15.out) ?_; rintro _ w' ⟨rfl, ⟨nd, rfl⟩⟩; refine ⟨_, rfl, ?_⟩; obtain ⟨Ao36, co36, eo36⟩ := Kd.R_slice HO546.out; subst eo36) | ((with_reducible refine gc_ 165 rfl ?_); refine gL 35 Tryz.func165 (rEcut.calls kj2 (fun k_ => some k_ = (.slice Ao36 t544.length co36 : Value).ownBlock) _ _ t544 t557 _ ?side1 A27.out) ?_; (case side1 => exact Kd.R_V (Kd.R_tight rfl (HO546.out))); rintro _ w37 ⟨v558, rfl, ho0, hb⟩; refine ⟨_, rfl, ?_⟩; have HO559 := Z0.mk (Kd.V_lower (Kd.V_mono (ok' := fun k_ => some k_ ≠ (v548 : Value).ownBlock) ho0 (fun k_ hk_ => Or.elim hk_ (fun hs_ => ((HO546.out).1 k_ hs_.symm).2) (fun hn_ => (Kd.fresh' (Kd.R_lt (rq HO549)) k_ hn_)))) (below_size bqs)); replace HO546 := fR HO546 hb; replace HO549 := fR HO549 hb; replace HB := fB HB hb; clear hb ho0; obtain ⟨Ao38, co38, eo38⟩ := Kd.R_slice HO549.out; subst eo38) | ((with_reducible refine gc_ 165 rfl ?_); refine gL 37 Tryz.func165 (rEcut.calls kj2 (fun k_ => some k_ = (.slice Ao38 t547.length co38 : Value).ownBlock) _ _ t547 t560 _ ?side1 A28.out) ?_; (case side1 => exact Kd.R_V (Kd.R_tight rfl (HO549.out))); rintro _ w39 ⟨v561, rfl, ho0, hb⟩; refine ⟨_, rfl, ?_⟩; have HO562 := Z0.mk (Kd.V_lower (Kd.V_mono (ok' := fun k_ => some k_ ≠ (.slice Ao36 t544.length co36 : Value).ownBlock) ho0 (fun k_ hk_ => Or.elim hk_ (fun hs_ => ((HO549.out).1 k_ hs_.symm).2) (fun hn_ => (Kd.fresh' (Kd.R_lt (rq HO546)) k_ hn_)))) (below_size bqs)); replace HO546 := fR HO546 hb; replace HO549 := fR HO549 hb; replace HO559 := fV HO559 hb; replace HB := fB HB hb; clear hb ho0; obtain ⟨Ao40, co40, eo40⟩ := Kd.V_slice HO559.out; subst eo40; obtain ⟨Ao41, co41, eo41⟩ := Kd.V_slice HO562.out; subst eo41) | ((with_reducible refine gc_ 164 rfl ?_); refine goesL_ (some 38) rfl rfl Tryz.func164 (by kernel_rfl) rfl #[.slice Ao40 t557.length co40, .slice Ao41 t560.length co41] rfl (by (try simp only [List.map_toArray, List.map_cons, List.map_nil]); first | done | rfl | (simp only [List.length_drop, List.length_take]; rfl)) ?_; (with_reducible refine (rEorder.calls kj2 _ _ t557 _ _ t560 t563 _ ?side1 ?side2 ?side3 ?side4 A29.out).mono ?_); (case side1 => exact cq (Kd.V_reads' HO559.out).2.2); (case side2 => exact (Kd.V_reads' HO559.out).2.1); (case side3 => exact cq (Kd.V_reads' HO562.out).2.2); (case side4 => exact (Kd.V_reads' HO562.out).2.1); rintro e w' ⟨rfl, ⟨nd, rfl⟩⟩; refine ⟨_, rfl, ?_⟩) | ((with_reducible refine gc_ 195 rfl ?_); refine gL 42 Tryz.func195 (rEminus.calls kj2 _ _ t544 _ _ t547 t564 _ ?side1 ?side2 ?side3 ?side4 A31.out) ?_; (case side1 => exact cq (Kd.R_reads' HO546.out).2.2); (case side2 => exact (Kd.R_reads' HO546.out).2.1); (case side3 => exact cq (Kd.R_reads' HO549.out).2.2); (case side4 => exact (Kd.R_reads' HO549.out).2.1); rintro _ w42 ⟨v565, rfl, ho0, hb⟩; refine ⟨_, rfl, ?_⟩; have HO566 := Z0.mk (Kd.V_lower (Kd.V_mono (ok' := fun k_ => some k_ ≠ (.slice Ao36 t544.length co36 : Value).ownBlock ∧ some k_ ≠ (.slice Ao38 t547.length co38 : Value).ownBlock) ho0 (fun k_ hk_ => ⟨(Kd.fresh' (Kd.R_lt (rq HO546)) k_ hk_), (Kd.fresh' (Kd.R_lt (rq HO549)) k_ hk_)⟩)) (below_size bqs)); replace HO546 := fR HO546 hb; replace HO549 := fR HO549 hb; replace HO559 := fV HO559 hb; replace HO562 := fV HO562 hb; replace HB := fB HB hb; clear hb ho0) | ((with_reducible refine gc_ 130 rfl ?_); refine gL 44 Tryz.func130 (rENegative.calls _ _ _ A32.out) ?_; rintro _ w' ⟨rfl, ⟨nd, rfl⟩⟩; refine ⟨_, rfl, ?_⟩; obtain ⟨Ao43, co43, eo43⟩ := Kd.V_slice HO566.out; subst eo43) | ((with_reducible refine gc_ 174 rfl ?_); refine gL 45 Tryz.func174 (rEmade.calls kj2 _ _ t564 t567 t568 _ ?side1 ?side2 A33.out) ?_; (case side1 => exact cq (Kd.V_reads' HO566.out).2.2); (case side2 => exact (Kd.V_reads' HO566.out).2.1); rintro _ w44 ⟨rfl, hb⟩; refine ⟨_, rfl, ?_⟩; replace HO546 := fR HO546 hb; replace HO549 := fR HO549 hb; replace HO559 := fV HO559 hb; replace HO562 := fV HO562 hb; replace HO566 := fV HO566 hb; replace HB := fB HB hb; clear hb))
    go_ret
    exact finE
   obtain ⟨t569, A45, H⟩ := bnd H
   obtain ⟨t572, A46, H⟩ := bnd H
   obtain ⟨t573, A47, H⟩ := bnd H
   obtain rfl := Option.some.inj H
   go_wp2_with (first | ((with_reducible refine gc_ 166 rfl ?_); refine gL 20 Tryz.func166 (rEdigits.calls _ _ _ _ A12.out) ?_; rintro _ w48 ⟨v545, rfl, ho0, hb⟩; refine ⟨_, rfl, ?_⟩; have HO546 := fN ho0; replace HB := fB HB hb; clear hb ho0) | ((with_reducible refine gc_ 166 rfl ?_); refine gL 22 Tryz.func166 (rEdigits.calls _ _ _ _ A13.out) ?_; rintro _ w49 ⟨v548, rfl, ho0, hb⟩; refine ⟨_, rfl, ?_⟩; have HO549 := Z0.mk (Kd.R_lower (Kd.R_new' ho0 (Kd.R_lt (rq HO546))) (below_size bqs)); replace HO546 := Z0.mk (Kd.R_elder' (rq HO546) (Kd.R_base ho0) hb); replace HB := fB HB hb; clear hb ho0) | ((with_reducible refine gc_ 130 rfl ?_); refine goD (some 24) Tryz.func130 #[.string a0] (rENegative.calls a0 t550 _ A14.out) ?_; intro nd) | ((with_reducible refine gc_ 130 rfl ?_); refine gL 26 Tryz.func130 (rENegative.calls _ _ _ A15.out) ?_; rintro _ w' ⟨rfl, ⟨nd, rfl⟩⟩; refine ⟨_, rfl, ?_⟩; obtain ⟨Ao50, co50, eo50⟩ := Kd.R_slice HO546.out; subst eo50) | ((with_reducible refine gc_ 165 rfl ?_); refine gL 35 Tryz.func165 (rEcut.calls kj2 (fun k_ => some k_ = (.slice Ao50 t544.length co50 : Value).ownBlock) _ _ t544 t557 _ ?side1 A27.out) ?_; (case side1 => exact Kd.R_V (Kd.R_tight rfl (HO546.out))); rintro _ w51 ⟨v558, rfl, ho0, hb⟩; refine ⟨_, rfl, ?_⟩; have HO559 := Z0.mk (Kd.V_lower (Kd.V_mono (ok' := fun k_ => some k_ ≠ (v548 : Value).ownBlock) ho0 (fun k_ hk_ => Or.elim hk_ (fun hs_ => ((HO546.out).1 k_ hs_.symm).2) (fun hn_ => (Kd.fresh' (Kd.R_lt (rq HO549)) k_ hn_)))) (below_size bqs)); replace HO546 := fR HO546 hb; replace HO549 := fR HO549 hb; replace HB := fB HB hb; clear hb ho0; obtain ⟨Ao52, co52, eo52⟩ := Kd.R_slice HO549.out; subst eo52) | ((with_reducible refine gc_ 165 rfl ?_); refine gL 37 Tryz.func165 (rEcut.calls kj2 (fun k_ => some k_ = (.slice Ao52 t547.length co52 : Value).ownBlock) _ _ t547 t560 _ ?side1 A28.out) ?_; (case side1 => exact Kd.R_V (Kd.R_tight rfl (HO549.out))); rintro _ w53 ⟨v561, rfl, ho0, hb⟩; refine ⟨_, rfl, ?_⟩; have HO562 := Z0.mk (Kd.V_lower (Kd.V_mono (ok' := fun k_ => some k_ ≠ (.slice Ao50 t544.length co50 : Value).ownBlock) ho0 (fun k_ hk_ => Or.elim hk_ (fun hs_ => ((HO549.out).1 k_ hs_.symm).2) (fun hn_ => (Kd.fresh' (Kd.R_lt (rq HO546)) k_ hn_)))) (below_size bqs)); replace HO546 := fR HO546 hb; replace HO549 := fR HO549 hb; replace HO559 := fV HO559 hb; replace HB := fB HB hb; clear hb ho0; obtain ⟨Ao54, co54, eo54⟩ := Kd.V_slice HO559.out; subst eo54; obtain ⟨Ao55, co55, eo55⟩ := Kd.V_slice HO562.out; subst eo55) | ((with_reducible refine gc_ 164 rfl ?_); refine goesL_ (some 38) rfl rfl Tryz.func164 (by kernel_rfl) rfl #[.slice Ao54 t557.length co54, .slice Ao55 t560.length co55] rfl (by (try simp only [List.map_toArray, List.map_cons, List.map_nil]); first | done | rfl | (simp only [List.length_drop, List.length_take]; rfl)) ?_; (with_reducible refine (rEorder.calls kj2 _ _ t557 _ _ t560 t563 _ ?side1 ?side2 ?side3 ?side4 A29.out).mono ?_); (case side1 => exact cq (Kd.V_reads' HO559.out).2.2); (case side2 => exact (Kd.V_reads' HO559.out).2.1); (case side3 => exact cq (Kd.V_reads' HO562.out).2.2); (case side4 => exact (Kd.V_reads' HO562.out).2.1); rintro e w' ⟨rfl, ⟨nd, rfl⟩⟩; refine ⟨_, rfl, ?_⟩) | ((with_reducible refine gc_ 195 rfl ?_); refine gL 48 Tryz.func195 (rEminus.calls kj2 _ _ t547 _ _ t544 t569 _ ?side1 ?side2 ?side3 ?side4 A45.out) ?_; (case side1 => exact cq (Kd.R_reads' HO549.out).2.2); (case side2 => exact (Kd.R_reads' HO549.out).2.1); (case side3 => exact cq (Kd.R_reads' HO546.out).2.2); (case side4 => exact (Kd.R_reads' HO546.out).2.1); rintro _ w56 ⟨v570, rfl, ho0, hb⟩; refine ⟨_, rfl, ?_⟩; have HO571 := Z0.mk (Kd.V_lower (Kd.V_mono (ok' := fun k_ => some k_ ≠ (.slice Ao50 t544.length co50 : Value).ownBlock ∧ some k_ ≠ (.slice Ao52 t547.length co52 : Value).ownBlock) ho0 (fun k_ hk_ => ⟨(Kd.fresh' (Kd.R_lt (rq HO546)) k_ hk_), (Kd.fresh' (Kd.R_lt (rq HO549)) k_ hk_)⟩)) (below_size bqs)); replace HO546 := fR HO546 hb; replace HO549 := fR HO549 hb; replace HO559 := fV HO559 hb; replace HO562 := fV HO562 hb; replace HB := fB HB hb; clear hb ho0) | ((with_reducible refine gc_ 130 rfl ?_); refine gL 50 Tryz.func130 (rENegative.calls _ _ _ A46.out) ?_; rintro _ w' ⟨rfl, ⟨nd, rfl⟩⟩; refine ⟨_, rfl, ?_⟩; obtain ⟨Ao57, co57, eo57⟩ := Kd.V_slice HO571.out; subst eo57) | ((with_reducible refine gc_ 174 rfl ?_); refine gL 51 Tryz.func174 (rEmade.calls kj2 _ _ t569 t572 t573 _ ?side1 ?side2 A47.out) ?_; (case side1 => exact cq (Kd.V_reads' HO571.out).2.2); (case side2 => exact (Kd.V_reads' HO571.out).2.1); rintro _ w58 ⟨rfl, hb⟩; refine ⟨_, rfl, ?_⟩; replace HO546 := fR HO546 hb; replace HO549 := fR HO549 hb; replace HO559 := fV HO559 hb; replace HO562 := fV HO562 hb; replace HO571 := fV HO571 hb; replace HB := fB HB hb; clear hb))
   go_ret
   exact finE
theorem rEtimes.calls (k : Nat) (A0 : Option Addr) (c0 : Nat) (l0 : List Int) (A1 : Option Addr) (c1 : Nat) (l1 : List Int) (r : List Int) (w : World) (hr0 : Kd.C (Kd.int .i64) w A0 l0.length l0) (hc0 : l0.length ≤ c0) (hr1 : Kd.C (Kd.int .i64) w A1 l1.length l1) (hc1 : l1.length ≤ c1) (h : rEtimes.f k l0 l1 = some r) :
  Calls Tryz.prog 176 #[.slice A0 l0.length c0, .slice A1 l1.length c1] w fun e w' => ∃ v0_ : Value, e = .returned (v0_) ∧ Kd.V (Kd.int .i64) 3 w' w.heap.size (fun k_ => (w.heap.size ≤ k_)) v0_ r ∧ Below w.heap.size w w' := by
 have HR0 := Z0.mk hr0
 have HC0 := Z0.mk hc0
 clear hr0 hc0
 have HR1 := Z0.mk hr1
 have HC1 := Z0.mk hc1
 clear hr1 hc1
 have HB := Z0.mk (Below.refl w.heap.size w)
 have H := h
 clear h
 unfold rEtimes.f at H
 obtain ⟨ji3, hji3⟩ : ∃ j_ : Int, (wrap64 ((l0.length : Int) + (l1.length : Int))) = j_ := ⟨_, rfl⟩
 replace H : (if 0 ≤ (ji3) then (if (ji3 : Int).toNat ≤ 35184372088832 then (rEtimes.l0 k l0 l1 (List.replicate (ji3 : Int).toNat 0) 0) else (none)) else (none)) = some r := by first | (rw [hji3] at H; exact H) | (simp only [hji3] at H ⊢; exact H)
 have hji3w : (IntKind.i64.wrap ((l0.length : Int) + (l1.length : Int))) = ji3 := (i64_w _).trans hji3
 obtain ⟨-, c4b0, c4b1, H⟩ := gt H
 obtain ⟨-, c5b0, c5b1, H⟩ := gt H
 generalize hy489 : (List.replicate (ji3 : Int).toNat 0 : List Int) = y489 at H
 have Ny489 := Z0.mk hy489.symm
 clear hy489
 have H' := Z0.mk H
 clear H
 go_enter Tryz.func176, Tryz.ntmps176
 go_wp2_with (first | ((with_reducible refine gd_ 14 rfl ?_); refine Kd.R_make (Kd.int .i64) _ 3 rfl (N := 14) rfl 35 _ _ rfl ji3 rfl rfl Tryz.underlying35 (.int .i64 0) 8 info3 rfl (by decide) (by omega) 0 (ok := fun _ => True) (okp := fun _ => True) rfl (fun _ hk => hk) trivial od (Nat.le_trans (Nat.mul_le_mul_right _ (od : ji3.toNat ≤ 35184372088832)) (by omega)) (Below.refl _ _) (Nat.le_refl _) ?_; intro v490 w6 ho7 hb hg_ hnew_; clear hg_ hnew_; (first | rw [← Ny489.out] at ho7 | (simp only [Int.reduceToNat] at ho7; rw [← Ny489.out] at ho7)); have HO491 := Z0.mk (Kd.R_lower (Kd.R_newM (M := fun k_ => (w.heap.size ≤ k_)) ho7 (below_size bqs) (fun k_ h_ => h_)) (below_size bqs)); replace HB := fB HB hb; clear hb ho7) | (go_quiet (fail)))
 go_loopg [6] k (fun kq v6 w' => ∃ (x5_1 : List Int) (x6_1 : Int), v6 = .int .i64 x6_1 ∧ Z0 (rEtimes.l0 kq l0 l1 x5_1 x6_1 = some r) ∧ Z0 (kq ≤ k) ∧ Z0 (Kd.R (Kd.int .i64) 3 w' w.heap.size (fun k_ => (w.heap.size ≤ k_)) v490 x5_1) ∧ Z0 (Below w.heap.size w w'))
 case atStart => exact ⟨(y489), (0), fs, H', ⟨Nat.le_refl _⟩, ⟨by (with_reducible repeat (first | apply Kd.R_alloc | apply Kd.R_drewN | apply Kd.R_drew)); exact Kd.R_mono HO491.out (fun _ hk => hk.1)⟩, ⟨bqs⟩⟩
 case round =>
  clear H'
  try clear c1
  try clear p2
  try clear c4
  try clear c4b0
  try clear c4b1
  try clear c5
  try clear c5b0
  try clear c5b1
  try clear p6
  obtain ⟨x5_1, x6_1, rfl, HA, HK1, HO_5, HB⟩ := hrel
  cases gk with
  | zero => exact absurd HA.out (by simp [rEtimes.l0])
  | succ k1 =>
   have H := HA.out
   clear HA
   simp only [rEtimes.l0] at H
   rcases jd H with ⟨-, c8b0, H⟩ | ⟨-, c8b0, H⟩
   ·have H' := Z0.mk H
    clear H
    go_wp2
    repeat (go_quiet (fail); try go_wp2)
    go_loopg [7, 8] k1 (fun kq v7 v8 w' => ∃ (x5_2 : List Int) (x7_2 : Int) (x8_2 : Int), v7 = .int .i64 x7_2 ∧ v8 = .int .i64 x8_2 ∧ Z0 (rEtimes.l1 kq l0 l1 x5_2 x6_1 x7_2 x8_2 = some r) ∧ Z0 (kq ≤ k1) ∧ Z0 (Kd.R (Kd.int .i64) 3 w' w.heap.size (fun k_ => (w.heap.size ≤ k_)) v490 x5_2) ∧ Z0 (Below w.heap.size w w'))
    case atStart => exact ⟨(x5_1), (0), (0), fs, fs, H', ⟨Nat.le_refl _⟩, ⟨rq HO_5⟩, ⟨bqs⟩⟩
    case round =>
     clear H'
     try clear c1
     try clear p2
     try clear c4
     try clear c4b0
     try clear c4b1
     try clear c5
     try clear c5b0
     try clear c5b1
     try clear p6
     try clear c8
     try clear c8b0
     try clear p2
     try clear p6
     obtain ⟨x5_2, x7_2, x8_2, rfl, rfl, HA, HK2, HO_5, HB⟩ := hrel
     cases gk with
     | zero => exact absurd HA.out (by simp [rEtimes.l1])
     | succ k2 =>
      have H := HA.out
      clear HA
      simp only [rEtimes.l1] at H
      rcases jd H with ⟨-, c9b0, H⟩ | ⟨-, c9b0, H⟩
      ·obtain ⟨ji10, hji10⟩ : ∃ j_ : Int, (wrap64 (x6_1 + x8_2)) = j_ := ⟨_, rfl⟩
       replace H : (if 0 ≤ (ji10) then (if (ji10) < (x5_2.length : Int) then (if 0 ≤ x6_1 then (if x6_1 < (l0.length : Int) then (if 0 ≤ x8_2 then (rEtimes.l1 k2 l0 l1 (x5_2.set ((ji10) : Int).toNat (Int.tmod (wrap64 (x7_2 + (wrap64 ((rd x5_2 (ji10)) + (wrap64 ((rd l0 x6_1) * (rd l1 x8_2))))))) 10)) x6_1 (wrap64 (Int.tdiv (wrap64 (x7_2 + (wrap64 ((rd x5_2 (ji10)) + (wrap64 ((rd l0 x6_1) * (rd l1 x8_2))))))) 10)) (wrap64 (x8_2 + 1))) else (none)) else (none)) else (none)) else (none)) else (none)) = some r := by first | (rw [hji10] at H; exact H) | (simp only [hji10] at H ⊢; exact H)
       have hji10w : (IntKind.i64.wrap (x6_1 + x8_2)) = ji10 := (i64_w _).trans hji10
       obtain ⟨-, c11b0, H⟩ := gd H
       obtain ⟨-, c12b0, H⟩ := gd H
       obtain ⟨-, c13b0, H⟩ := gd H
       obtain ⟨-, c14b0, H⟩ := gd H
       obtain ⟨-, c15b0, H⟩ := gd H
       generalize hy498 : (x5_2.set ((ji10) : Int).toNat (Int.tmod (wrap64 (x7_2 + (wrap64 ((rd x5_2 (ji10)) + (wrap64 ((rd l0 x6_1) * (rd l1 x8_2))))))) 10) : List Int) = y498 at H
       have Ny498 := Z0.mk hy498.symm
       clear hy498
       have H' := Z0.mk H
       clear H
       obtain ⟨Ao17, co17, eo17⟩ := Kd.R_slice HO_5.out
       subst eo17
       obtain ⟨ad495, e495, hx495_0, p495, q495⟩ := atI (Kd.R_reads' HO_5.out).2.2 (ji10)
       cases e495
       obtain ⟨ad496, e496, hx496_0, p496, q496⟩ := atB HB HR0.out x6_1
       cases e496
       obtain ⟨ad497, e497, hx497_0, p497, q497⟩ := atB HB HR1.out x8_2
       cases e497
       have p16 : 0 ≤ ((ji10) : Int) := od
       have q16 : ((ji10) : Int) < ((x5_2.length : Int) : Int) := od
       obtain ⟨go16, co16, eo16, gb16, gl16, cl16, HG16⟩ := Kd.R_form HO_5.out (by omega)
       (first | cases eo16 | (injection eo16 with ea_ en_ ec_; (first | subst ea_ | (injection ea_ with ea_; subst ea_)); subst ec_; clear en_))
       have GB16 := Z0.mk gb16
       have GG16 := Z0.mk HG16
       clear gb16 gl16 HG16
       (first | simp only [add_plain] at hx495_0 | skip)
       obtain ⟨hx16_0, hf16_0⟩ := Kd.R_celln 0 HO_5.out ((ji10) : Int) p16 q16
       replace p16 := eq_true p16
       replace q16 := eq_true q16
       have HP18 := Kd.R_putg HO_5.out ((ji10) : Int) (Int.tmod (wrap64 (x7_2 + (wrap64 ((rd x5_2 (ji10)) + (wrap64 ((rd l0 x6_1) * (rd l1 x8_2))))))) 10)
       go_wp2_with (first | ((with_reducible refine gate_store (t := 3) (p := 51) rfl ?_); (try (rw [drewN_self wr]; generalize hq_ : World.drewN wr _ = wr; replace HO_5 := Z0.mk (Kd.R_at hq_ HO_5.out); replace HB := Z0.mk (below_at hq_ HB.out); clear hq_; (try (have HP18 := Kd.R_putg HO_5.out ((ji10) : Int) (Int.tmod (wrap64 (x7_2 + (wrap64 ((rd x5_2 (ji10)) + (wrap64 ((rd l0 x6_1) * (rd l1 x8_2))))))) 10))))); refine store_event (t := 3) (p := 51) (v := ?vo_w19) (w1 := (wr.setCell ⟨go16, ((ji10) : Int).toNat, none⟩ (.int .i64 (Int.tmod (wrap64 (x7_2 + (wrap64 ((rd x5_2 (ji10)) + (wrap64 ((rd l0 x6_1) * (rd l1 x8_2))))))) 10)))) ?hg ?ho ?hn ?hr ?_; (case ho => rfl); (case hg => rfl); (case hn => rfl); (case hr => first | (go_simp; done) | (go_simp; rfl) | (have hz_ := Kd.R_celln 0 HO_5.out ((ji10) : Int) (of_eq_true p16) (of_eq_true q16); go_simp; done)); intro w19 hw; have hg : wr.grownBy w19 (some go16) := (by rw [hw]; exact HP18.2); have hp_ : Kd.R (Kd.int .i64) 3 w19 w.heap.size (fun k_ => (w.heap.size ≤ k_)) (.slice (some ⟨go16, 0, none⟩) x5_2.length co17) y498 := (by rw [hw, Ny498.out]; exact HP18.1); clear HP18; replace HO_5 := Z0.mk (hp_); replace HB := Z0.mk ((by rw [hw]; exact below_set (HB.out) GB16.out : Below w.heap.size w w19)); clear hg hw hp_) | (go_quiet (fail)))
       go_roundg k2
       case measure => have := HK1.out; have := HK2.out; omega
       case rel => exact ⟨(y498), (wrap64 (Int.tdiv (wrap64 (x7_2 + (wrap64 ((rd x5_2 (ji10)) + (wrap64 ((rd l0 x6_1) * (rd l1 x8_2))))))) 10)), (wrap64 (x8_2 + 1)), (by first | rfl | (simp; done) | (simp only [← hji10] <;> (first | rfl | simp)) | (simp [*]; done)), fs, H', ⟨by have := HK1.out; have := HK2.out; omega⟩, ⟨rq HO_5⟩, ⟨bqs⟩⟩
      obtain ⟨ji20, hji20⟩ : ∃ j_ : Int, (wrap64 (x6_1 + (l1.length : Int))) = j_ := ⟨_, rfl⟩
      replace H : (if 0 ≤ (ji20) then (if (ji20) < (x5_2.length : Int) then (rEtimes.l0 k2 l0 l1 (x5_2.set ((ji20) : Int).toNat x7_2) (wrap64 (x6_1 + 1))) else (none)) else (none)) = some r := by first | (rw [hji20] at H; exact H) | (simp only [hji20] at H ⊢; exact H)
      have hji20w : (IntKind.i64.wrap (x6_1 + (l1.length : Int))) = ji20 := (i64_w _).trans hji20
      obtain ⟨-, c21b0, H⟩ := gd H
      obtain ⟨-, c22b0, H⟩ := gd H
      generalize hy499 : (x5_2.set ((ji20) : Int).toNat x7_2 : List Int) = y499 at H
      have Ny499 := Z0.mk hy499.symm
      clear hy499
      have H' := Z0.mk H
      clear H
      have p23 : 0 ≤ ((ji20) : Int) := od
      have q23 : ((ji20) : Int) < ((x5_2.length : Int) : Int) := od
      obtain ⟨go23, co23, eo23, gb23, gl23, cl23, HG23⟩ := Kd.R_form HO_5.out (by omega)
      (first | cases eo23 | (injection eo23 with ea_ en_ ec_; (first | subst ea_ | (injection ea_ with ea_; subst ea_)); subst ec_; clear en_))
      have GB23 := Z0.mk gb23
      have GG23 := Z0.mk HG23
      clear gb23 gl23 HG23
      obtain ⟨hx23_0, hf23_0⟩ := Kd.R_celln 0 HO_5.out ((ji20) : Int) p23 q23
      replace p23 := eq_true p23
      replace q23 := eq_true q23
      have HP24 := Kd.R_putg HO_5.out ((ji20) : Int) x7_2
      go_wp2_with (first | ((with_reducible refine gate_store (t := 3) (p := 60) rfl ?_); (try (rw [drewN_self wr]; generalize hq_ : World.drewN wr _ = wr; replace HO_5 := Z0.mk (Kd.R_at hq_ HO_5.out); replace HB := Z0.mk (below_at hq_ HB.out); clear hq_; (try (have HP24 := Kd.R_putg HO_5.out ((ji20) : Int) x7_2)))); refine store_event (t := 3) (p := 60) (v := ?vo_w25) (w1 := (wr.setCell ⟨go23, ((ji20) : Int).toNat, none⟩ (.int .i64 x7_2))) ?hg ?ho ?hn ?hr ?_; (case ho => rfl); (case hg => rfl); (case hn => rfl); (case hr => first | (go_simp; done) | (go_simp; rfl) | (have hz_ := Kd.R_celln 0 HO_5.out ((ji20) : Int) (of_eq_true p23) (of_eq_true q23); go_simp; done)); intro w25 hw; have hg : wr.grownBy w25 (some go23) := (by rw [hw]; exact HP24.2); have hp_ : Kd.R (Kd.int .i64) 3 w25 w.heap.size (fun k_ => (w.heap.size ≤ k_)) (.slice (some ⟨go23, 0, none⟩) x5_2.length co23) y499 := (by rw [hw, Ny499.out]; exact HP24.1); clear HP24; replace HO_5 := Z0.mk (hp_); replace HB := Z0.mk ((by rw [hw]; exact below_set (HB.out) GB23.out : Below w.heap.size w w25)); clear hg hw hp_) | (go_quiet (fail)))
      go_roundg k2
      case measure => have := HK1.out; have := HK2.out; omega
      case rel => exact ⟨(y499), (wrap64 (x6_1 + 1)), fs, H', ⟨by have := HK1.out; have := HK2.out; omega⟩, ⟨rq HO_5⟩, ⟨bqs⟩⟩
   obtain ⟨t492, A26, H⟩ := bnd H
   obtain rfl := Option.some.inj H
   obtain ⟨Ao27, co27, eo27⟩ := Kd.R_slice HO_5.out
   subst eo27
   go_wp2_with (first | (go_at_call 165; (with_reducible refine (rEcut.calls k1 (fun k_ => some k_ = (.slice Ao27 x5_1.length co27 : Value).ownBlock) _ _ x5_1 t492 _ ?side1 A26.out).mono ?_); (case side1 => exact Kd.R_V (Kd.R_tight rfl (HO_5.out))); rintro e w28 ⟨v493, rfl, ho0, hb⟩; have HO494 := Z0.mk (Kd.V_lower (Kd.V_mono (ok' := fun k_ => (w.heap.size ≤ k_)) ho0 (fun k_ hk_ => Or.elim hk_ (fun hs_ => ((HO_5.out).1 k_ hs_.symm)) (fun hn_ => (Nat.le_trans (below_size bqs) hn_)))) (below_size bqs)); replace HO_5 := fR HO_5 hb; replace HB := fB HB hb; clear hb ho0) | (go_quiet (first | (go_at_call 165; (with_reducible refine (rEcut.calls k1 (fun k_ => some k_ = (.slice Ao27 x5_1.length co27 : Value).ownBlock) _ _ x5_1 t492 _ ?side1 A26.out).mono ?_); (case side1 => exact Kd.R_V (Kd.R_tight rfl (HO_5.out))); rintro e w28 ⟨v493, rfl, ho0, hb⟩; have HO494 := Z0.mk (Kd.V_lower (Kd.V_mono (ok' := fun k_ => (w.heap.size ≤ k_)) ho0 (fun k_ hk_ => Or.elim hk_ (fun hs_ => ((HO_5.out).1 k_ hs_.symm)) (fun hn_ => (Nat.le_trans (below_size bqs) hn_)))) (below_size bqs)); replace HO_5 := fR HO_5 hb; replace HB := fB HB hb; clear hb ho0))))
   go_ret
   exact ⟨_, by first | rfl | (simp [errW_none, errW_some] <;> rfl) | (simp only [← hji3]; first | rfl | (simp [errW_none, errW_some] <;> rfl)) | (simp [*, errW_none, errW_some] <;> rfl), vq HO494, bqs⟩
theorem rEProduct.calls (k : Nat) (a0 : ByteArray) (a1 : ByteArray) (r : ByteArray) (w : World) (h : rEProduct.f k a0 a1 = some r) :
  Calls Tryz.prog 128 #[.string a0, .string a1] w fun e w' => e = .returned (.string r) ∧ Below w.heap.size w w' := by
 have HB := Z0.mk (Below.refl w.heap.size w)
 have H := h
 clear h
 unfold rEProduct.f at H
 obtain ⟨t500, A3, H⟩ := bnd H
 obtain ⟨t501, A4, H⟩ := bnd H
 rcases jd H with ⟨-, c5b0, H⟩ | ⟨-, c5b0, H⟩
 ·obtain ⟨t502, A6, H⟩ := bnd H
  obtain ⟨t503, A7, H⟩ := bnd H
  obtain ⟨t504, A8, H⟩ := bnd H
  obtain rfl := Option.some.inj H
  go_enter Tryz.func128, Tryz.ntmps128
  go_wp2_with (first | ((with_reducible refine gc_ 90 rfl ?_); refine goD (some 6) Tryz.func90 #[.string a0] (rEDigits.calls a0 t500 _ A3.out) ?_; intro nd) | ((with_reducible refine gc_ 90 rfl ?_); refine goD (some 8) Tryz.func90 #[.string a1] (rEDigits.calls a1 t501 _ A4.out) ?_; intro nd) | ((with_reducible refine gc_ 172 rfl ?_); refine goD (some 12) Tryz.func172 #[.string a0] (rEnumber.calls k a0 t502 _ A6.out) ?_; intro nd) | ((with_reducible refine gc_ 172 rfl ?_); refine goD (some 14) Tryz.func172 #[.string a1] (rEnumber.calls k a1 t503 _ A7.out) ?_; intro nd) | ((with_reducible refine gc_ 170 rfl ?_); refine goB (some 16) Tryz.func170 #[.int .i64 (wrap64 (t502 * t503))] bq (rEWhole.calls k (wrap64 (t502 * t503)) t504 _ A8.out) ?_; clear HB; intro w9 HB))
  go_ret
  exact finE
 obtain ⟨t505, A10, H⟩ := bnd H
 obtain ⟨t508, A11, H⟩ := bnd H
 obtain ⟨t511, A12, H⟩ := bnd H
 obtain ⟨t514, A13, H⟩ := bnd H
 obtain ⟨t515, A14, H⟩ := bnd H
 obtain ⟨t516, A15, H⟩ := bnd H
 obtain rfl := Option.some.inj H
 go_enter Tryz.func128, Tryz.ntmps128
 go_wp2_with (first | ((with_reducible refine gc_ 90 rfl ?_); refine goD (some 6) Tryz.func90 #[.string a0] (rEDigits.calls a0 t500 _ A3.out) ?_; intro nd) | ((with_reducible refine gc_ 90 rfl ?_); refine goD (some 8) Tryz.func90 #[.string a1] (rEDigits.calls a1 t501 _ A4.out) ?_; intro nd) | ((with_reducible refine gc_ 166 rfl ?_); refine gL 18 Tryz.func166 (rEdigits.calls _ _ _ _ A10.out) ?_; rintro _ w16 ⟨v506, rfl, ho0, hb⟩; refine ⟨_, rfl, ?_⟩; have HO507 := fN ho0; replace HB := fB HB hb; clear hb ho0) | ((with_reducible refine gc_ 166 rfl ?_); refine gL 20 Tryz.func166 (rEdigits.calls _ _ _ _ A11.out) ?_; rintro _ w17 ⟨v509, rfl, ho0, hb⟩; refine ⟨_, rfl, ?_⟩; have HO510 := Z0.mk (Kd.R_lower (Kd.R_new' ho0 (Kd.R_lt (rq HO507))) (below_size bqs)); replace HO507 := Z0.mk (Kd.R_elder' (rq HO507) (Kd.R_base ho0) hb); replace HB := fB HB hb; clear hb ho0; obtain ⟨Ao18, co18, eo18⟩ := Kd.R_slice HO507.out; subst eo18; obtain ⟨Ao19, co19, eo19⟩ := Kd.R_slice HO510.out; subst eo19) | ((with_reducible refine gc_ 176 rfl ?_); refine gL 21 Tryz.func176 (rEtimes.calls k _ _ t505 _ _ t508 t511 _ ?side1 ?side2 ?side3 ?side4 A12.out) ?_; (case side1 => exact cq (Kd.R_reads' HO507.out).2.2); (case side2 => exact (Kd.R_reads' HO507.out).2.1); (case side3 => exact cq (Kd.R_reads' HO510.out).2.2); (case side4 => exact (Kd.R_reads' HO510.out).2.1); rintro _ w20 ⟨v512, rfl, ho0, hb⟩; refine ⟨_, rfl, ?_⟩; have HO513 := Z0.mk (Kd.V_lower (Kd.V_mono (ok' := fun k_ => some k_ ≠ (.slice Ao18 t505.length co18 : Value).ownBlock ∧ some k_ ≠ (.slice Ao19 t508.length co19 : Value).ownBlock) ho0 (fun k_ hk_ => ⟨(Kd.fresh' (Kd.R_lt (rq HO507)) k_ hk_), (Kd.fresh' (Kd.R_lt (rq HO510)) k_ hk_)⟩)) (below_size bqs)); replace HO507 := fR HO507 hb; replace HO510 := fR HO510 hb; replace HB := fB HB hb; clear hb ho0) | ((with_reducible refine gc_ 130 rfl ?_); refine goD (some 23) Tryz.func130 #[.string a0] (rENegative.calls a0 t514 _ A13.out) ?_; intro nd) | ((with_reducible refine gc_ 130 rfl ?_); refine gL 25 Tryz.func130 (rENegative.calls _ _ _ A14.out) ?_; rintro _ w' ⟨rfl, ⟨nd, rfl⟩⟩; refine ⟨_, rfl, ?_⟩; obtain ⟨Ao21, co21, eo21⟩ := Kd.V_slice HO513.out; subst eo21) | ((with_reducible refine gc_ 174 rfl ?_); refine gL 27 Tryz.func174 (rEmade.calls k _ _ t511 (t514 != t515) t516 _ ?side1 ?side2 A15.out) ?_; (case side1 => exact cq (Kd.V_reads' HO513.out).2.2); (case side2 => exact (Kd.V_reads' HO513.out).2.1); rintro _ w22 ⟨rfl, hb⟩; refine ⟨_, rfl, ?_⟩; replace HO507 := fR HO507 hb; replace HO510 := fR HO510 hb; replace HO513 := fV HO513 hb; replace HB := fB HB hb; clear hb))
 go_ret
 exact finE
theorem rEMagnitude.calls (a0 : ByteArray) (r : ByteArray) (w : World) (h : rEMagnitude.f a0 = some r) :
  Calls Tryz.prog 167 #[.string a0] w fun e w' => e = .returned (.string r) ∧ Drawn0 w w' := by
 have H := h
 clear h
 unfold rEMagnitude.f at H
 obtain ⟨t477, A2, H⟩ := bnd H
 by_cases c3 : t477 = true
 ·subst c3
  have H1 : (if 1 ≤ (a0.size : Int) then (some (a0.extract 1 a0.size)) else (none)) = some r := by rw [if_pos rfl] at H; exact H
  clear H
  have H := H1
  clear H1
  obtain ⟨-, c4b0, c4b1, H⟩ := gt H
  obtain rfl := Option.some.inj H
  go_enter Tryz.func167, Tryz.ntmps167
  go_wp2_with (first | ((with_reducible refine gc_ 130 rfl ?_); refine goD (some 4) Tryz.func130 #[.string a0] (rENegative.calls a0 true _ A2.out) ?_; intro nd))
  go_ret
  exact finD
 replace c3 := Bool.eq_false_iff.mpr c3
 subst c3
 have H1 : (some a0) = some r := by rw [if_neg (show ¬ (false = true) by decide)] at H; exact H
 clear H
 have H := H1
 clear H1
 obtain rfl := Option.some.inj H
 go_enter Tryz.func167, Tryz.ntmps167
 go_wp2_with (first | ((with_reducible refine gc_ 130 rfl ?_); refine goD (some 4) Tryz.func130 #[.string a0] (rENegative.calls a0 false _ A2.out) ?_; intro nd))
 go_ret
 exact finD
theorem rENegated.calls (a0 : ByteArray) (r : ByteArray) (w : World) (h : rENegated.f a0 = some r) :
  Calls Tryz.prog 177 #[.string a0] w fun e w' => e = .returned (.string r) ∧ Drawn0 w w' := by
 have H := h
 clear h
 unfold rENegated.f at H
 rcases je H with ⟨-, c2b0, c2b1, H⟩ | ⟨c2, c2b0, c2b1, H⟩
 ·obtain rfl := Option.some.inj H
  go_enter Tryz.func177, Tryz.ntmps177
  go_wp2
  go_ret
  exact finD
 obtain ⟨t517, A3, H⟩ := bnd H
 by_cases c4 : t517 = true
 ·subst c4
  have H1 : (if 1 ≤ (a0.size : Int) then (some (a0.extract 1 a0.size)) else (none)) = some r := by rw [if_pos rfl] at H; exact H
  clear H
  have H := H1
  clear H1
  obtain ⟨-, c5b0, c5b1, H⟩ := gt H
  obtain rfl := Option.some.inj H
  go_enter Tryz.func177, Tryz.ntmps177
  go_wp2_with (first | ((with_reducible refine gc_ 130 rfl ?_); refine goD (some 7) Tryz.func130 #[.string a0] (rENegative.calls a0 true _ A3.out) ?_; intro nd))
  go_ret
  exact finD
 replace c4 := Bool.eq_false_iff.mpr c4
 subst c4
 have H1 : (if 1 + a0.size ≤ 9223372036854775807 then (some ((⟨#[45]⟩ : ByteArray) ++ a0)) else (none)) = some r := by rw [if_neg (show ¬ (false = true) by decide)] at H; exact H
 clear H
 have H := H1
 clear H1
 obtain ⟨c6, c6b0, c6b1, H⟩ := gt H
 try have c6b2 : (9223372036854775807 < 1 + a0.size) = False := eq_false (Nat.not_lt.2 c6)
 obtain rfl := Option.some.inj H
 go_enter Tryz.func177, Tryz.ntmps177
 go_wp2_with (first | ((with_reducible refine gc_ 130 rfl ?_); refine goD (some 7) Tryz.func130 #[.string a0] (rENegative.calls a0 false _ A3.out) ?_; intro nd))
 go_ret
 exact finD
theorem rEDiff.calls (k : Nat) (a0 : ByteArray) (a1 : ByteArray) (r : ByteArray) (w : World) (h : rEDiff.f k a0 a1 = some r) :
  Calls Tryz.prog 175 #[.string a0, .string a1] w fun e w' => e = .returned (.string r) ∧ Below w.heap.size w w' := by
 have HB := Z0.mk (Below.refl w.heap.size w)
 have H := h
 clear h
 unfold rEDiff.f at H
 obtain ⟨t574, A3, H⟩ := bnd H
 obtain ⟨t575, A4, H⟩ := bnd H
 obtain rfl := Option.some.inj H
 go_enter Tryz.func175, Tryz.ntmps175
 go_wp2_with (first | ((with_reducible refine gc_ 177 rfl ?_); refine goD (some 7) Tryz.func177 #[.string a1] (rENegated.calls a1 t574 _ A3.out) ?_; intro nd) | ((with_reducible refine gc_ 151 rfl ?_); refine goB (some 8) Tryz.func151 #[.string a0, .string t574] bq (rESum.calls k a0 t574 t575 _ A4.out) ?_; clear HB; intro w5 HB))
 go_ret
 exact finE
theorem rEfloor.calls (a0 : Int) (a1 : Int) (r : Int) (w : World) (h : rEfloor.f a0 a1 = some r) :
  Calls Tryz.prog 171 #[.int .i64 a0, .int .i64 a1] w fun e w' => e = .returned (.int .i64 r) ∧ Drawn0 w w' := by
 have H := h
 clear h
 unfold rEfloor.f at H
 obtain ⟨c3, c3b0, c3b1, H⟩ := fQ H
 rcases je H with ⟨-, c4b0, c4b1, H⟩ | ⟨c4, c4b0, c4b1, H⟩
 ·obtain rfl := Option.some.inj H
  go_enter Tryz.func171, Tryz.ntmps171
  go_wp2
  go_ret
  exact finD
 rcases jn H with ⟨c5, H⟩ | ⟨c5, H⟩
 ·have c5b0 : ((decide (a0 < 0)) != (decide (a1 < 0))) = true := c5
  (try (have c5b1 : decide ((decide (a0 < 0)) = (decide (a1 < 0))) = false := by simpa using c5))
  (try (have c5b2 : ((decide (a0 < 0)) == (decide (a1 < 0))) = false := by simpa using c5))
  (try (have c5b3 : ¬ ((decide (a0 < 0)) = (decide (a1 < 0))) := by simpa using c5))
  clear c5
  obtain rfl := Option.some.inj H
  go_enter Tryz.func171, Tryz.ntmps171
  go_wp2
  go_ret
  exact finD
 have c5b0 : ((decide (a0 < 0)) != (decide (a1 < 0))) = false := by simpa using c5
 (try (have c5b1 : decide ((decide (a0 < 0)) = (decide (a1 < 0))) = true := by simpa using c5))
 (try (have c5b2 : ((decide (a0 < 0)) == (decide (a1 < 0))) = true := by simpa using c5))
 clear c5
 obtain rfl := Option.some.inj H
 go_enter Tryz.func171, Tryz.ntmps171
 go_wp2
 go_ret
 exact finD
theorem rEsplit.calls (k : Nat) (A0 : Option Addr) (c0 : Nat) (l0 : List Int) (A1 : Option Addr) (c1 : Nat) (l1 : List Int) (r1 : List Int) (r2 : List Int) (w : World) (hr0 : Kd.C (Kd.int .i64) w A0 l0.length l0) (hc0 : l0.length ≤ c0) (hr1 : Kd.C (Kd.int .i64) w A1 l1.length l1) (hc1 : l1.length ≤ c1) (h : rEsplit.f k l0 l1 = some (r1, r2)) :
  Calls Tryz.prog 173 #[.slice A0 l0.length c0, .slice A1 l1.length c1] w fun e w' => ∃ v0_ v1_ : Value, e = .returned (.tuple #[v0_, v1_]) ∧ Kd.V (Kd.int .i64) 3 w' w.heap.size (fun k_ => (w.heap.size ≤ k_)) v0_ r1 ∧ Kd.V (Kd.int .i64) 3 w' w.heap.size (fun k_ => (w.heap.size ≤ k_)) v1_ r2 ∧ Below w.heap.size w w' := by
 have HR0 := Z0.mk hr0
 have HC0 := Z0.mk hc0
 clear hr0 hc0
 have HR1 := Z0.mk hr1
 have HC1 := Z0.mk hc1
 clear hr1 hc1
 have HB := Z0.mk (Below.refl w.heap.size w)
 have H := h
 clear h
 unfold rEsplit.f at H
 obtain ⟨ji3, hji3⟩ : ∃ j_ : Int, (mx 0 (wrap64 ((wrap64 ((l0.length : Int) - (l1.length : Int))) + 1))) = j_ := ⟨_, rfl⟩
 replace H : (if 0 ≤ (ji3) then (if (ji3 : Int).toNat ≤ 35184372088832 then ((some (([] : List Int) : List Int)).bind fun y579 => (if (ji3) ≤ (l0.length : Int) then (if y579.length + (l0.drop ((ji3) : Int).toNat).length < 17592186044416 then (rEsplit.l0 k l0 l1 (List.replicate (ji3 : Int).toNat 0) (y579 ++ (l0.drop ((ji3) : Int).toNat)) (wrap64 ((ji3) - 1))) else (none)) else (none))) else (none)) else (none)) = some (r1, r2) := by first | (rw [hji3] at H; exact H) | (simp only [hji3] at H ⊢; exact H)
 (try (have hji3l : 0 ≤ ji3 := by (rw [← hji3]; unfold mx; (repeat' split) <;> omega)))
 (try (have hji3m : 0 ≤ ji3 := by omega))
 have hji3_ : (if 0 < (wrap64 ((wrap64 ((l0.length : Int) - (l1.length : Int))) + 1)) then (wrap64 ((wrap64 ((l0.length : Int) - (l1.length : Int))) + 1)) else 0) = ji3 := hji3
 obtain ⟨-, c4b0, c4b1, H⟩ := gt H
 obtain ⟨-, c5b0, c5b1, H⟩ := gt H
 generalize hy576 : (List.replicate (ji3 : Int).toNat 0 : List Int) = y576 at H
 have Ny576 := Z0.mk hy576.symm
 clear hy576
 obtain ⟨y579, Ny579, H⟩ := yb H
 have c6b0 := eq_true (od : 0 ≤ (ji3))
 obtain ⟨-, c7b0, c7b1, H⟩ := gt H
 obtain ⟨c8, H⟩ := gn H
 have LMc8 := Z0.mk c8
 clear c8
 generalize hy583 : (y579 ++ (l0.drop ((ji3) : Int).toNat) : List Int) = y583 at H
 have Ny583 := Z0.mk hy583.symm
 clear hy583
 have H' := Z0.mk H
 clear H
 go_enter Tryz.func173, Tryz.ntmps173
 go_wp2_with (first | ((with_reducible refine gd_ 18 rfl ?_); refine Kd.R_make (Kd.int .i64) _ 3 rfl (N := 18) rfl 35 _ _ rfl ji3 rfl rfl Tryz.underlying35 (.int .i64 0) 8 info3 rfl (by decide) (by omega) 0 (ok := fun _ => True) (okp := fun _ => True) rfl (fun _ hk => hk) trivial od (Nat.le_trans (Nat.mul_le_mul_right _ (od : ji3.toNat ≤ 35184372088832)) (by omega)) (Below.refl _ _) (Nat.le_refl _) ?_; intro v577 w9 ho10 hb hg_ hnew_; clear hg_ hnew_; (first | rw [← Ny576.out] at ho10 | (simp only [Int.reduceToNat] at ho10; rw [← Ny576.out] at ho10)); have HO578 := Z0.mk (Kd.R_lower (Kd.R_newM (M := fun k_ => (w.heap.size ≤ k_)) ho10 (below_size bqs) (fun k_ h_ => h_)) (below_size bqs)); replace HB := fB HB hb; clear hb ho10) | ((with_reducible refine gd_ 19 rfl ?_); refine Kd.R_lit (Kd.int .i64) _ 3 ?hg (N := 19) ?hd (xs := ([] : List Int)) (inner := []) (ok := fun _ => True) (okp := fun _ => True) ?hr ?hp (fun _ hk => hk) trivial (Below.refl _ _) (Nat.le_refl _) (by simp) ?_; (case hd => rfl); (case hg => rfl); (case hr => first | (go_simp; done) | (go_simp; rfl)); (case hp => exact (Reps.none _ _)); intro v580 w11 ho12 hb hg_ hnew_; clear hg_ hnew_; (first | rw [← Ny579.out] at ho12 | (simp only [Int.reduceToNat] at ho12; rw [← Ny579.out] at ho12)); have HO581 := Z0.mk (Kd.R_lower (Kd.R_new' (Kd.R_newM (M := fun k_ => (w.heap.size ≤ k_)) ho12 (below_size bqs) (fun k_ h_ => h_)) (Kd.R_lt (rq HO578))) (below_size bqs)); replace HO578 := Z0.mk (Kd.R_elder' (rq HO578) (Kd.R_base ho12) hb); replace HB := fB HB hb; clear hb ho12; obtain ⟨i013, hi013, _, hsz13, _⟩ := info_parts info3; obtain ⟨A13, hcut13, hA13, hC13⟩ := print_drop_of (P := Tryz.prog) (Value.int .i64) 0 35 3 .i64 Tryz.underlying35 hi013 hsz13 A0 c0 l0 (ji3) od od HC0.out; have HR582 := Z0.mk (Kd.C_of_reads (h1 := fun _ => rfl) (hA13 _ (Kd.reads_of_C HR0.out))); have HC582 := Z0.mk hC13; clear hA13 hC13 hi013 hsz13) | ((with_reducible refine gate_builtin (b := .append) (xs := #[.tmp 19, .tmp 22]) rfl ?_); at_builtin; refine Kd.R_append_rows (Kd.int .i64) (w0 := w) w.heap.size rfl (.tmp 19) (.tmp 22) 35 3 (.int .i64 0) 8 rfl Tryz.underlying35 info3 rfl (by decide) (by omega) v580 y579 (l0.drop ((ji3) : Int).toNat) _ _ _ (fun k_ => (w.heap.size ≤ k_) ∧ some k_ ≠ (v577 : Value).ownBlock) (fun _ => False) rfl rfl ?aO ?aR (fun _ _ h => h) (fun _ h => h.elim) ?aF ?aB ?aS ?aL ?_; (case aR => first | (rw [← show (l0.drop ((ji3) : Int).toNat).length = (l0.length - (ji3).toNat) from List.length_drop]; exact cq (Kd.C_below HR582.out HB.out)) | (exact cq (Kd.C_below HR582.out HB.out))); (case aB => exact bqs); (case aF => exact (fun k_ hk => ⟨(Nat.le_trans (below_size bqs) hk), Kd.fresh' (Kd.R_lt (rq HO578)) k_ hk⟩)); (case aO => exact (by (with_reducible repeat (first | apply Kd.R_alloc | apply Kd.R_drewN | apply Kd.R_drew)); exact Kd.R_mono HO581.out (fun _ hk => ⟨hk.1.1, hk.2⟩))); (case aS => exact (below_size bqs)); (case aL => have := LMc8.out; have hlx_ := (show (l0.drop ((ji3) : Int).toNat).length = (l0.length - (ji3).toNat) from List.length_drop); omega); intro v584 w14 ho hb hg hat; rw [← Ny583.out] at ho; have HO585 := Z0.mk (ho); replace HO578 := Z0.mk (Kd.R_after (ok := (fun k_ => (w.heap.size ≤ k_))) (by (with_reducible repeat (first | apply Kd.R_alloc | apply Kd.R_drewN | apply Kd.R_drew)); exact Kd.R_mono HO578.out (fun _ hk => ⟨hk.1.1, hk.2⟩)) hg hat); replace HB := Z0.mk (hb); clear HO581; clear ho hb hg hat))
 go_loopg [8, 9] k (fun kq v8 v9 w' => ∃ (x7_1 : List Int) (x8_1 : List Int) (x9_1 : Int), v9 = .int .i64 x9_1 ∧ Z0 (rEsplit.l0 kq l0 l1 x7_1 x8_1 x9_1 = some (r1, r2)) ∧ Z0 (kq ≤ k) ∧ Z0 (Kd.R (Kd.int .i64) 3 w' w.heap.size (fun k_ => (w.heap.size ≤ k_)) v577 x7_1) ∧ Z0 (Kd.V (Kd.int .i64) 3 w' w.heap.size (fun k_ => (w.heap.size ≤ k_) ∧ some k_ ≠ (v577 : Value).ownBlock) v8 x8_1) ∧ Z0 (Below w.heap.size w w'))
 case atStart => exact ⟨(y576), (y583), (wrap64 ((ji3) - 1)), (by first | rfl | (simp; done) | (simp only [← hji3] <;> (first | rfl | simp)) | (simp [*]; done)), H', ⟨Nat.le_refl _⟩, ⟨by (with_reducible repeat (first | apply Kd.R_alloc | apply Kd.R_drewN | apply Kd.R_drew)); exact Kd.R_mono HO578.out (fun _ hk => hk.1)⟩, ⟨Kd.R_V (rq HO585)⟩, ⟨bqs⟩⟩
 case round =>
  clear H'
  try clear c1
  try clear p2
  try clear c4
  try clear c4b0
  try clear c4b1
  try clear c5
  try clear c5b0
  try clear c5b1
  try clear c6
  try clear c6b0
  try clear p6
  try clear c7
  try clear c7b0
  try clear c7b1
  try clear c8
  obtain ⟨x7_1, x8_1, x9_1, rfl, HA, HK1, HO_7, HO_8, HB⟩ := hrel
  cases gk with
  | zero => exact absurd HA.out (by simp [rEsplit.l0])
  | succ k1 =>
   have H := HA.out
   clear HA
   simp only [rEsplit.l0] at H
   rcases jh H with ⟨-, c15b0, H⟩ | ⟨-, c15b0, H⟩
   ·obtain ⟨-, c16b0, H⟩ := gd H
    obtain ⟨-, c17b0, H⟩ := gd H
    obtain ⟨y590, Ny590, H⟩ := yb H
    obtain ⟨c18, H⟩ := gn H
    have LMc18 := Z0.mk c18
    clear c18
    generalize hy593 : (y590 ++ x8_1 : List Int) = y593 at H
    have Ny593 := Z0.mk hy593.symm
    clear hy593
    obtain ⟨t596, A19, H⟩ := bnd H
    have H' := Z0.mk H
    clear H
    obtain ⟨ad589, e589, hx589_0, p589, q589⟩ := atB HB HR0.out x9_1
    cases e589
    go_wp2_with (first | ((with_reducible refine gd_ 34 rfl ?_); refine Kd.R_lit (Kd.int .i64) _ 3 ?hg (N := 34) ?hd (xs := ([rd l0 x9_1] : List Int)) (inner := [.int .i64 (rd l0 x9_1)]) (ok := fun _ => True) (okp := fun _ => True) ?hr ?hp (fun _ hk => hk) trivial (Below.refl _ _) (Nat.le_refl _) (by simp) ?_; (case hd => rfl); (case hg => rfl); (case hr => first | (go_simp; done) | (go_simp; rfl)); (case hp => exact (Reps.one (show Kd.M (Kd.int .i64) _ _ _ (rd l0 x9_1) [.int .i64 (rd l0 x9_1)] from rfl) (Reps.none _ _))); intro v591 w20 ho21 hb hg_ hnew_; clear hg_ hnew_; (first | rw [← Ny590.out] at ho21 | (simp only [Int.reduceToNat] at ho21; rw [← Ny590.out] at ho21)); have HO592 := Z0.mk (Kd.R_lower (Kd.R_new' (Kd.R_newM (M := fun k_ => (w.heap.size ≤ k_)) ho21 (below_size bqs) (fun k_ h_ => h_)) (Kd.R_lt (rq HO_7))) (below_size bqs)); replace HO_7 := Z0.mk (Kd.R_elder' (rq HO_7) (Kd.R_base ho21) hb); replace HO_8 := Z0.mk (Kd.V_elder' (vq HO_8) (Kd.R_base ho21) hb); replace HB := fB HB hb; clear hb ho21; obtain ⟨Ao23, co23, eo23⟩ := Kd.V_slice HO_8.out; subst eo23) | ((with_reducible refine gate_builtin (b := .append) (xs := #[.tmp 34, .tmp 35]) rfl ?_); at_builtin; refine Kd.R_append_rows (Kd.int .i64) (w0 := w) w.heap.size rfl (.tmp 34) (.tmp 35) 35 3 (.int .i64 0) 8 rfl Tryz.underlying35 info3 rfl (by decide) (by omega) v591 y590 x8_1 _ _ _ (fun k_ => (w.heap.size ≤ k_) ∧ some k_ ≠ (v577 : Value).ownBlock) (fun _ => False) rfl rfl ?aO ?aR (fun _ _ h => h) (fun _ h => h.elim) ?aF ?aB ?aS ?aL ?_; (case aR => exact cq (Kd.V_reads' HO_8.out).2.2); (case aB => exact bqs); (case aF => exact (fun k_ hk => ⟨(Nat.le_trans (below_size bqs) hk), Kd.fresh' (Kd.R_lt (rq HO_7)) k_ hk⟩)); (case aO => exact (by (with_reducible repeat (first | apply Kd.R_alloc | apply Kd.R_drewN | apply Kd.R_drew)); exact Kd.R_mono HO592.out (fun _ hk => ⟨hk.1.1, hk.2⟩))); (case aS => exact (below_size bqs)); (case aL => have := LMc18.out; omega); intro v594 w22 ho hb hg hat; rw [← Ny593.out] at ho; have HO595 := Z0.mk (ho); replace HO_7 := Z0.mk (Kd.R_after (ok := (fun k_ => (w.heap.size ≤ k_))) (rq HO_7) hg hat); replace HO_8 := Z0.mk (Kd.V_afterv (ok := (fun k_ => (w.heap.size ≤ k_) ∧ some k_ ≠ (v577 : Value).ownBlock)) (vq HO_8) hg hat); replace HB := Z0.mk (hb); clear HO592; clear ho hb hg hat; obtain ⟨Ao24, co24, eo24⟩ := Kd.R_slice HO595.out; subst eo24) | ((with_reducible refine gc_ 165 rfl ?_); refine gL 37 Tryz.func165 (rEcut.calls k1 (fun k_ => some k_ = (.slice Ao24 y593.length co24 : Value).ownBlock) _ _ y593 t596 _ ?side1 A19.out) ?_; (case side1 => exact Kd.R_V (Kd.R_tight rfl (HO595.out))); rintro _ w25 ⟨v597, rfl, ho0, hb⟩; refine ⟨_, rfl, ?_⟩; have HO598 := Z0.mk (Kd.V_lower (Kd.V_mono (ok' := fun k_ => (w.heap.size ≤ k_) ∧ some k_ ≠ (v577 : Value).ownBlock) ho0 (fun k_ hk_ => ⟨Or.elim hk_ (fun hs_ => ((HO595.out).1 k_ hs_.symm).1) (fun hn_ => (Nat.le_trans (below_size bqs) hn_)), Or.elim hk_ (fun hs_ => ((HO595.out).1 k_ hs_.symm).2) (fun hn_ => (Kd.fresh' (Kd.R_lt (rq HO_7)) k_ hn_))⟩)) (below_size bqs)); replace HO_7 := fR HO_7 hb; replace HO_8 := fV HO_8 hb; replace HO595 := fR HO595 hb; replace HB := fB HB hb; clear hb ho0))
    go_loopg [8] k1 (fun kq v8 w' => ∃ (x7_2 : List Int) (x8_2 : List Int), Z0 (rEsplit.l1 kq l0 l1 x7_2 x8_2 x9_1 = some (r1, r2)) ∧ Z0 (kq ≤ k1) ∧ Z0 (Kd.R (Kd.int .i64) 3 w' w.heap.size (fun k_ => (w.heap.size ≤ k_)) v577 x7_2) ∧ Z0 (Kd.V (Kd.int .i64) 3 w' w.heap.size (fun k_ => (w.heap.size ≤ k_) ∧ some k_ ≠ (v577 : Value).ownBlock) v8 x8_2) ∧ Z0 (Below w.heap.size w w'))
    case atStart => exact ⟨(x7_1), (t596), H', ⟨Nat.le_refl _⟩, ⟨by (with_reducible repeat (first | apply Kd.R_alloc | apply Kd.R_drewN | apply Kd.R_drew)); exact Kd.R_mono HO_7.out (fun _ hk => hk.1)⟩, ⟨vq HO598⟩, ⟨bqs⟩⟩
    case round =>
     clear H'
     try clear c1
     try clear p2
     try clear c4
     try clear c4b0
     try clear c4b1
     try clear c5
     try clear c5b0
     try clear c5b1
     try clear p5
     try clear q5
     try clear hx5
     try clear c6
     try clear c6b0
     try clear p6
     try clear c7
     try clear c7b0
     try clear c7b1
     try clear c8
     try clear c14
     try clear c15
     try clear c15b0
     try clear c16
     try clear c16b0
     try clear c17
     try clear c17b0
     try clear c18
     try clear hx589_0
     try clear p2
     try clear p589
     try clear p6
     try clear q589
     obtain ⟨x7_2, x8_2, HA, HK2, HO_7, HO_8, HB⟩ := hrel
     cases gk with
     | zero => exact absurd HA.out (by simp [rEsplit.l1])
     | succ k2 =>
      have H := HA.out
      clear HA
      simp only [rEsplit.l1] at H
      obtain ⟨t599, A26, H⟩ := bnd H
      rcases jh H with ⟨-, c27b0, H⟩ | ⟨-, c27b0, H⟩
      ·obtain ⟨t600, A28, H⟩ := bnd H
       obtain ⟨-, c29b0, H⟩ := gd H
       obtain ⟨-, c30b0, H⟩ := gd H
       generalize hy604 : (x7_2.set (x9_1 : Int).toNat (wrap64 ((rd x7_2 x9_1) + 1)) : List Int) = y604 at H
       have Ny604 := Z0.mk hy604.symm
       clear hy604
       have H' := Z0.mk H
       clear H
       obtain ⟨Ao32, co32, eo32⟩ := Kd.V_slice HO_8.out
       subst eo32
       go_wp2_with (first | ((with_reducible refine gc_ 164 rfl ?_); refine gL 40 Tryz.func164 (rEorder.calls k2 _ _ x8_2 _ _ l1 t599 _ ?side1 ?side2 ?side3 ?side4 A26.out) ?_; (case side1 => exact cq (Kd.V_reads' HO_8.out).2.2); (case side2 => exact (Kd.V_reads' HO_8.out).2.1); (case side3 => exact cq (Kd.C_below HR1.out HB.out)); (case side4 => exact HC1.out); rintro _ w' ⟨rfl, ⟨nd, rfl⟩⟩; refine ⟨_, rfl, ?_⟩; (try (rw [drewN_self wr]; generalize hq_ : World.drewN wr _ = wr; have n0_ : Z0 (Kd.R (Kd.int .i64) 3 wr w.heap.size (fun k_ => (w.heap.size ≤ k_)) v577 x7_2) := ⟨by rw [← hq_]; exact (rq HO_7)⟩; have n1_ : Z0 (Kd.V (Kd.int .i64) 3 wr w.heap.size (fun k_ => (w.heap.size ≤ k_) ∧ some k_ ≠ (v577 : Value).ownBlock) (.slice Ao32 x8_2.length co32) x8_2) := ⟨by rw [← hq_]; exact (vq HO_8)⟩; have n2_ : Z0 (Below w.heap.size w wr) := ⟨by rw [← hq_]; exact bqs⟩; clear HO_7 HO_8 HB hq_; have HO_7 := n0_; have HO_8 := n1_; have HB := n2_; clear n0_ n1_ n2_))) | ((with_reducible refine gc_ 195 rfl ?_); refine gL 44 Tryz.func195 (rEminus.calls k2 _ _ x8_2 _ _ l1 t600 _ ?side1 ?side2 ?side3 ?side4 A28.out) ?_; (case side1 => exact cq (Kd.V_reads' HO_8.out).2.2); (case side2 => exact (Kd.V_reads' HO_8.out).2.1); (case side3 => exact cq (Kd.C_below HR1.out HB.out)); (case side4 => exact HC1.out); rintro _ w33 ⟨v601, rfl, ho0, hb⟩; refine ⟨_, rfl, ?_⟩; have HO602 := Z0.mk (Kd.V_lower (Kd.V_mono (ok' := fun k_ => (w.heap.size ≤ k_) ∧ some k_ ≠ (v577 : Value).ownBlock) ho0 (fun k_ hk_ => ⟨(Nat.le_trans (below_size bqs) hk_), (Kd.fresh' (Kd.R_lt (rq HO_7)) k_ hk_)⟩)) (below_size bqs)); replace HO_7 := fR HO_7 hb; replace HO_8 := fV HO_8 hb; replace HB := fB HB hb; clear hb ho0; obtain ⟨Ao34, co34, eo34⟩ := Kd.R_slice HO_7.out; subst eo34; have p603 : 0 ≤ (x9_1 : Int) := od; have q603 : x9_1 < (x7_2.length : Int) := od; obtain ⟨ad603, e603, hx603_0⟩ := Kd.at_int (Kd.R_reads' HO_7.out).2.2 x9_1 p603 q603; cases e603; replace p603 := eq_true p603; replace q603 := eq_true q603; have p31 : 0 ≤ (x9_1 : Int) := od; have q31 : (x9_1 : Int) < ((x7_2.length : Int) : Int) := od; obtain ⟨go31, co31, eo31, gb31, gl31, cl31, HG31⟩ := Kd.R_form HO_7.out (by omega); (first | cases eo31 | (injection eo31 with ea_ en_ ec_; (first | subst ea_ | (injection ea_ with ea_; subst ea_)); subst ec_; clear en_)); have GB31 := Z0.mk gb31; have GG31 := Z0.mk HG31; clear gb31 gl31 HG31; (first | simp only [add_plain] at hx603_0 | skip); obtain ⟨hx31_0, hf31_0⟩ := Kd.R_celln 0 HO_7.out (x9_1 : Int) p31 q31; replace p31 := eq_true p31; replace q31 := eq_true q31; obtain ⟨hy35_, hz35_⟩ := Kd.R_celln 0 HO_7.out (x9_1 : Int) od od; have HP35 := Kd.R_putg HO_7.out (x9_1 : Int) (wrap64 ((rd x7_2 x9_1) + 1))) | ((with_reducible refine gate_store (t := 3) (p := 52) rfl ?_); refine store_event (t := 3) (p := 52) (v := ?vo_w36) (w1 := (w33.setCell ⟨go31, (x9_1 : Int).toNat, none⟩ (.int .i64 (wrap64 ((rd x7_2 x9_1) + 1))))) ?hg ?ho ?hn ?hr ?_; (case ho => rfl); (case hg => rfl); (case hn => rfl); (case hr => first | (go_simp; done) | (go_simp; rfl)); intro w36 hw; have hg : w33.grownBy w36 (some go31) := (by rw [hw]; exact HP35.2); have hp_ : Kd.R (Kd.int .i64) 3 w36 w.heap.size (fun k_ => (w.heap.size ≤ k_)) (.slice (some ⟨go31, 0, none⟩) x7_2.length co34) y604 := (by rw [hw, Ny604.out]; exact HP35.1); clear HP35; replace HO_7 := Z0.mk (hp_); replace HO_8 := Z0.mk (Kd.V_afterv (v := (.slice (some ⟨go31, 0, none⟩) x7_2.length co34)) (v1 := (.slice (some ⟨go31, 0, none⟩) x7_2.length co34)) (ok := (fun k_ => (w.heap.size ≤ k_))) (vq HO_8) hg (.inl rfl)); replace HO602 := Z0.mk (Kd.V_afterv (v := (.slice (some ⟨go31, 0, none⟩) x7_2.length co34)) (v1 := (.slice (some ⟨go31, 0, none⟩) x7_2.length co34)) (ok := (fun k_ => (w.heap.size ≤ k_))) (vq HO602) hg (.inl rfl)); replace HB := Z0.mk ((by rw [hw]; exact below_set (HB.out) GB31.out : Below w.heap.size w w36)); clear hg hw hp_))
       go_roundg k2
       case measure => have := HK1.out; have := HK2.out; omega
       case rel => exact ⟨(y604), (t600), H', ⟨by have := HK1.out; have := HK2.out; omega⟩, ⟨rq HO_7⟩, ⟨vq HO602⟩, ⟨bqs⟩⟩
      have H' := Z0.mk H
      clear H
      obtain ⟨Ao37, co37, eo37⟩ := Kd.V_slice HO_8.out
      subst eo37
      go_wp2_with (first | ((with_reducible refine gc_ 164 rfl ?_); refine goesL_ (some 40) rfl rfl Tryz.func164 (by kernel_rfl) rfl #[.slice Ao37 x8_2.length co37, .slice A1 l1.length c1] rfl (by (try simp only [List.map_toArray, List.map_cons, List.map_nil]); first | done | rfl | (simp only [List.length_drop, List.length_take]; rfl)) ?_; (with_reducible refine (rEorder.calls k2 _ _ x8_2 _ _ l1 t599 _ ?side1 ?side2 ?side3 ?side4 A26.out).mono ?_); (case side1 => exact cq (Kd.V_reads' HO_8.out).2.2); (case side2 => exact (Kd.V_reads' HO_8.out).2.1); (case side3 => exact cq (Kd.C_below HR1.out HB.out)); (case side4 => exact HC1.out); rintro e w' ⟨rfl, ⟨nd, rfl⟩⟩; refine ⟨_, rfl, ?_⟩))
      go_roundg k2
      case measure => have := HK1.out; have := HK2.out; omega
      case rel => exact ⟨(x7_2), (x8_2), (wrap64 (x9_1 - 1)), fs, H', ⟨by have := HK1.out; have := HK2.out; omega⟩, ⟨rq HO_7⟩, ⟨vq HO_8⟩, ⟨bqs⟩⟩
   obtain ⟨t586, A38, H⟩ := bnd H
   simp only [Option.some.injEq, Prod.mk.injEq] at H
   obtain ⟨rfl, rfl⟩ := H
   obtain ⟨Ao39, co39, eo39⟩ := Kd.R_slice HO_7.out
   subst eo39
   go_wp2_with (first | ((with_reducible refine gc_ 165 rfl ?_); refine gL 54 Tryz.func165 (rEcut.calls k1 (fun k_ => some k_ = (.slice Ao39 x7_1.length co39 : Value).ownBlock) _ _ x7_1 t586 _ ?side1 A38.out) ?_; (case side1 => exact Kd.R_V (Kd.R_tight rfl (HO_7.out))); rintro _ w40 ⟨v587, rfl, ho0, hb⟩; refine ⟨_, rfl, ?_⟩; have HO588 := Z0.mk (Kd.V_lower (Kd.V_mono (ok' := fun k_ => (w.heap.size ≤ k_)) ho0 (fun k_ hk_ => Or.elim hk_ (fun hs_ => ((HO_7.out).1 k_ hs_.symm)) (fun hn_ => (Nat.le_trans (below_size bqs) hn_)))) (below_size bqs)); replace HO_7 := fR HO_7 hb; replace HO_8 := fV HO_8 hb; replace HB := fB HB hb; clear hb ho0))
   go_ret2
   exact ⟨_, _, by first | rfl | (simp [errW_none, errW_some] <;> rfl) | (simp only [← hji3]; first | rfl | (simp [errW_none, errW_some] <;> rfl)) | (simp [*, errW_none, errW_some] <;> rfl), vq HO588, by (with_reducible repeat (first | apply Kd.V_alloc | apply Kd.V_drewN | apply Kd.V_drew)); exact Kd.V_mono HO_8.out (fun _ hk => hk.1), bqs⟩
end Go.Proofs.YtihbebbabjklkaaGreatDoor.PA
