import Derived.Test.YthnfajboebaajaaGreatDoorAG1
import Derived.Test.YthnfajboebaajaaGreatDoorAD
import Derived.Test.YthnfajboebaajaaGreatDoorAG2
import Derived.Deep.RegionHeld3
import Derived.WideLaws
set_option maxHeartbeats 8000000
set_option maxRecDepth 100000
set_option linter.unusedVariables false
namespace Go.Proofs.YthnfajboebaajaaGreatDoor.PA
set_option linter.unusedVariables false
open Go.RowKit Go.Proofs.WWords Go.Proofs.WLast Go.Proofs.WMore
attribute [local go_sem] max2_int min2_int max_two min_two max_three min_three max_four min_four
set_option linter.unusedSimpArgs false
theorem bIminus.calls (k : Nat) (A0 : Option Addr) (c0 : Nat) (l0 : List Int) (A1 : Option Addr) (c1 : Nat) (l1 : List Int) (r : List Int) (w : World) (hr0 : Kd.C (Kd.int .i64) w A0 l0.length l0) (hc0 : l0.length ≤ c0) (hr1 : Kd.C (Kd.int .i64) w A1 l1.length l1) (hc1 : l1.length ≤ c1) (h : bIminus.f k l0 l1 = some r) :
  Calls Tryz.prog 144 #[.slice A0 l0.length c0, .slice A1 l1.length c1] w fun e w' => ∃ v0_ : Value, e = .returned (v0_) ∧ Kd.R (Kd.int .i64) 3 w' w.heap.size (fun _ => True) v0_ r ∧ Below w.heap.size w w' := by
 have HR0 := Z0.mk hr0
 have HC0 := Z0.mk hc0
 clear hr0 hc0
 have HR1 := Z0.mk hr1
 have HC1 := Z0.mk hc1
 clear hr1 hc1
 have HB := Z0.mk (Below.refl w.heap.size w)
 have H := h
 clear h
 unfold bIminus.f at H
 obtain ⟨-, c3b0, c3b1, H⟩ := gt H
 obtain ⟨-, c4b0, c4b1, H⟩ := gt H
 obtain ⟨y229, Ny229, H⟩ := yb H
 have H' := Z0.mk H
 clear H
 go_enter Tryz.func144, Tryz.ntmps144
 go_wp2_with (first | ((with_reducible refine gd_ 11 rfl ?_); refine Kd.R_make (Kd.int .i64) _ 3 rfl (N := 11) rfl 86 _ _ rfl (l0.length : Int) rfl rfl Tryz.underlying86 (.int .i64 0) 8 info3 rfl (by decide) (by omega) 0 (ok := fun _ => True) (okp := fun _ => True) rfl (fun _ hk => hk) trivial od (Nat.le_trans (Nat.mul_le_mul_right _ (od : (l0.length : Int).toNat ≤ 35184372088832)) (by omega)) (Below.refl _ _) (Nat.le_refl _) ?_; intro v230 w5 ho6 hb hg_ hnew_; clear hg_ hnew_; (first | rw [← Ny229.out] at ho6 | (simp only [Int.reduceToNat] at ho6; rw [← Ny229.out] at ho6)); have HO231 := Z0.mk (Kd.R_lower ho6 (below_size bqs)); replace HB := fB HB hb; clear hb ho6; obtain ⟨Ao7, co7, eo7⟩ := Kd.R_slice HO231.out; subst eo7))
 go_loopg [6, 14] k (fun kq v6 v14 w' => ∃ (x5_1 : List Int) (x6_1 : Int) (x14_1 : Int), v6 = .int .i64 x6_1 ∧ v14 = .int .i64 x14_1 ∧ Z0 (bIminus.l0 kq l0 l1 x5_1 x6_1 (y229.length : Int) x14_1 = some r) ∧ Z0 (kq ≤ k) ∧ Z0 (Kd.R (Kd.int .i64) 3 w' w.heap.size (fun _ => True) (.slice Ao7 y229.length co7) x5_1) ∧ Z0 (Below w.heap.size w w'))
 case atStart => exact ⟨(y229), (0), (0), fs, fs, H', ⟨Nat.le_refl _⟩, ⟨rq HO231⟩, ⟨bqs⟩⟩
 case round =>
  clear H'
  try clear c1
  try clear p2
  try clear c3
  try clear c3b0
  try clear c3b1
  try clear c4
  try clear c4b0
  try clear c4b1
  obtain ⟨x5_1, x6_1, x14_1, rfl, rfl, HA, HK1, HO_5, HB⟩ := hrel
  have hl5_1 := (Kd.R_reads' HO_5.out).1
  rw [hl5_1] at HO_5
  (try simp only [hl5_1])
  cases gk with
  | zero => exact absurd HA.out (by simp [bIminus.l0])
  | succ k1 =>
   have H := HA.out
   clear HA
   simp only [bIminus.l0] at H
   rcases jd H with ⟨c8, c8b0, H⟩ | ⟨c8, c8b0, H⟩
   ·(try (have c8b0_ := c8b0; rw [hl5_1] at c8b0_))
    clear c8
    obtain ⟨-, c9b0, H⟩ := gd H
    obtain ⟨c10, c10b0, H⟩ := gd H
    (try (have c10b0_ := c10b0; rw [hl5_1] at c10b0_))
    clear c10
    rcases jd H with ⟨c11, c11b0, H⟩ | ⟨c11, c11b0, H⟩
    ·(try (have c11b0_ := c11b0; rw [hl5_1] at c11b0_))
     clear c11
     rcases jd H with ⟨-, c12b0, H⟩ | ⟨-, c12b0, H⟩
     ·obtain ⟨c13, c13b0, H⟩ := gd H
      (try (have c13b0_ := c13b0; rw [hl5_1] at c13b0_))
      clear c13
      generalize hy237 : (x5_1.set (x14_1 : Int).toNat (wrap64 ((wrap64 ((wrap64 ((rd l0 x14_1) - x6_1)) - (rd l1 x14_1))) + 1000000000)) : List Int) = y237 at H
      have Ny237 := Z0.mk hy237.symm
      clear hy237
      have H' := Z0.mk H
      clear H
      obtain ⟨ad235, e235, hx235_0, p235, q235⟩ := atB HB HR0.out x14_1
      cases e235
      obtain ⟨ad236, e236, hx236_0, p236, q236⟩ := atB HB HR1.out x14_1
      cases e236
      have p14 : 0 ≤ (x14_1 : Int) := od
      have q14 : (x14_1 : Int) < ((x5_1.length : Int) : Int) := od
      obtain ⟨go14, co14, eo14, gb14, gl14, cl14, HG14⟩ := Kd.R_form HO_5.out (by omega)
      (first | cases eo14 | (injection eo14 with ea_ en_ ec_; (first | subst ea_ | (injection ea_ with ea_; subst ea_)); subst ec_; clear en_))
      have GB14 := Z0.mk gb14
      have GG14 := Z0.mk HG14
      clear gb14 gl14 HG14
      obtain ⟨hx14_0, hf14_0⟩ := Kd.R_celln 0 HO_5.out (x14_1 : Int) p14 q14
      replace p14 := eq_true p14
      replace q14 := eq_true q14
      have HP15 := Kd.R_putg HO_5.out (x14_1 : Int) (wrap64 ((wrap64 ((wrap64 ((rd l0 x14_1) - x6_1)) - (rd l1 x14_1))) + 1000000000))
      go_wp2_with (first | ((with_reducible refine gate_store (t := 3) (p := 40) rfl ?_); refine store_event (t := 3) (p := 40) (v := ?vo_w16) (w1 := (wr.setCell ⟨go14, (x14_1 : Int).toNat, none⟩ (.int .i64 (wrap64 ((wrap64 ((wrap64 ((rd l0 x14_1) - x6_1)) - (rd l1 x14_1))) + 1000000000))))) ?hg ?ho ?hn ?hr ?_; (case ho => rfl); (case hg => rfl); (case hn => rfl); (case hr => first | (go_simp; done) | (go_simp; rfl)); intro w16 hw; have hg : wr.grownBy w16 (some go14) := (by rw [hw]; exact HP15.2); have hp_ : Kd.R (Kd.int .i64) 3 w16 w.heap.size (fun _ => True) (.slice (some ⟨go14, 0, none⟩) x5_1.length co7) y237 := (by rw [hw, Ny237.out]; exact HP15.1); clear HP15; replace HO_5 := Z0.mk (hp_); replace HB := Z0.mk ((by rw [hw]; exact below_set (HB.out) GB14.out : Below w.heap.size w w16)); clear hg hw hp_))
      (try simp only [← hl5_1])
      go_roundg k1
      case measure => have := HK1.out; omega
      case rel => exact ⟨(y237), (1), (wrap64 (x14_1 + 1)), fs, fs, H', ⟨by have := HK1.out; omega⟩, ⟨by (try simp only [hl5_1]); (with_reducible repeat (first | apply Kd.R_alloc | apply Kd.R_drewN | apply Kd.R_drew)); exact HO_5.out⟩, ⟨bqs⟩⟩
     obtain ⟨c17, c17b0, H⟩ := gd H
     (try (have c17b0_ := c17b0; rw [hl5_1] at c17b0_))
     clear c17
     generalize hy238 : (x5_1.set (x14_1 : Int).toNat (wrap64 ((wrap64 ((rd l0 x14_1) - x6_1)) - (rd l1 x14_1))) : List Int) = y238 at H
     have Ny238 := Z0.mk hy238.symm
     clear hy238
     have H' := Z0.mk H
     clear H
     obtain ⟨ad235, e235, hx235_0, p235, q235⟩ := atB HB HR0.out x14_1
     cases e235
     obtain ⟨ad236, e236, hx236_0, p236, q236⟩ := atB HB HR1.out x14_1
     cases e236
     have p18 : 0 ≤ (x14_1 : Int) := od
     have q18 : (x14_1 : Int) < ((x5_1.length : Int) : Int) := od
     obtain ⟨go18, co18, eo18, gb18, gl18, cl18, HG18⟩ := Kd.R_form HO_5.out (by omega)
     (first | cases eo18 | (injection eo18 with ea_ en_ ec_; (first | subst ea_ | (injection ea_ with ea_; subst ea_)); subst ec_; clear en_))
     have GB18 := Z0.mk gb18
     have GG18 := Z0.mk HG18
     clear gb18 gl18 HG18
     obtain ⟨hx18_0, hf18_0⟩ := Kd.R_celln 0 HO_5.out (x14_1 : Int) p18 q18
     replace p18 := eq_true p18
     replace q18 := eq_true q18
     have HP19 := Kd.R_putg HO_5.out (x14_1 : Int) (wrap64 ((wrap64 ((rd l0 x14_1) - x6_1)) - (rd l1 x14_1)))
     go_wp2_with (first | ((with_reducible refine gate_store (t := 3) (p := 40) rfl ?_); refine store_event (t := 3) (p := 40) (v := ?vo_w20) (w1 := (wr.setCell ⟨go18, (x14_1 : Int).toNat, none⟩ (.int .i64 (wrap64 ((wrap64 ((rd l0 x14_1) - x6_1)) - (rd l1 x14_1)))))) ?hg ?ho ?hn ?hr ?_; (case ho => rfl); (case hg => rfl); (case hn => rfl); (case hr => first | (go_simp; done) | (go_simp; rfl)); intro w20 hw; have hg : wr.grownBy w20 (some go18) := (by rw [hw]; exact HP19.2); have hp_ : Kd.R (Kd.int .i64) 3 w20 w.heap.size (fun _ => True) (.slice (some ⟨go18, 0, none⟩) x5_1.length co7) y238 := (by rw [hw, Ny238.out]; exact HP19.1); clear HP19; replace HO_5 := Z0.mk (hp_); replace HB := Z0.mk ((by rw [hw]; exact below_set (HB.out) GB18.out : Below w.heap.size w w20)); clear hg hw hp_))
     (try simp only [← hl5_1])
     go_roundg k1
     case measure => have := HK1.out; omega
     case rel => exact ⟨(y238), (0), (wrap64 (x14_1 + 1)), fs, fs, H', ⟨by have := HK1.out; omega⟩, ⟨by (try simp only [hl5_1]); (with_reducible repeat (first | apply Kd.R_alloc | apply Kd.R_drewN | apply Kd.R_drew)); exact HO_5.out⟩, ⟨bqs⟩⟩
    (try (have c11b0_ := c11b0; rw [hl5_1] at c11b0_))
    clear c11
    rcases jd H with ⟨-, c21b0, H⟩ | ⟨-, c21b0, H⟩
    ·obtain ⟨c22, c22b0, H⟩ := gd H
     (try (have c22b0_ := c22b0; rw [hl5_1] at c22b0_))
     clear c22
     generalize hy239 : (x5_1.set (x14_1 : Int).toNat (wrap64 ((wrap64 ((rd l0 x14_1) - x6_1)) + 1000000000)) : List Int) = y239 at H
     have Ny239 := Z0.mk hy239.symm
     clear hy239
     have H' := Z0.mk H
     clear H
     obtain ⟨ad235, e235, hx235_0, p235, q235⟩ := atB HB HR0.out x14_1
     cases e235
     have p23 : 0 ≤ (x14_1 : Int) := od
     have q23 : (x14_1 : Int) < ((x5_1.length : Int) : Int) := od
     obtain ⟨go23, co23, eo23, gb23, gl23, cl23, HG23⟩ := Kd.R_form HO_5.out (by omega)
     (first | cases eo23 | (injection eo23 with ea_ en_ ec_; (first | subst ea_ | (injection ea_ with ea_; subst ea_)); subst ec_; clear en_))
     have GB23 := Z0.mk gb23
     have GG23 := Z0.mk HG23
     clear gb23 gl23 HG23
     obtain ⟨hx23_0, hf23_0⟩ := Kd.R_celln 0 HO_5.out (x14_1 : Int) p23 q23
     replace p23 := eq_true p23
     replace q23 := eq_true q23
     have HP24 := Kd.R_putg HO_5.out (x14_1 : Int) (wrap64 ((wrap64 ((rd l0 x14_1) - x6_1)) + 1000000000))
     go_wp2_with (first | ((with_reducible refine gate_store (t := 3) (p := 40) rfl ?_); refine store_event (t := 3) (p := 40) (v := ?vo_w25) (w1 := (wr.setCell ⟨go23, (x14_1 : Int).toNat, none⟩ (.int .i64 (wrap64 ((wrap64 ((rd l0 x14_1) - x6_1)) + 1000000000))))) ?hg ?ho ?hn ?hr ?_; (case ho => rfl); (case hg => rfl); (case hn => rfl); (case hr => first | (go_simp; done) | (go_simp; rfl)); intro w25 hw; have hg : wr.grownBy w25 (some go23) := (by rw [hw]; exact HP24.2); have hp_ : Kd.R (Kd.int .i64) 3 w25 w.heap.size (fun _ => True) (.slice (some ⟨go23, 0, none⟩) x5_1.length co7) y239 := (by rw [hw, Ny239.out]; exact HP24.1); clear HP24; replace HO_5 := Z0.mk (hp_); replace HB := Z0.mk ((by rw [hw]; exact below_set (HB.out) GB23.out : Below w.heap.size w w25)); clear hg hw hp_))
     (try simp only [← hl5_1])
     go_roundg k1
     case measure => have := HK1.out; omega
     case rel => exact ⟨(y239), (1), (wrap64 (x14_1 + 1)), fs, fs, H', ⟨by have := HK1.out; omega⟩, ⟨by (try simp only [hl5_1]); (with_reducible repeat (first | apply Kd.R_alloc | apply Kd.R_drewN | apply Kd.R_drew)); exact HO_5.out⟩, ⟨bqs⟩⟩
    obtain ⟨c26, c26b0, H⟩ := gd H
    (try (have c26b0_ := c26b0; rw [hl5_1] at c26b0_))
    clear c26
    generalize hy240 : (x5_1.set (x14_1 : Int).toNat (wrap64 ((rd l0 x14_1) - x6_1)) : List Int) = y240 at H
    have Ny240 := Z0.mk hy240.symm
    clear hy240
    have H' := Z0.mk H
    clear H
    obtain ⟨ad235, e235, hx235_0, p235, q235⟩ := atB HB HR0.out x14_1
    cases e235
    have p27 : 0 ≤ (x14_1 : Int) := od
    have q27 : (x14_1 : Int) < ((x5_1.length : Int) : Int) := od
    obtain ⟨go27, co27, eo27, gb27, gl27, cl27, HG27⟩ := Kd.R_form HO_5.out (by omega)
    (first | cases eo27 | (injection eo27 with ea_ en_ ec_; (first | subst ea_ | (injection ea_ with ea_; subst ea_)); subst ec_; clear en_))
    have GB27 := Z0.mk gb27
    have GG27 := Z0.mk HG27
    clear gb27 gl27 HG27
    obtain ⟨hx27_0, hf27_0⟩ := Kd.R_celln 0 HO_5.out (x14_1 : Int) p27 q27
    replace p27 := eq_true p27
    replace q27 := eq_true q27
    have HP28 := Kd.R_putg HO_5.out (x14_1 : Int) (wrap64 ((rd l0 x14_1) - x6_1))
    go_wp2_with (first | ((with_reducible refine gate_store (t := 3) (p := 40) rfl ?_); refine store_event (t := 3) (p := 40) (v := ?vo_w29) (w1 := (wr.setCell ⟨go27, (x14_1 : Int).toNat, none⟩ (.int .i64 (wrap64 ((rd l0 x14_1) - x6_1))))) ?hg ?ho ?hn ?hr ?_; (case ho => rfl); (case hg => rfl); (case hn => rfl); (case hr => first | (go_simp; done) | (go_simp; rfl)); intro w29 hw; have hg : wr.grownBy w29 (some go27) := (by rw [hw]; exact HP28.2); have hp_ : Kd.R (Kd.int .i64) 3 w29 w.heap.size (fun _ => True) (.slice (some ⟨go27, 0, none⟩) x5_1.length co7) y240 := (by rw [hw, Ny240.out]; exact HP28.1); clear HP28; replace HO_5 := Z0.mk (hp_); replace HB := Z0.mk ((by rw [hw]; exact below_set (HB.out) GB27.out : Below w.heap.size w w29)); clear hg hw hp_))
    (try simp only [← hl5_1])
    go_roundg k1
    case measure => have := HK1.out; omega
    case rel => exact ⟨(y240), (0), (wrap64 (x14_1 + 1)), fs, fs, H', ⟨by have := HK1.out; omega⟩, ⟨by (try simp only [hl5_1]); (with_reducible repeat (first | apply Kd.R_alloc | apply Kd.R_drewN | apply Kd.R_drew)); exact HO_5.out⟩, ⟨bqs⟩⟩
   (try (have c8b0_ := c8b0; rw [hl5_1] at c8b0_))
   clear c8
   obtain ⟨t232, A30, H⟩ := bnd H
   obtain rfl := Option.some.inj H
   go_wp2_with (first | ((with_reducible refine gc_ 147 rfl ?_); refine gL 43 Tryz.func147 (bItrim.calls k1 (fun k_ => some k_ = (.slice Ao7 x5_1.length co7 : Value).ownBlock) (.slice Ao7 x5_1.length co7) x5_1 t232 w _ ?side1 ?side2 A30.out) ?_; (case side1 => repeat (first | (with_reducible first | exact HB.out | apply below_alloc | apply pw_below_drewN | apply below_drew1) | exact HB.out)); (case side2 => exact Kd.R_tight rfl HO_5.out); rintro _ w31 ⟨v233, rfl, ho0, hb, hkp⟩; refine ⟨_, rfl, ?_⟩; have HO234 := Z0.mk (Kd.R_mono (ok' := fun k_ => True) ho0 (fun k_ hk_ => trivial)); replace HB := Z0.mk (hb); clear HO_5; clear hb hkp ho0))
   go_ret
   exact ⟨_, fe, rq HO234, bqs⟩
end Go.Proofs.YthnfajboebaajaaGreatDoor.PA
namespace Go.Proofs.YthnfajboebaajaaGreatDoor
set_option linter.unusedVariables false
open Go.RowKit Go.Proofs.WWords Go.Proofs.WLast Go.Proofs.WMore PA
attribute [local go_sem] max2_int min2_int max_two min_two max_three min_three max_four min_four
set_option linter.unusedSimpArgs false
theorem bIplus0.calls (k : Nat) (A0 : Option Addr) (c0 : Nat) (l0 : List Int) (A1 : Option Addr) (c1 : Nat) (l1 : List Int) (r : List Int) (w : World) (hr0 : Kd.C (Kd.int .i64) w A0 l0.length l0) (hc0 : l0.length ≤ c0) (hr1 : Kd.C (Kd.int .i64) w A1 l1.length l1) (hc1 : l1.length ≤ c1) (hs : ¬ l0.length < l1.length) (h : bIplus0.f k l0 l1 = some r) :
  Calls Tryz.prog 143 #[.slice A0 l0.length c0, .slice A1 l1.length c1] w fun e w' => ∃ v0_ : Value, e = .returned (v0_) ∧ Kd.R (Kd.int .i64) 3 w' w.heap.size (fun _ => True) v0_ r ∧ Below w.heap.size w w' := by
 have HR0 := Z0.mk hr0
 have HC0 := Z0.mk hc0
 clear hr0 hc0
 have HR1 := Z0.mk hr1
 have HC1 := Z0.mk hc1
 clear hr1 hc1
 have HB := Z0.mk (Below.refl w.heap.size w)
 have H := h
 clear h
 unfold bIplus0.f at H
 have hsw : decide ((l0.length : Int) < (l1.length : Int)) = false := decide_eq_false (by omega)
 have hsn : decide (l0.length < l1.length) = false := decide_eq_false (by omega)
 have hso : (l0.length < l1.length) = False := eq_false (by omega)
 clear hs
 obtain ⟨ji3, hji3⟩ : ∃ j_ : Int, (wrap64 ((l0.length : Int) + 1)) = j_ := ⟨_, rfl⟩
 replace H : (if 0 ≤ (ji3) then (if (ji3 : Int).toNat ≤ 35184372088832 then ((some (List.replicate (ji3 : Int).toNat 0 : List Int)).bind fun y170 => (bIplus0.l0 k l0 l1 y170 0 (y170.length : Int) 0)) else (none)) else (none)) = some r := by first | (rw [hji3] at H; exact H) | (simp only [hji3] at H ⊢; exact H)
 have hji3w : (IntKind.i64.wrap ((l0.length : Int) + 1)) = ji3 := (i64_w _).trans hji3
 obtain ⟨-, c4b0, c4b1, H⟩ := gt H
 obtain ⟨-, c5b0, c5b1, H⟩ := gt H
 obtain ⟨y170, Ny170, H⟩ := yb H
 have H' := Z0.mk H
 clear H
 go_enter Tryz.func143, Tryz.ntmps143
 go_wp2_with (first | ((with_reducible refine gd_ 18 rfl ?_); refine Kd.R_make (Kd.int .i64) _ 3 rfl (N := 18) rfl 86 _ _ rfl ji3 rfl rfl Tryz.underlying86 (.int .i64 0) 8 info3 rfl (by decide) (by omega) 0 (ok := fun _ => True) (okp := fun _ => True) rfl (fun _ hk => hk) trivial od (Nat.le_trans (Nat.mul_le_mul_right _ (od : ji3.toNat ≤ 35184372088832)) (by omega)) (Below.refl _ _) (Nat.le_refl _) ?_; intro v171 w6 ho7 hb hg_ hnew_; clear hg_ hnew_; (first | rw [← Ny170.out] at ho7 | (simp only [Int.reduceToNat] at ho7; rw [← Ny170.out] at ho7)); have HO172 := Z0.mk (Kd.R_lower ho7 (below_size bqs)); replace HB := fB HB hb; clear hb ho7; obtain ⟨Ao8, co8, eo8⟩ := Kd.R_slice HO172.out; subst eo8))
 go_loopg [6, 21] k (fun kq v6 v21 w' => ∃ (x5_1 : List Int) (x6_1 : Int) (x21_1 : Int), v6 = .int .i64 x6_1 ∧ v21 = .int .i64 x21_1 ∧ Z0 (bIplus0.l0 kq l0 l1 x5_1 x6_1 (y170.length : Int) x21_1 = some r) ∧ Z0 (kq ≤ k) ∧ Z0 (Kd.R (Kd.int .i64) 3 w' w.heap.size (fun _ => True) (.slice Ao8 y170.length co8) x5_1) ∧ Z0 (Below w.heap.size w w'))
 case atStart => exact ⟨(y170), (0), (0), fs, fs, H', ⟨Nat.le_refl _⟩, ⟨rq HO172⟩, ⟨bqs⟩⟩
 case round =>
  clear H'
  try clear c1
  try clear p2
  try clear c4
  try clear c4b0
  try clear c4b1
  try clear c5
  try clear c5b0
  try clear c5b1
  try clear p6
  obtain ⟨x5_1, x6_1, x21_1, rfl, rfl, HA, HK1, HO_5, HB⟩ := hrel
  have hl5_1 := (Kd.R_reads' HO_5.out).1
  rw [hl5_1] at HO_5
  (try simp only [hl5_1])
  cases gk with
  | zero => exact absurd HA.out (by simp [bIplus0.l0])
  | succ k1 =>
   have H := HA.out
   clear HA
   simp only [bIplus0.l0] at H
   rcases jd H with ⟨c9, c9b0, H⟩ | ⟨c9, c9b0, H⟩
   ·(try (have c9b0_ := c9b0; rw [hl5_1] at c9b0_))
    clear c9
    rcases jd H with ⟨c10, c10b0, H⟩ | ⟨c10, c10b0, H⟩
    ·(try (have c10b0_ := c10b0; rw [hl5_1] at c10b0_))
     clear c10
     obtain ⟨-, c11b0, H⟩ := gd H
     rcases jd H with ⟨c12, c12b0, H⟩ | ⟨c12, c12b0, H⟩
     ·(try (have c12b0_ := c12b0; rw [hl5_1] at c12b0_))
      clear c12
      obtain ⟨c13, c13b0, H⟩ := gd H
      (try (have c13b0_ := c13b0; rw [hl5_1] at c13b0_))
      clear c13
      generalize hy178 : (x5_1.set (x21_1 : Int).toNat (Int.tmod (wrap64 ((wrap64 (x6_1 + (rd l0 x21_1))) + (rd l1 x21_1))) 1000000000) : List Int) = y178 at H
      have Ny178 := Z0.mk hy178.symm
      clear hy178
      have H' := Z0.mk H
      clear H
      obtain ⟨ad176, e176, hx176_0, p176, q176⟩ := atB HB HR0.out x21_1
      cases e176
      obtain ⟨ad177, e177, hx177_0, p177, q177⟩ := atB HB HR1.out x21_1
      cases e177
      have p14 : 0 ≤ (x21_1 : Int) := od
      have q14 : (x21_1 : Int) < ((x5_1.length : Int) : Int) := od
      obtain ⟨go14, co14, eo14, gb14, gl14, cl14, HG14⟩ := Kd.R_form HO_5.out (by omega)
      (first | cases eo14 | (injection eo14 with ea_ en_ ec_; (first | subst ea_ | (injection ea_ with ea_; subst ea_)); subst ec_; clear en_))
      have GB14 := Z0.mk gb14
      have GG14 := Z0.mk HG14
      clear gb14 gl14 HG14
      obtain ⟨hx14_0, hf14_0⟩ := Kd.R_celln 0 HO_5.out (x21_1 : Int) p14 q14
      replace p14 := eq_true p14
      replace q14 := eq_true q14
      have HP15 := Kd.R_putg HO_5.out (x21_1 : Int) (Int.tmod (wrap64 ((wrap64 (x6_1 + (rd l0 x21_1))) + (rd l1 x21_1))) 1000000000)
      go_wp2_with (first | ((with_reducible refine gate_store (t := 3) (p := 50) rfl ?_); refine store_event (t := 3) (p := 50) (v := ?vo_w16) (w1 := (wr.setCell ⟨go14, (x21_1 : Int).toNat, none⟩ (.int .i64 (Int.tmod (wrap64 ((wrap64 (x6_1 + (rd l0 x21_1))) + (rd l1 x21_1))) 1000000000)))) ?hg ?ho ?hn ?hr ?_; (case ho => rfl); (case hg => rfl); (case hn => rfl); (case hr => first | (go_simp; done) | (go_simp; rfl)); intro w16 hw; have hg : wr.grownBy w16 (some go14) := (by rw [hw]; exact HP15.2); have hp_ : Kd.R (Kd.int .i64) 3 w16 w.heap.size (fun _ => True) (.slice (some ⟨go14, 0, none⟩) x5_1.length co8) y178 := (by rw [hw, Ny178.out]; exact HP15.1); clear HP15; replace HO_5 := Z0.mk (hp_); replace HB := Z0.mk ((by rw [hw]; exact below_set (HB.out) GB14.out : Below w.heap.size w w16)); clear hg hw hp_))
      (try simp only [← hl5_1])
      go_roundg k1
      case measure => have := HK1.out; omega
      case rel => exact ⟨(y178), (wrap64 (Int.tdiv (wrap64 ((wrap64 (x6_1 + (rd l0 x21_1))) + (rd l1 x21_1))) 1000000000)), (wrap64 (x21_1 + 1)), fs, fs, H', ⟨by have := HK1.out; omega⟩, ⟨by (try simp only [hl5_1]); (with_reducible repeat (first | apply Kd.R_alloc | apply Kd.R_drewN | apply Kd.R_drew)); exact HO_5.out⟩, ⟨bqs⟩⟩
     (try (have c12b0_ := c12b0; rw [hl5_1] at c12b0_))
     clear c12
     obtain ⟨c17, c17b0, H⟩ := gd H
     (try (have c17b0_ := c17b0; rw [hl5_1] at c17b0_))
     clear c17
     generalize hy179 : (x5_1.set (x21_1 : Int).toNat (Int.tmod (wrap64 (x6_1 + (rd l0 x21_1))) 1000000000) : List Int) = y179 at H
     have Ny179 := Z0.mk hy179.symm
     clear hy179
     have H' := Z0.mk H
     clear H
     obtain ⟨ad176, e176, hx176_0, p176, q176⟩ := atB HB HR0.out x21_1
     cases e176
     have p18 : 0 ≤ (x21_1 : Int) := od
     have q18 : (x21_1 : Int) < ((x5_1.length : Int) : Int) := od
     obtain ⟨go18, co18, eo18, gb18, gl18, cl18, HG18⟩ := Kd.R_form HO_5.out (by omega)
     (first | cases eo18 | (injection eo18 with ea_ en_ ec_; (first | subst ea_ | (injection ea_ with ea_; subst ea_)); subst ec_; clear en_))
     have GB18 := Z0.mk gb18
     have GG18 := Z0.mk HG18
     clear gb18 gl18 HG18
     obtain ⟨hx18_0, hf18_0⟩ := Kd.R_celln 0 HO_5.out (x21_1 : Int) p18 q18
     replace p18 := eq_true p18
     replace q18 := eq_true q18
     have HP19 := Kd.R_putg HO_5.out (x21_1 : Int) (Int.tmod (wrap64 (x6_1 + (rd l0 x21_1))) 1000000000)
     go_wp2_with (first | ((with_reducible refine gate_store (t := 3) (p := 50) rfl ?_); refine store_event (t := 3) (p := 50) (v := ?vo_w20) (w1 := (wr.setCell ⟨go18, (x21_1 : Int).toNat, none⟩ (.int .i64 (Int.tmod (wrap64 (x6_1 + (rd l0 x21_1))) 1000000000)))) ?hg ?ho ?hn ?hr ?_; (case ho => rfl); (case hg => rfl); (case hn => rfl); (case hr => first | (go_simp; done) | (go_simp; rfl)); intro w20 hw; have hg : wr.grownBy w20 (some go18) := (by rw [hw]; exact HP19.2); have hp_ : Kd.R (Kd.int .i64) 3 w20 w.heap.size (fun _ => True) (.slice (some ⟨go18, 0, none⟩) x5_1.length co8) y179 := (by rw [hw, Ny179.out]; exact HP19.1); clear HP19; replace HO_5 := Z0.mk (hp_); replace HB := Z0.mk ((by rw [hw]; exact below_set (HB.out) GB18.out : Below w.heap.size w w20)); clear hg hw hp_))
     (try simp only [← hl5_1])
     go_roundg k1
     case measure => have := HK1.out; omega
     case rel => exact ⟨(y179), (wrap64 (Int.tdiv (wrap64 (x6_1 + (rd l0 x21_1))) 1000000000)), (wrap64 (x21_1 + 1)), fs, fs, H', ⟨by have := HK1.out; omega⟩, ⟨by (try simp only [hl5_1]); (with_reducible repeat (first | apply Kd.R_alloc | apply Kd.R_drewN | apply Kd.R_drew)); exact HO_5.out⟩, ⟨bqs⟩⟩
    (try (have c10b0_ := c10b0; rw [hl5_1] at c10b0_))
    clear c10
    rcases jd H with ⟨c21, c21b0, H⟩ | ⟨c21, c21b0, H⟩
    ·(try (have c21b0_ := c21b0; rw [hl5_1] at c21b0_))
     clear c21
     obtain ⟨-, c22b0, H⟩ := gd H
     obtain ⟨c23, c23b0, H⟩ := gd H
     (try (have c23b0_ := c23b0; rw [hl5_1] at c23b0_))
     clear c23
     generalize hy181 : (x5_1.set (x21_1 : Int).toNat (Int.tmod (wrap64 (x6_1 + (rd l1 x21_1))) 1000000000) : List Int) = y181 at H
     have Ny181 := Z0.mk hy181.symm
     clear hy181
     have H' := Z0.mk H
     clear H
     obtain ⟨ad180, e180, hx180_0, p180, q180⟩ := atB HB HR1.out x21_1
     cases e180
     have p24 : 0 ≤ (x21_1 : Int) := od
     have q24 : (x21_1 : Int) < ((x5_1.length : Int) : Int) := od
     obtain ⟨go24, co24, eo24, gb24, gl24, cl24, HG24⟩ := Kd.R_form HO_5.out (by omega)
     (first | cases eo24 | (injection eo24 with ea_ en_ ec_; (first | subst ea_ | (injection ea_ with ea_; subst ea_)); subst ec_; clear en_))
     have GB24 := Z0.mk gb24
     have GG24 := Z0.mk HG24
     clear gb24 gl24 HG24
     obtain ⟨hx24_0, hf24_0⟩ := Kd.R_celln 0 HO_5.out (x21_1 : Int) p24 q24
     replace p24 := eq_true p24
     replace q24 := eq_true q24
     have HP25 := Kd.R_putg HO_5.out (x21_1 : Int) (Int.tmod (wrap64 (x6_1 + (rd l1 x21_1))) 1000000000)
     go_wp2_with (first | ((with_reducible refine gate_store (t := 3) (p := 50) rfl ?_); refine store_event (t := 3) (p := 50) (v := ?vo_w26) (w1 := (wr.setCell ⟨go24, (x21_1 : Int).toNat, none⟩ (.int .i64 (Int.tmod (wrap64 (x6_1 + (rd l1 x21_1))) 1000000000)))) ?hg ?ho ?hn ?hr ?_; (case ho => rfl); (case hg => rfl); (case hn => rfl); (case hr => first | (go_simp; done) | (go_simp; rfl)); intro w26 hw; have hg : wr.grownBy w26 (some go24) := (by rw [hw]; exact HP25.2); have hp_ : Kd.R (Kd.int .i64) 3 w26 w.heap.size (fun _ => True) (.slice (some ⟨go24, 0, none⟩) x5_1.length co8) y181 := (by rw [hw, Ny181.out]; exact HP25.1); clear HP25; replace HO_5 := Z0.mk (hp_); replace HB := Z0.mk ((by rw [hw]; exact below_set (HB.out) GB24.out : Below w.heap.size w w26)); clear hg hw hp_))
     (try simp only [← hl5_1])
     go_roundg k1
     case measure => have := HK1.out; omega
     case rel => exact ⟨(y181), (wrap64 (Int.tdiv (wrap64 (x6_1 + (rd l1 x21_1))) 1000000000)), (wrap64 (x21_1 + 1)), fs, fs, H', ⟨by have := HK1.out; omega⟩, ⟨by (try simp only [hl5_1]); (with_reducible repeat (first | apply Kd.R_alloc | apply Kd.R_drewN | apply Kd.R_drew)); exact HO_5.out⟩, ⟨bqs⟩⟩
    (try (have c21b0_ := c21b0; rw [hl5_1] at c21b0_))
    clear c21
    obtain ⟨-, c27b0, H⟩ := gd H
    obtain ⟨c28, c28b0, H⟩ := gd H
    (try (have c28b0_ := c28b0; rw [hl5_1] at c28b0_))
    clear c28
    generalize hy182 : (x5_1.set (x21_1 : Int).toNat (Int.tmod x6_1 1000000000) : List Int) = y182 at H
    have Ny182 := Z0.mk hy182.symm
    clear hy182
    have H' := Z0.mk H
    clear H
    have p29 : 0 ≤ (x21_1 : Int) := od
    have q29 : (x21_1 : Int) < ((x5_1.length : Int) : Int) := od
    obtain ⟨go29, co29, eo29, gb29, gl29, cl29, HG29⟩ := Kd.R_form HO_5.out (by omega)
    (first | cases eo29 | (injection eo29 with ea_ en_ ec_; (first | subst ea_ | (injection ea_ with ea_; subst ea_)); subst ec_; clear en_))
    have GB29 := Z0.mk gb29
    have GG29 := Z0.mk HG29
    clear gb29 gl29 HG29
    obtain ⟨hx29_0, hf29_0⟩ := Kd.R_celln 0 HO_5.out (x21_1 : Int) p29 q29
    replace p29 := eq_true p29
    replace q29 := eq_true q29
    have HP30 := Kd.R_putg HO_5.out (x21_1 : Int) (Int.tmod x6_1 1000000000)
    go_wp2_with (first | ((with_reducible refine gate_store (t := 3) (p := 50) rfl ?_); refine store_event (t := 3) (p := 50) (v := ?vo_w31) (w1 := (wr.setCell ⟨go29, (x21_1 : Int).toNat, none⟩ (.int .i64 (Int.tmod x6_1 1000000000)))) ?hg ?ho ?hn ?hr ?_; (case ho => rfl); (case hg => rfl); (case hn => rfl); (case hr => first | (go_simp; done) | (go_simp; rfl)); intro w31 hw; have hg : wr.grownBy w31 (some go29) := (by rw [hw]; exact HP30.2); have hp_ : Kd.R (Kd.int .i64) 3 w31 w.heap.size (fun _ => True) (.slice (some ⟨go29, 0, none⟩) x5_1.length co8) y182 := (by rw [hw, Ny182.out]; exact HP30.1); clear HP30; replace HO_5 := Z0.mk (hp_); replace HB := Z0.mk ((by rw [hw]; exact below_set (HB.out) GB29.out : Below w.heap.size w w31)); clear hg hw hp_))
    (try simp only [← hl5_1])
    go_roundg k1
    case measure => have := HK1.out; omega
    case rel => exact ⟨(y182), (wrap64 (Int.tdiv x6_1 1000000000)), (wrap64 (x21_1 + 1)), fs, fs, H', ⟨by have := HK1.out; omega⟩, ⟨by (try simp only [hl5_1]); (with_reducible repeat (first | apply Kd.R_alloc | apply Kd.R_drewN | apply Kd.R_drew)); exact HO_5.out⟩, ⟨bqs⟩⟩
   (try (have c9b0_ := c9b0; rw [hl5_1] at c9b0_))
   clear c9
   obtain ⟨t173, A32, H⟩ := bnd H
   obtain rfl := Option.some.inj H
   go_wp2_with (first | ((with_reducible refine gc_ 147 rfl ?_); refine gL 53 Tryz.func147 (bItrim.calls k1 (fun k_ => some k_ = (.slice Ao8 x5_1.length co8 : Value).ownBlock) (.slice Ao8 x5_1.length co8) x5_1 t173 w _ ?side1 ?side2 A32.out) ?_; (case side1 => repeat (first | (with_reducible first | exact HB.out | apply below_alloc | apply pw_below_drewN | apply below_drew1) | exact HB.out)); (case side2 => exact Kd.R_tight rfl HO_5.out); rintro _ w33 ⟨v174, rfl, ho0, hb, hkp⟩; refine ⟨_, rfl, ?_⟩; have HO175 := Z0.mk (Kd.R_mono (ok' := fun k_ => True) ho0 (fun k_ hk_ => trivial)); replace HB := Z0.mk (hb); clear HO_5; clear hb hkp ho0))
   go_ret
   exact ⟨_, by first | rfl | (simp [errW_none, errW_some] <;> rfl) | (simp only [← hji3]; first | rfl | (simp [errW_none, errW_some] <;> rfl)) | (simp [*, errW_none, errW_some] <;> rfl), rq HO175, bqs⟩
theorem bIplus0.callsS (k : Nat) (A0 : Option Addr) (c0 : Nat) (l0 : List Int) (A1 : Option Addr) (c1 : Nat) (l1 : List Int) (r : List Int) (w : World) (hr0 : Kd.C (Kd.int .i64) w A0 l0.length l0) (hc0 : l0.length ≤ c0) (hr1 : Kd.C (Kd.int .i64) w A1 l1.length l1) (hc1 : l1.length ≤ c1) (hs : l1.length < l0.length) (h : bIplus0.f k l0 l1 = some r) :
  Calls Tryz.prog 143 #[.slice A1 l1.length c1, .slice A0 l0.length c0] w fun e w' => ∃ v0_ : Value, e = .returned (v0_) ∧ Kd.R (Kd.int .i64) 3 w' w.heap.size (fun _ => True) v0_ r ∧ Below w.heap.size w w' := by
 have HR0 := Z0.mk hr0
 have HC0 := Z0.mk hc0
 clear hr0 hc0
 have HR1 := Z0.mk hr1
 have HC1 := Z0.mk hc1
 clear hr1 hc1
 have HB := Z0.mk (Below.refl w.heap.size w)
 have H : (if 0 ≤ (wrap64 ((l0.length : Int) + 1)) then (if (wrap64 ((l0.length : Int) + 1) : Int).toNat ≤ 35184372088832 then ((some (List.replicate (wrap64 ((l0.length : Int) + 1) : Int).toNat 0 : List Int)).bind fun y170 => (bIplus0.l0 k l0 l1 y170 0 (y170.length : Int) 0)) else (none)) else (none)) = some r := h
 clear h
 have hsw : decide ((l1.length : Int) < (l0.length : Int)) = true := decide_eq_true (by omega)
 have hsn : decide (l1.length < l0.length) = true := decide_eq_true (by omega)
 have hso : (l1.length < l0.length) = True := eq_true (by omega)
 clear hs
 obtain ⟨ji3, hji3⟩ : ∃ j_ : Int, (wrap64 ((l0.length : Int) + 1)) = j_ := ⟨_, rfl⟩
 replace H : (if 0 ≤ (ji3) then (if (ji3 : Int).toNat ≤ 35184372088832 then ((some (List.replicate (ji3 : Int).toNat 0 : List Int)).bind fun y170 => (bIplus0.l0 k l0 l1 y170 0 (y170.length : Int) 0)) else (none)) else (none)) = some r := by first | (rw [hji3] at H; exact H) | (simp only [hji3] at H ⊢; exact H)
 have hji3w : (IntKind.i64.wrap ((l0.length : Int) + 1)) = ji3 := (i64_w _).trans hji3
 obtain ⟨-, c4b0, c4b1, H⟩ := gt H
 obtain ⟨-, c5b0, c5b1, H⟩ := gt H
 obtain ⟨y170, Ny170, H⟩ := yb H
 have H' := Z0.mk H
 clear H
 go_enter Tryz.func143, Tryz.ntmps143
 go_wp2_with (first | ((with_reducible refine gd_ 18 rfl ?_); refine Kd.R_make (Kd.int .i64) _ 3 rfl (N := 18) rfl 86 _ _ rfl ji3 rfl rfl Tryz.underlying86 (.int .i64 0) 8 info3 rfl (by decide) (by omega) 0 (ok := fun _ => True) (okp := fun _ => True) rfl (fun _ hk => hk) trivial od (Nat.le_trans (Nat.mul_le_mul_right _ (od : ji3.toNat ≤ 35184372088832)) (by omega)) (Below.refl _ _) (Nat.le_refl _) ?_; intro v171 w6 ho7 hb hg_ hnew_; clear hg_ hnew_; (first | rw [← Ny170.out] at ho7 | (simp only [Int.reduceToNat] at ho7; rw [← Ny170.out] at ho7)); have HO172 := Z0.mk (Kd.R_lower ho7 (below_size bqs)); replace HB := fB HB hb; clear hb ho7; obtain ⟨Ao8, co8, eo8⟩ := Kd.R_slice HO172.out; subst eo8))
 go_loopg [6, 21] k (fun kq v6 v21 w' => ∃ (x5_1 : List Int) (x6_1 : Int) (x21_1 : Int), v6 = .int .i64 x6_1 ∧ v21 = .int .i64 x21_1 ∧ Z0 (bIplus0.l0 kq l0 l1 x5_1 x6_1 (y170.length : Int) x21_1 = some r) ∧ Z0 (kq ≤ k) ∧ Z0 (Kd.R (Kd.int .i64) 3 w' w.heap.size (fun _ => True) (.slice Ao8 y170.length co8) x5_1) ∧ Z0 (Below w.heap.size w w'))
 case atStart => exact ⟨(y170), (0), (0), fs, fs, H', ⟨Nat.le_refl _⟩, ⟨rq HO172⟩, ⟨bqs⟩⟩
 case round =>
  clear H'
  try clear c1
  try clear p2
  try clear c4
  try clear c4b0
  try clear c4b1
  try clear c5
  try clear c5b0
  try clear c5b1
  try clear p6
  obtain ⟨x5_1, x6_1, x21_1, rfl, rfl, HA, HK1, HO_5, HB⟩ := hrel
  have hl5_1 := (Kd.R_reads' HO_5.out).1
  rw [hl5_1] at HO_5
  (try simp only [hl5_1])
  cases gk with
  | zero => exact absurd HA.out (by simp [bIplus0.l0])
  | succ k1 =>
   have H := HA.out
   clear HA
   simp only [bIplus0.l0] at H
   rcases jd H with ⟨c9, c9b0, H⟩ | ⟨c9, c9b0, H⟩
   ·(try (have c9b0_ := c9b0; rw [hl5_1] at c9b0_))
    clear c9
    rcases jd H with ⟨c10, c10b0, H⟩ | ⟨c10, c10b0, H⟩
    ·(try (have c10b0_ := c10b0; rw [hl5_1] at c10b0_))
     clear c10
     obtain ⟨-, c11b0, H⟩ := gd H
     rcases jd H with ⟨c12, c12b0, H⟩ | ⟨c12, c12b0, H⟩
     ·(try (have c12b0_ := c12b0; rw [hl5_1] at c12b0_))
      clear c12
      obtain ⟨c13, c13b0, H⟩ := gd H
      (try (have c13b0_ := c13b0; rw [hl5_1] at c13b0_))
      clear c13
      generalize hy178 : (x5_1.set (x21_1 : Int).toNat (Int.tmod (wrap64 ((wrap64 (x6_1 + (rd l0 x21_1))) + (rd l1 x21_1))) 1000000000) : List Int) = y178 at H
      have Ny178 := Z0.mk hy178.symm
      clear hy178
      have H' := Z0.mk H
      clear H
      obtain ⟨ad176, e176, hx176_0, p176, q176⟩ := atB HB HR0.out x21_1
      cases e176
      obtain ⟨ad177, e177, hx177_0, p177, q177⟩ := atB HB HR1.out x21_1
      cases e177
      have p14 : 0 ≤ (x21_1 : Int) := od
      have q14 : (x21_1 : Int) < ((x5_1.length : Int) : Int) := od
      obtain ⟨go14, co14, eo14, gb14, gl14, cl14, HG14⟩ := Kd.R_form HO_5.out (by omega)
      (first | cases eo14 | (injection eo14 with ea_ en_ ec_; (first | subst ea_ | (injection ea_ with ea_; subst ea_)); subst ec_; clear en_))
      have GB14 := Z0.mk gb14
      have GG14 := Z0.mk HG14
      clear gb14 gl14 HG14
      obtain ⟨hx14_0, hf14_0⟩ := Kd.R_celln 0 HO_5.out (x21_1 : Int) p14 q14
      replace p14 := eq_true p14
      replace q14 := eq_true q14
      have HP15 := Kd.R_putg HO_5.out (x21_1 : Int) (Int.tmod (wrap64 ((wrap64 (x6_1 + (rd l0 x21_1))) + (rd l1 x21_1))) 1000000000)
      go_wp2_with (first | ((with_reducible refine gate_store (t := 3) (p := 50) rfl ?_); refine store_event (t := 3) (p := 50) (v := ?vo_w16) (w1 := (wr.setCell ⟨go14, (x21_1 : Int).toNat, none⟩ (.int .i64 (Int.tmod (wrap64 ((wrap64 (x6_1 + (rd l0 x21_1))) + (rd l1 x21_1))) 1000000000)))) ?hg ?ho ?hn ?hr ?_; (case ho => rfl); (case hg => rfl); (case hn => rfl); (case hr => first | (go_simp; done) | (go_simp; rfl)); intro w16 hw; have hg : wr.grownBy w16 (some go14) := (by rw [hw]; exact HP15.2); have hp_ : Kd.R (Kd.int .i64) 3 w16 w.heap.size (fun _ => True) (.slice (some ⟨go14, 0, none⟩) x5_1.length co8) y178 := (by rw [hw, Ny178.out]; exact HP15.1); clear HP15; replace HO_5 := Z0.mk (hp_); replace HB := Z0.mk ((by rw [hw]; exact below_set (HB.out) GB14.out : Below w.heap.size w w16)); clear hg hw hp_))
      (try simp only [← hl5_1])
      go_roundg k1
      case measure => have := HK1.out; omega
      case rel => exact ⟨(y178), (wrap64 (Int.tdiv (wrap64 ((wrap64 (x6_1 + (rd l0 x21_1))) + (rd l1 x21_1))) 1000000000)), (wrap64 (x21_1 + 1)), fs, fs, H', ⟨by have := HK1.out; omega⟩, ⟨by (try simp only [hl5_1]); (with_reducible repeat (first | apply Kd.R_alloc | apply Kd.R_drewN | apply Kd.R_drew)); exact HO_5.out⟩, ⟨bqs⟩⟩
     (try (have c12b0_ := c12b0; rw [hl5_1] at c12b0_))
     clear c12
     obtain ⟨c17, c17b0, H⟩ := gd H
     (try (have c17b0_ := c17b0; rw [hl5_1] at c17b0_))
     clear c17
     generalize hy179 : (x5_1.set (x21_1 : Int).toNat (Int.tmod (wrap64 (x6_1 + (rd l0 x21_1))) 1000000000) : List Int) = y179 at H
     have Ny179 := Z0.mk hy179.symm
     clear hy179
     have H' := Z0.mk H
     clear H
     obtain ⟨ad176, e176, hx176_0, p176, q176⟩ := atB HB HR0.out x21_1
     cases e176
     have p18 : 0 ≤ (x21_1 : Int) := od
     have q18 : (x21_1 : Int) < ((x5_1.length : Int) : Int) := od
     obtain ⟨go18, co18, eo18, gb18, gl18, cl18, HG18⟩ := Kd.R_form HO_5.out (by omega)
     (first | cases eo18 | (injection eo18 with ea_ en_ ec_; (first | subst ea_ | (injection ea_ with ea_; subst ea_)); subst ec_; clear en_))
     have GB18 := Z0.mk gb18
     have GG18 := Z0.mk HG18
     clear gb18 gl18 HG18
     obtain ⟨hx18_0, hf18_0⟩ := Kd.R_celln 0 HO_5.out (x21_1 : Int) p18 q18
     replace p18 := eq_true p18
     replace q18 := eq_true q18
     have HP19 := Kd.R_putg HO_5.out (x21_1 : Int) (Int.tmod (wrap64 (x6_1 + (rd l0 x21_1))) 1000000000)
     go_wp2_with (first | ((with_reducible refine gate_store (t := 3) (p := 50) rfl ?_); refine store_event (t := 3) (p := 50) (v := ?vo_w20) (w1 := (wr.setCell ⟨go18, (x21_1 : Int).toNat, none⟩ (.int .i64 (Int.tmod (wrap64 (x6_1 + (rd l0 x21_1))) 1000000000)))) ?hg ?ho ?hn ?hr ?_; (case ho => rfl); (case hg => rfl); (case hn => rfl); (case hr => first | (go_simp; done) | (go_simp; rfl)); intro w20 hw; have hg : wr.grownBy w20 (some go18) := (by rw [hw]; exact HP19.2); have hp_ : Kd.R (Kd.int .i64) 3 w20 w.heap.size (fun _ => True) (.slice (some ⟨go18, 0, none⟩) x5_1.length co8) y179 := (by rw [hw, Ny179.out]; exact HP19.1); clear HP19; replace HO_5 := Z0.mk (hp_); replace HB := Z0.mk ((by rw [hw]; exact below_set (HB.out) GB18.out : Below w.heap.size w w20)); clear hg hw hp_))
     (try simp only [← hl5_1])
     go_roundg k1
     case measure => have := HK1.out; omega
     case rel => exact ⟨(y179), (wrap64 (Int.tdiv (wrap64 (x6_1 + (rd l0 x21_1))) 1000000000)), (wrap64 (x21_1 + 1)), fs, fs, H', ⟨by have := HK1.out; omega⟩, ⟨by (try simp only [hl5_1]); (with_reducible repeat (first | apply Kd.R_alloc | apply Kd.R_drewN | apply Kd.R_drew)); exact HO_5.out⟩, ⟨bqs⟩⟩
    (try (have c10b0_ := c10b0; rw [hl5_1] at c10b0_))
    clear c10
    rcases jd H with ⟨c21, c21b0, H⟩ | ⟨c21, c21b0, H⟩
    ·(try (have c21b0_ := c21b0; rw [hl5_1] at c21b0_))
     clear c21
     obtain ⟨-, c22b0, H⟩ := gd H
     obtain ⟨c23, c23b0, H⟩ := gd H
     (try (have c23b0_ := c23b0; rw [hl5_1] at c23b0_))
     clear c23
     generalize hy181 : (x5_1.set (x21_1 : Int).toNat (Int.tmod (wrap64 (x6_1 + (rd l1 x21_1))) 1000000000) : List Int) = y181 at H
     have Ny181 := Z0.mk hy181.symm
     clear hy181
     have H' := Z0.mk H
     clear H
     obtain ⟨ad180, e180, hx180_0, p180, q180⟩ := atB HB HR1.out x21_1
     cases e180
     have p24 : 0 ≤ (x21_1 : Int) := od
     have q24 : (x21_1 : Int) < ((x5_1.length : Int) : Int) := od
     obtain ⟨go24, co24, eo24, gb24, gl24, cl24, HG24⟩ := Kd.R_form HO_5.out (by omega)
     (first | cases eo24 | (injection eo24 with ea_ en_ ec_; (first | subst ea_ | (injection ea_ with ea_; subst ea_)); subst ec_; clear en_))
     have GB24 := Z0.mk gb24
     have GG24 := Z0.mk HG24
     clear gb24 gl24 HG24
     obtain ⟨hx24_0, hf24_0⟩ := Kd.R_celln 0 HO_5.out (x21_1 : Int) p24 q24
     replace p24 := eq_true p24
     replace q24 := eq_true q24
     have HP25 := Kd.R_putg HO_5.out (x21_1 : Int) (Int.tmod (wrap64 (x6_1 + (rd l1 x21_1))) 1000000000)
     go_wp2_with (first | ((with_reducible refine gate_store (t := 3) (p := 50) rfl ?_); refine store_event (t := 3) (p := 50) (v := ?vo_w26) (w1 := (wr.setCell ⟨go24, (x21_1 : Int).toNat, none⟩ (.int .i64 (Int.tmod (wrap64 (x6_1 + (rd l1 x21_1))) 1000000000)))) ?hg ?ho ?hn ?hr ?_; (case ho => rfl); (case hg => rfl); (case hn => rfl); (case hr => first | (go_simp; done) | (go_simp; rfl)); intro w26 hw; have hg : wr.grownBy w26 (some go24) := (by rw [hw]; exact HP25.2); have hp_ : Kd.R (Kd.int .i64) 3 w26 w.heap.size (fun _ => True) (.slice (some ⟨go24, 0, none⟩) x5_1.length co8) y181 := (by rw [hw, Ny181.out]; exact HP25.1); clear HP25; replace HO_5 := Z0.mk (hp_); replace HB := Z0.mk ((by rw [hw]; exact below_set (HB.out) GB24.out : Below w.heap.size w w26)); clear hg hw hp_))
     (try simp only [← hl5_1])
     go_roundg k1
     case measure => have := HK1.out; omega
     case rel => exact ⟨(y181), (wrap64 (Int.tdiv (wrap64 (x6_1 + (rd l1 x21_1))) 1000000000)), (wrap64 (x21_1 + 1)), fs, fs, H', ⟨by have := HK1.out; omega⟩, ⟨by (try simp only [hl5_1]); (with_reducible repeat (first | apply Kd.R_alloc | apply Kd.R_drewN | apply Kd.R_drew)); exact HO_5.out⟩, ⟨bqs⟩⟩
    (try (have c21b0_ := c21b0; rw [hl5_1] at c21b0_))
    clear c21
    obtain ⟨-, c27b0, H⟩ := gd H
    obtain ⟨c28, c28b0, H⟩ := gd H
    (try (have c28b0_ := c28b0; rw [hl5_1] at c28b0_))
    clear c28
    generalize hy182 : (x5_1.set (x21_1 : Int).toNat (Int.tmod x6_1 1000000000) : List Int) = y182 at H
    have Ny182 := Z0.mk hy182.symm
    clear hy182
    have H' := Z0.mk H
    clear H
    have p29 : 0 ≤ (x21_1 : Int) := od
    have q29 : (x21_1 : Int) < ((x5_1.length : Int) : Int) := od
    obtain ⟨go29, co29, eo29, gb29, gl29, cl29, HG29⟩ := Kd.R_form HO_5.out (by omega)
    (first | cases eo29 | (injection eo29 with ea_ en_ ec_; (first | subst ea_ | (injection ea_ with ea_; subst ea_)); subst ec_; clear en_))
    have GB29 := Z0.mk gb29
    have GG29 := Z0.mk HG29
    clear gb29 gl29 HG29
    obtain ⟨hx29_0, hf29_0⟩ := Kd.R_celln 0 HO_5.out (x21_1 : Int) p29 q29
    replace p29 := eq_true p29
    replace q29 := eq_true q29
    have HP30 := Kd.R_putg HO_5.out (x21_1 : Int) (Int.tmod x6_1 1000000000)
    go_wp2_with (first | ((with_reducible refine gate_store (t := 3) (p := 50) rfl ?_); refine store_event (t := 3) (p := 50) (v := ?vo_w31) (w1 := (wr.setCell ⟨go29, (x21_1 : Int).toNat, none⟩ (.int .i64 (Int.tmod x6_1 1000000000)))) ?hg ?ho ?hn ?hr ?_; (case ho => rfl); (case hg => rfl); (case hn => rfl); (case hr => first | (go_simp; done) | (go_simp; rfl)); intro w31 hw; have hg : wr.grownBy w31 (some go29) := (by rw [hw]; exact HP30.2); have hp_ : Kd.R (Kd.int .i64) 3 w31 w.heap.size (fun _ => True) (.slice (some ⟨go29, 0, none⟩) x5_1.length co8) y182 := (by rw [hw, Ny182.out]; exact HP30.1); clear HP30; replace HO_5 := Z0.mk (hp_); replace HB := Z0.mk ((by rw [hw]; exact below_set (HB.out) GB29.out : Below w.heap.size w w31)); clear hg hw hp_))
    (try simp only [← hl5_1])
    go_roundg k1
    case measure => have := HK1.out; omega
    case rel => exact ⟨(y182), (wrap64 (Int.tdiv x6_1 1000000000)), (wrap64 (x21_1 + 1)), fs, fs, H', ⟨by have := HK1.out; omega⟩, ⟨by (try simp only [hl5_1]); (with_reducible repeat (first | apply Kd.R_alloc | apply Kd.R_drewN | apply Kd.R_drew)); exact HO_5.out⟩, ⟨bqs⟩⟩
   (try (have c9b0_ := c9b0; rw [hl5_1] at c9b0_))
   clear c9
   obtain ⟨t173, A32, H⟩ := bnd H
   obtain rfl := Option.some.inj H
   go_wp2_with (first | ((with_reducible refine gc_ 147 rfl ?_); refine gL 53 Tryz.func147 (bItrim.calls k1 (fun k_ => some k_ = (.slice Ao8 x5_1.length co8 : Value).ownBlock) (.slice Ao8 x5_1.length co8) x5_1 t173 w _ ?side1 ?side2 A32.out) ?_; (case side1 => repeat (first | (with_reducible first | exact HB.out | apply below_alloc | apply pw_below_drewN | apply below_drew1) | exact HB.out)); (case side2 => exact Kd.R_tight rfl HO_5.out); rintro _ w33 ⟨v174, rfl, ho0, hb, hkp⟩; refine ⟨_, rfl, ?_⟩; have HO175 := Z0.mk (Kd.R_mono (ok' := fun k_ => True) ho0 (fun k_ hk_ => trivial)); replace HB := Z0.mk (hb); clear HO_5; clear hb hkp ho0))
   go_ret
   exact ⟨_, by first | rfl | (simp [errW_none, errW_some] <;> rfl) | (simp only [← hji3]; first | rfl | (simp [errW_none, errW_some] <;> rfl)) | (simp [*, errW_none, errW_some] <;> rfl), rq HO175, bqs⟩
theorem bIplus.calls (k : Nat) (A0 : Option Addr) (c0 : Nat) (l0 : List Int) (A1 : Option Addr) (c1 : Nat) (l1 : List Int) (r : List Int) (w : World) (hr0 : Kd.C (Kd.int .i64) w A0 l0.length l0) (hc0 : l0.length ≤ c0) (hr1 : Kd.C (Kd.int .i64) w A1 l1.length l1) (hc1 : l1.length ≤ c1) (h : bIplus.f k l0 l1 = some r) :
  Calls Tryz.prog 143 #[.slice A0 l0.length c0, .slice A1 l1.length c1] w fun e w' => ∃ v0_ : Value, e = .returned (v0_) ∧ Kd.R (Kd.int .i64) 3 w' w.heap.size (fun _ => True) v0_ r ∧ Below w.heap.size w w' := by
 unfold bIplus.f at h
 split at h
 ·rename_i hs
  exact bIplus0.callsS k A1 c1 l1 A0 c0 l0 r w hr1 hc1 hr0 hc0 hs h
 rename_i hs
 exact bIplus0.calls k A0 c0 l0 A1 c1 l1 r w hr0 hc0 hr1 hc1 hs h
set_option linter.unusedVariables false
set_option linter.unusedSimpArgs false
theorem run_store_func {P : Program} {w : World} {a : Addr} {m : Mode} (f : Fn) (x y : Array Value) : (store a (.func f x y) m).run P w = stored P w a (.func f x y) m := run_store P w a _ m rfl
attribute [local go_sem] run_store_func
def opsV : Value := .agg #[.func (.func 143) #[] #[], .func (.func 163) #[] #[], .func (.func 164) #[] #[], .func (.func 165) #[] #[]]
theorem ops_calls (w : World) : Calls Tryz.prog 125 #[] w fun e w' => e = .returned opsV ∧ Below w.heap.size w w' := by
 have hu123 := Tryz.underlying123
 have hu122 := Tryz.underlying122
 go_enter Tryz.func125, Tryz.ntmps125
 go_wp2_with ((with_reducible refine gd_ 0 rfl ?_); refine bxE 0 #[.nilFunc, .nilFunc, .nilFunc, .nilFunc] 123 ?_; intro g hg w1 hbox hb
              have c0 := blk_cell hbox 0; have c1 := blk_cell hbox 1; have c2 := blk_cell hbox 2; have c3 := blk_cell hbox 3
              have f0 := blk_frozen hbox 0; have f1 := blk_frozen hbox 1; have f2 := blk_frozen hbox 2; have f3 := blk_frozen hbox 3
              replace c0 := c0.trans (show _ = some Value.nilFunc from rfl); replace c1 := c1.trans (show _ = some Value.nilFunc from rfl); replace c2 := c2.trans (show _ = some Value.nilFunc from rfl); replace c3 := c3.trans (show _ = some Value.nilFunc from rfl)
              have hge : w.heap.size ≤ g := by omega
              clear hg)
 refine bodyPost_ret (results_cell_row rfl _ _ g 123 #[.func (.func 143) #[] #[], .func (.func 163) #[] #[], .func (.func 164) #[] #[], .func (.func 165) #[] #[]] (0, 0) _ rfl ?_ Tryz.underlying123 rfl (by kernel_rfl)) rfl ?_
 ·exact blk_put (cs := #[.func (.func 143) #[] #[], .func (.func 163) #[] #[], .func (.func 164) #[] #[], .nilFunc]) (blk_put (cs := #[.func (.func 143) #[] #[], .func (.func 163) #[] #[], .nilFunc, .nilFunc]) (blk_put (cs := #[.func (.func 143) #[] #[], .nilFunc, .nilFunc, .nilFunc]) (blk_put hbox 0 _ rfl) 1 _ rfl) 2 _ rfl) 3 _ rfl
 exact ⟨rfl, below_set (below_set (below_set (below_set hb hge) hge) hge) hge⟩
theorem op1_calls (a0 a1 : Bool) (v0 v1 : Value) (w : World) : Calls Tryz.prog 163 #[.agg #[.bool a0, v0], .agg #[.bool a1, v1]] w fun e w' => e = .returned (.bool a0) ∧ Below w.heap.size w w' := by
 have hu88 := Tryz.underlying88
 go_enter Tryz.func163, Tryz.ntmps163
 go_wp2
 go_ret
 exact ⟨rfl, ((Below.refl _ w).alloc (Nat.le_refl _) _).alloc (by simp) _⟩
theorem op2_calls (k : Nat) (A0 : Option Addr) (c0 : Nat) (l0 : List Int) (A1 : Option Addr) (c1 : Nat) (l1 : List Int) (t : Int) (r : List Int) (w : World) (hr0 : Kd.C (Kd.int .i64) w A0 l0.length l0) (hc0 : l0.length ≤ c0) (hr1 : Kd.C (Kd.int .i64) w A1 l1.length l1) (hc1 : l1.length ≤ c1)
    (ho : bIorder.f l0 l1 = some t) (h : (if t < 0 then bIminus.f k l1 l0 else bIminus.f k l0 l1) = some r) :
    Calls Tryz.prog 164 #[.slice A0 l0.length c0, .slice A1 l1.length c1] w fun e w' => ∃ v0_ : Value, e = .returned (v0_) ∧ Kd.R (Kd.int .i64) 3 w' w.heap.size (fun _ => True) v0_ r ∧ Below w.heap.size w w' := by
 by_cases c : t < 0
 ·rw [if_pos c] at h
  have c0b : decide (t < 0) = true := decide_eq_true c
  clear c
  go_enter Tryz.func164, Tryz.ntmps164
  go_wp2_with (first
    | ((with_reducible refine gc_ 145 rfl ?_); refine goB (w0 := w) (some 7) Tryz.func145 #[.slice A0 l0.length c0, .slice A1 l1.length c1] (Below.refl _ _) (bIorder.calls _ _ l0 _ _ l1 t _ hr0 hc0 hr1 hc1 ho) ?_; intro w1 HB)
    | ((with_reducible refine gc_ 144 rfl ?_); refine goesL_ (some 13) rfl rfl Tryz.func144 (by kernel_rfl) rfl #[.slice A1 l1.length c1, .slice A0 l0.length c0] rfl (by (try simp only [List.map_toArray, List.map_cons, List.map_nil]); first | done | rfl) ?_
       refine (bIminus.calls k A1 c1 l1 A0 c0 l0 r _ (Kd.C_below hr1 HB.out) hc1 (Kd.C_below hr0 HB.out) hc0 h).mono ?_
       rintro e w2 ⟨v0, rfl, hR, hb⟩; refine ⟨_, rfl, ?_⟩))
  go_ret
  exact ⟨_, rfl, Kd.R_lower hR HB.out.size, below_step HB.out hb⟩
 rw [if_neg c] at h
 have c0b : decide (t < 0) = false := decide_eq_false c
 clear c
 go_enter Tryz.func164, Tryz.ntmps164
 go_wp2_with (first
   | ((with_reducible refine gc_ 145 rfl ?_); refine goB (w0 := w) (some 7) Tryz.func145 #[.slice A0 l0.length c0, .slice A1 l1.length c1] (Below.refl _ _) (bIorder.calls _ _ l0 _ _ l1 t _ hr0 hc0 hr1 hc1 ho) ?_; intro w1 HB)
   | ((with_reducible refine gc_ 144 rfl ?_); refine goesL_ (some 13) rfl rfl Tryz.func144 (by kernel_rfl) rfl #[.slice A0 l0.length c0, .slice A1 l1.length c1] rfl (by (try simp only [List.map_toArray, List.map_cons, List.map_nil]); first | done | rfl) ?_
      refine (bIminus.calls k A0 c0 l0 A1 c1 l1 r _ (Kd.C_below hr0 HB.out) hc0 (Kd.C_below hr1 HB.out) hc1 h).mono ?_
      rintro e w2 ⟨v0, rfl, hR, hb⟩; refine ⟨_, rfl, ?_⟩))
 go_ret
 exact ⟨_, rfl, Kd.R_lower hR HB.out.size, below_step HB.out hb⟩
theorem op3_calls (a0 a1 : Bool) (A0 : Option Addr) (c0 : Nat) (l0 : List Int) (A1 : Option Addr) (c1 : Nat) (l1 : List Int) (t : Int) (w : World) (hr0 : Kd.C (Kd.int .i64) w A0 l0.length l0) (hc0 : l0.length ≤ c0) (hr1 : Kd.C (Kd.int .i64) w A1 l1.length l1) (hc1 : l1.length ≤ c1)
    (ho : bIorder.f l0 l1 = some t) :
    Calls Tryz.prog 165 #[.agg #[.bool a0, .slice A0 l0.length c0], .agg #[.bool a1, .slice A1 l1.length c1]] w fun e w' => e = .returned (.bool (decide (t < 0) != a0)) ∧ Below w.heap.size w w' := by
 have hu88 := Tryz.underlying88
 go_enter Tryz.func165, Tryz.ntmps165
 go_wp2
 obtain ⟨s, hs⟩ : ∃ s, w.heap.size = s := ⟨_, rfl⟩
 simp only [hs]
 obtain ⟨W, hW⟩ : ∃ W, (w.alloc (.cells #[.bool a0, .slice A0 l0.length c0] 88)).alloc (.cells #[.bool a1, .slice A1 l1.length c1] 88) = W := ⟨_, rfl⟩
 rw [hW]
 have hB : Below s w W := by rw [← hW]; exact ((Below.refl _ w).alloc (by omega) _).alloc (by simp; omega) _
 have h0 : W.heap[s]? = some (.cells #[.bool a0, .slice A0 l0.length c0] 88 (0, 0)) := by rw [← hW, ← hs]; exact (Below.heap_alloc _ _ _ (by simp)).trans (World.alloc_heap_new w _)
 have h1 : W.heap[s + 1]? = some (.cells #[.bool a1, .slice A1 l1.length c1] 88 (0, 0)) := by
  rw [← hW, ← hs]; have := World.alloc_heap_new (w.alloc (.cells #[.bool a0, .slice A0 l0.length c0] 88)) (.cells #[.bool a1, .slice A1 l1.length c1] 88); simpa using this
 have hlt : s + 1 < W.heap.size := (Array.getElem?_eq_some_iff.1 h1).1
 clear hW
 have k0 : Kd.C (Kd.int .i64) W.drew A0 l0.length l0 := Kd.C_below hr0 (by rw [hs]; exact hB.drew)
 have k1 : Kd.C (Kd.int .i64) W.drew A1 l1.length l1 := Kd.C_below hr1 (by rw [hs]; exact hB.drew)
 have f00 := blk_cell h0 0
 have f01 := blk_cell h0 1
 have f11 := blk_cell h1 1
 go_region_held3 (fun w' => w'.cell? ⟨s, 0, none⟩ = some (.bool a0) ∧ w'.cell? ⟨s, 1, none⟩ = some (.slice A0 l0.length c0) ∧ w'.cell? ⟨s + 1, 1, none⟩ = some (.slice A1 l1.length c1)) (first | exact ⟨f00, f01, f11⟩ | exact ⟨(blk_cell g0 0), (blk_cell g0 1), (blk_cell g1 1)⟩) (first | (go_at_call 145; refine (bIorder.calls _ _ l0 _ _ l1 t _ k0 hc0 k1 hc1 ho).mono ?_; rintro e w' ⟨rfl, hb⟩; have g0 : w'.heap[s]? = some (.cells #[.bool a0, .slice A0 l0.length c0] 88 (0, 0)) := (hb.block s (show s < W.heap.size by omega)).trans h0; have g1 : w'.heap[s + 1]? = some (.cells #[.bool a1, .slice A1 l1.length c1] 88 (0, 0)) := (hb.block (s + 1) hlt).trans h1))
 all_goals go_wp2
 all_goals go_ret
 refine ⟨by simp [bne], by rw [hs]; exact (hB.drew).trans (hb.mono (by have := hB.size; rw [hs] at this; exact this))⟩
set_option linter.unusedVariables false
set_option linter.unusedSimpArgs false
attribute [local go_sem] run_store_func
theorem at123_0 (w : World) : (Instr.index 123 opsV (.int .i64 0)).run Tryz.prog w = .ok (.agg #[.func (.func 143) #[] #[], .func (.func 163) #[] #[]]) w := by kernel_rfl
theorem at123_1 (w : World) : (Instr.index 123 opsV (.int .i64 1)).run Tryz.prog w = .ok (.agg #[.func (.func 164) #[] #[], .func (.func 165) #[] #[]]) w := by kernel_rfl
attribute [local go_sem] at123_0 at123_1
structure SumI (s : Nat) (a0 : Bool) (A0 : Option Addr) (c0 : Nat) (l0 : List Int) (a1 : Bool) (A1 : Option Addr) (c1 : Nat) (l1 : List Int) (f g : Nat) (gf : Nat) (w W : World) : Prop where
 x : W.heap[s]? = some (.cells #[.bool a0, .slice A0 l0.length c0] 88 (0, 0))
 y : W.heap[s + 1]? = some (.cells #[.bool a1, .slice A1 l1.length c1] 88 (0, 0))
 r : W.heap[s + 2]? = some (.cells #[.bool false, .slice none 0 0] 88 (0, 0))
 o : W.heap[gf]? = some (.cells #[.func (.func f) #[] #[], .func (.func g) #[] #[]] 122 (0, 0))
 b : Below w.heap.size w W
 kx : Kd.C (Kd.int .i64) W A0 l0.length l0
 ky : Kd.C (Kd.int .i64) W A1 l1.length l1
 ne : s + 3 ≤ gf
theorem SumI.on {s : Nat} {a0 : Bool} {A0 : Option Addr} {c0 : Nat} {l0 : List Int} {a1 : Bool} {A1 : Option Addr} {c1 : Nat} {l1 : List Int} {f g gf : Nat} {w W W' : World} (h : SumI s a0 A0 c0 l0 a1 A1 c1 l1 f g gf w W) (hb : Below W.heap.size W W') : SumI s a0 A0 c0 l0 a1 A1 c1 l1 f g gf w W' :=
 have k : ∀ {j : Nat} {o : Obj}, W.heap[j]? = some o → W'.heap[j]? = some o := fun hj => (hb.block _ (Array.getElem?_eq_some_iff.1 hj).1).trans hj
 ⟨k h.x, k h.y, k h.r, k h.o, h.b.trans (hb.mono h.b.size), Kd.C_below h.kx hb, Kd.C_below h.ky hb, h.ne⟩
def SumS (s : Nat) (a0 : Bool) (A0 : Option Addr) (c0 : Nat) (l0 : List Int) (a1 : Bool) (A1 : Option Addr) (c1 : Nat) (l1 : List Int) (f g : Nat) (gf : Nat) (w' : World) : Prop :=
 w'.cell? ⟨s, 0, none⟩ = some (.bool a0) ∧ w'.cell? ⟨s, 1, none⟩ = some (.slice A0 l0.length c0) ∧ w'.cell? ⟨s + 1, 0, none⟩ = some (.bool a1) ∧ w'.cell? ⟨s + 1, 1, none⟩ = some (.slice A1 l1.length c1) ∧ w'.cell? ⟨gf, 0, none⟩ = some (.func (.func f) #[] #[]) ∧ w'.cell? ⟨gf, 1, none⟩ = some (.func (.func g) #[] #[])
theorem SumI.cells {s : Nat} {a0 : Bool} {A0 : Option Addr} {c0 : Nat} {l0 : List Int} {a1 : Bool} {A1 : Option Addr} {c1 : Nat} {l1 : List Int} {f g gf : Nat} {w W : World} (h : SumI s a0 A0 c0 l0 a1 A1 c1 l1 f g gf w W) : SumS s a0 A0 c0 l0 a1 A1 c1 l1 f g gf W :=
 ⟨blk_cell h.x 0, blk_cell h.x 1, blk_cell h.y 0, blk_cell h.y 1, blk_cell h.o 0, blk_cell h.o 1⟩
theorem SumI.put {s : Nat} {a0 : Bool} {A0 : Option Addr} {c0 : Nat} {l0 : List Int} {a1 : Bool} {A1 : Option Addr} {c1 : Nat} {l1 : List Int} {f g gf : Nat} {w W : World} (h : SumI s a0 A0 c0 l0 a1 A1 c1 l1 f g gf w W) (u v : Value) : SumS s a0 A0 c0 l0 a1 A1 c1 l1 f g gf ((W.setCell ⟨s + 1 + 1, 0, none⟩ u).setCell ⟨s + 1 + 1, 1, none⟩ v) := by
 have k : ∀ {j : Nat} {o : Obj}, j ≠ s + 1 + 1 → W.heap[j]? = some o → ((W.setCell ⟨s + 1 + 1, 0, none⟩ u).setCell ⟨s + 1 + 1, 1, none⟩ v).heap[j]? = some o := fun hn hj => (Below.heap_setCell _ _ _ _ hn).trans ((Below.heap_setCell _ _ _ _ hn).trans hj)
 have hne := h.ne
 have hx := k (by omega) h.x
 have hy := k (by omega) h.y
 have ho := k (by omega) h.o
 exact ⟨blk_cell hx 0, blk_cell hx 1, blk_cell hy 0, blk_cell hy 1, blk_cell ho 0, blk_cell ho 1⟩
theorem SumI.end_ {s : Nat} {a0 : Bool} {A0 : Option Addr} {c0 : Nat} {l0 : List Int} {a1 : Bool} {A1 : Option Addr} {c1 : Nat} {l1 : List Int} {f g gf : Nat} {w W : World} (h : SumI s a0 A0 c0 l0 a1 A1 c1 l1 f g gf w W) (u v : Value) : ((W.setCell ⟨s + 1 + 1, 0, none⟩ u).setCell ⟨s + 1 + 1, 1, none⟩ v).heap[s + 1 + 1]? = some (.cells #[u, v] 88 (0, 0)) :=
 blk_put (cs := #[u, .slice none 0 0]) (blk_put (cs := #[.bool false, .slice none 0 0]) h.r 0 _ rfl) 1 _ rfl
theorem SumI.new (w w1 : World) (a0 : Bool) (A0 : Option Addr) (c0 : Nat) (l0 : List Int) (a1 : Bool) (A1 : Option Addr) (c1 : Nat) (l1 : List Int) (f g : Nat) (hr0 : Kd.C (Kd.int .i64) w A0 l0.length l0) (hr1 : Kd.C (Kd.int .i64) w A1 l1.length l1)
  (hb : Below (((w.alloc (.cells #[.bool a0, .slice A0 l0.length c0] 88)).alloc (.cells #[.bool a1, .slice A1 l1.length c1] 88)).alloc (.cells #[.bool false, .slice none 0 0] 88)).heap.size (((w.alloc (.cells #[.bool a0, .slice A0 l0.length c0] 88)).alloc (.cells #[.bool a1, .slice A1 l1.length c1] 88)).alloc (.cells #[.bool false, .slice none 0 0] 88)) w1) :
  SumI w.heap.size a0 A0 c0 l0 a1 A1 c1 l1 f g w1.heap.size w (w1.alloc (.cells #[.func (.func f) #[] #[], .func (.func g) #[] #[]] 122)) := by
 obtain ⟨W0, hW0⟩ : ∃ W0, ((w.alloc (.cells #[.bool a0, .slice A0 l0.length c0] 88)).alloc (.cells #[.bool a1, .slice A1 l1.length c1] 88)).alloc (.cells #[.bool false, .slice none 0 0] 88) = W0 := ⟨_, rfl⟩
 rw [hW0] at hb
 have hB0 : Below w.heap.size w W0 := by rw [← hW0]; exact (((Below.refl _ w).alloc (Nat.le_refl _) _).alloc (by simp) _).alloc (by simp; omega) _
 have hs0 : W0.heap.size = w.heap.size + 3 := by rw [← hW0]; simp
 have h0 : W0.heap[w.heap.size]? = some (.cells #[.bool a0, .slice A0 l0.length c0] 88 (0, 0)) := by
  rw [← hW0]; exact (Below.heap_alloc _ _ _ (by simp; omega)).trans ((Below.heap_alloc _ _ _ (by simp)).trans (World.alloc_heap_new w _))
 have h1 : W0.heap[w.heap.size + 1]? = some (.cells #[.bool a1, .slice A1 l1.length c1] 88 (0, 0)) := by
  rw [← hW0]; refine (Below.heap_alloc _ _ _ (by simp)).trans ?_
  have := World.alloc_heap_new (w.alloc (.cells #[.bool a0, .slice A0 l0.length c0] 88)) (.cells #[.bool a1, .slice A1 l1.length c1] 88); simpa using this
 have h2 : W0.heap[w.heap.size + 2]? = some (.cells #[.bool false, .slice none 0 0] 88 (0, 0)) := by
  rw [← hW0]
  have := World.alloc_heap_new ((w.alloc (.cells #[.bool a0, .slice A0 l0.length c0] 88)).alloc (.cells #[.bool a1, .slice A1 l1.length c1] 88)) (.cells #[.bool false, .slice none 0 0] 88); simpa using this
 have hB1 : Below w.heap.size w w1 := hB0.trans (hb.mono hB0.size)
 have k : ∀ {j : Nat} {o : Obj}, W0.heap[j]? = some o → (w1.alloc (.cells #[.func (.func f) #[] #[], .func (.func g) #[] #[]] 122)).heap[j]? = some o := fun {j o} hj =>
  (Below.heap_alloc _ _ _ (Nat.lt_of_lt_of_le (Array.getElem?_eq_some_iff.1 hj).1 hb.size)).trans ((hb.block _ (Array.getElem?_eq_some_iff.1 hj).1).trans hj)
 have hB2 := hB1.alloc (Nat.le_trans hB0.size hb.size) (.cells #[.func (.func f) #[] #[], .func (.func g) #[] #[]] 122)
 exact ⟨k h0, k h1, k h2, World.alloc_heap_new w1 _, hB2, Kd.C_below hr0 hB2, Kd.C_below hr1 hB2, by have := hb.size; omega⟩
theorem sum_eq (k : Nat) (a0 : Bool) (A0 : Option Addr) (c0 : Nat) (l0 : List Int) (A1 : Option Addr) (c1 : Nat) (l1 : List Int) (r : List Int) (w : World) (hr0 : Kd.C (Kd.int .i64) w A0 l0.length l0) (hc0 : l0.length ≤ c0) (hr1 : Kd.C (Kd.int .i64) w A1 l1.length l1) (hc1 : l1.length ≤ c1)
  (h : bIplus.f k l0 l1 = some r) :
  Calls Tryz.prog 88 #[.agg #[.bool a0, .slice A0 l0.length c0], .agg #[.bool a0, .slice A1 l1.length c1]] w fun e w' => ∃ v1_ : Value, e = .returned (.agg #[.bool a0, v1_]) ∧ Kd.R (Kd.int .i64) 3 w' w.heap.size (fun _ => True) v1_ r ∧ Below w.heap.size w w' := by
 have hu88 := Tryz.underlying88
 have hu122 := Tryz.underlying122
 go_enter Tryz.func88, Tryz.ntmps88
 go_wp2_with ((with_reducible refine gc_ 125 rfl ?_); refine goesL_ (some 12) rfl rfl Tryz.func125 (by kernel_rfl) rfl #[] rfl (by (try simp only [List.map_toArray, List.map_cons, List.map_nil]); first | done | rfl) ?_; refine (ops_calls _).mono ?_; rintro e w1 ⟨rfl, hb1⟩; refine ⟨_, rfl, ?_⟩)
 have hI := SumI.new w w1 a0 A0 c0 l0 a0 A1 c1 l1 143 163 hr0 hr1 hb1
 obtain ⟨W, hW⟩ : ∃ W, w1.alloc (.cells #[.func (.func 143) #[] #[], .func (.func 163) #[] #[]] 122) = W := ⟨_, rfl⟩
 rw [hW] at hI
 rw [hW]
 obtain ⟨gf, hgf⟩ : ∃ gf, w1.heap.size = gf := ⟨_, rfl⟩
 rw [hgf] at hI
 simp only [hgf]
 obtain ⟨s, hs⟩ : ∃ s, w.heap.size = s := ⟨_, rfl⟩
 rw [hs] at hI
 simp only [hs]
 clear hW hgf hb1
 have hId : SumI s a0 A0 c0 l0 a0 A1 c1 l1 143 163 gf w W.drew := hI.on ((Below.refl _ W).drew)
 go_region_held3 (fun w' => w'.cell? ⟨s, 0, none⟩ = some (.bool a0) ∧ w'.cell? ⟨s, 1, none⟩ = some (.slice A0 l0.length c0) ∧ w'.cell? ⟨s + 1, 0, none⟩ = some (.bool a0) ∧ w'.cell? ⟨s + 1, 1, none⟩ = some (.slice A1 l1.length c1) ∧ w'.cell? ⟨gf, 0, none⟩ = some (.func (.func 143) #[] #[]) ∧ w'.cell? ⟨gf, 1, none⟩ = some (.func (.func 163) #[] #[]))
  (first | exact hId.cells | exact hI2.cells | exact hI3.cells | exact hI3.put _ _)
  (first
   | (go_at_call 163; refine (op1_calls a0 a0 _ _ _).mono ?_; rintro e w2 ⟨rfl, hb⟩; have hI2 := hId.on hb)
   | (go_at_call 143; refine (bIplus.calls k A0 c0 l0 A1 c1 l1 r w2 hI2.kx hc0 hI2.ky hc1 h).mono ?_; rintro e w3 ⟨v0, rfl, hR, hb3⟩; have hI3 := hI2.on hb3; obtain ⟨Ar, cr, er⟩ := Kd.R_slice hR; subst er; have r0 := blk_cell hI3.r 0; have r1 := blk_cell hI3.r 1; have rf0 := blk_frozen hI3.r 0; have rf1 := blk_frozen hI3.r 1))
 all_goals go_wp2
 refine bodyPost_ret (results_cell_row rfl _ _ (s + 1 + 1) 88 #[.bool a0, .slice Ar r.length cr] (0, 0) _ rfl (hI3.end_ _ _) Tryz.underlying88 rfl (by kernel_rfl)) rfl ⟨_, rfl, ?_, ?_⟩
 ·refine Kd.R_mono (Kd.R_far (p := ⟨s + 1 + 1, 1, none⟩) (Kd.R_far (p := ⟨s + 1 + 1, 0, none⟩) (Kd.R_types (Kd.R_lower hR hI2.b.size) hI3.r (by decide)) (fun _ hk => hk.2) _) (fun _ hk => hk.2) _) (fun _ _ => trivial)
 exact below_set (below_set hI3.b (by omega)) (by omega)
theorem sum_ne (k : Nat) (a0 a1 : Bool) (t : Int) (A0 : Option Addr) (c0 : Nat) (l0 : List Int) (A1 : Option Addr) (c1 : Nat) (l1 : List Int) (r : List Int) (w : World) (hr0 : Kd.C (Kd.int .i64) w A0 l0.length l0) (hc0 : l0.length ≤ c0) (hr1 : Kd.C (Kd.int .i64) w A1 l1.length l1) (hc1 : l1.length ≤ c1)
  (hne : (a0 != a1) = true) (ho : bIorder.f l0 l1 = some t) (h : (if t < 0 then bIminus.f k l1 l0 else bIminus.f k l0 l1) = some r) :
  Calls Tryz.prog 88 #[.agg #[.bool a0, .slice A0 l0.length c0], .agg #[.bool a1, .slice A1 l1.length c1]] w fun e w' => ∃ v1_ : Value, e = .returned (.agg #[.bool (decide (t < 0) != a0), v1_]) ∧ Kd.R (Kd.int .i64) 3 w' w.heap.size (fun _ => True) v1_ r ∧ Below w.heap.size w w' := by
 have hne1 : (a0 == a1) = false := by simpa [bne] using hne
 have hne2 : ¬ a0 = a1 := by simpa using hne1
 have hu88 := Tryz.underlying88
 have hu122 := Tryz.underlying122
 go_enter Tryz.func88, Tryz.ntmps88
 go_wp2_with ((with_reducible refine gc_ 125 rfl ?_); refine goesL_ (some 12) rfl rfl Tryz.func125 (by kernel_rfl) rfl #[] rfl (by (try simp only [List.map_toArray, List.map_cons, List.map_nil]); first | done | rfl) ?_; refine (ops_calls _).mono ?_; rintro e w1 ⟨rfl, hb1⟩; refine ⟨_, rfl, ?_⟩)
 have hI := SumI.new w w1 a0 A0 c0 l0 a1 A1 c1 l1 164 165 hr0 hr1 hb1
 obtain ⟨W, hW⟩ : ∃ W, w1.alloc (.cells #[.func (.func 164) #[] #[], .func (.func 165) #[] #[]] 122) = W := ⟨_, rfl⟩
 rw [hW] at hI
 rw [hW]
 obtain ⟨gf, hgf⟩ : ∃ gf, w1.heap.size = gf := ⟨_, rfl⟩
 rw [hgf] at hI
 simp only [hgf]
 obtain ⟨s, hs⟩ : ∃ s, w.heap.size = s := ⟨_, rfl⟩
 rw [hs] at hI
 simp only [hs]
 clear hW hgf hb1
 have hId : SumI s a0 A0 c0 l0 a1 A1 c1 l1 164 165 gf w W.drew := hI.on ((Below.refl _ W).drew)
 go_region_held3 (fun w' => w'.cell? ⟨s, 0, none⟩ = some (.bool a0) ∧ w'.cell? ⟨s, 1, none⟩ = some (.slice A0 l0.length c0) ∧ w'.cell? ⟨s + 1, 0, none⟩ = some (.bool a1) ∧ w'.cell? ⟨s + 1, 1, none⟩ = some (.slice A1 l1.length c1) ∧ w'.cell? ⟨gf, 0, none⟩ = some (.func (.func 164) #[] #[]) ∧ w'.cell? ⟨gf, 1, none⟩ = some (.func (.func 165) #[] #[]))
  (first | exact hId.cells | exact hI2.cells | exact hI3.cells | exact hI3.put _ _)
  (first
   | (go_at_call 165; refine (op3_calls a0 a1 A0 c0 l0 A1 c1 l1 t _ hId.kx hc0 hId.ky hc1 ho).mono ?_; rintro e w2 ⟨rfl, hb⟩; have hI2 := hId.on hb)
   | (go_at_call 164; refine (op2_calls k A0 c0 l0 A1 c1 l1 t r w2 hI2.kx hc0 hI2.ky hc1 ho h).mono ?_; rintro e w3 ⟨v0, rfl, hR, hb3⟩; have hI3 := hI2.on hb3; obtain ⟨Ar, cr, er⟩ := Kd.R_slice hR; subst er; have r0 := blk_cell hI3.r 0; have r1 := blk_cell hI3.r 1; have rf0 := blk_frozen hI3.r 0; have rf1 := blk_frozen hI3.r 1))
 all_goals go_wp2
 refine bodyPost_ret (results_cell_row rfl _ _ (s + 1 + 1) 88 #[.bool (decide (t < 0) != a0), .slice Ar r.length cr] (0, 0) _ rfl (by first | exact hI3.end_ _ _ | (have := hI3.end_ (.bool (decide (t < 0) != a0)) (.slice Ar r.length cr); simpa [bne] using this)) Tryz.underlying88 rfl (by kernel_rfl)) rfl ⟨_, rfl, ?_, ?_⟩
 ·refine Kd.R_mono (Kd.R_far (p := ⟨s + 1 + 1, 1, none⟩) (Kd.R_far (p := ⟨s + 1 + 1, 0, none⟩) (Kd.R_types (Kd.R_lower hR hI2.b.size) hI3.r (by decide)) (fun _ hk => hk.2) _) (fun _ hk => hk.2) _) (fun _ _ => trivial)
 exact below_set (below_set hI3.b (by omega)) (by omega)
theorem bIsum.calls (k : Nat) (a0_0 : Bool) (A0_1 : Option Addr) (c0_1 : Nat) (l0_1 : List Int) (a1_0 : Bool) (A1_1 : Option Addr) (c1_1 : Nat) (l1_1 : List Int) (r1 : Bool) (r2 : List Int) (w : World) (hr0_1 : Kd.C (Kd.int .i64) w A0_1 l0_1.length l0_1) (hc0_1 : l0_1.length ≤ c0_1) (hr1_1 : Kd.C (Kd.int .i64) w A1_1 l1_1.length l1_1) (hc1_1 : l1_1.length ≤ c1_1) (h : bIsum.f k a0_0 l0_1 a1_0 l1_1 = some (r1, r2)) :
  Calls Tryz.prog 88 #[.agg #[.bool a0_0, .slice A0_1 l0_1.length c0_1], .agg #[.bool a1_0, .slice A1_1 l1_1.length c1_1]] w fun e w' => ∃ v1_ : Value, e = .returned (.agg #[.bool r1, v1_]) ∧ Kd.R (Kd.int .i64) 3 w' w.heap.size (fun _ => True) v1_ r2 ∧ Below w.heap.size w w' := by
 unfold bIsum.f at h
 split at h
 ·rename_i he
  subst he
  obtain ⟨r, hr, h⟩ := Option.bind_eq_some_iff.mp h
  simp only [Option.some.injEq, Prod.mk.injEq] at h
  obtain ⟨rfl, rfl⟩ := h
  exact sum_eq k a0_0 A0_1 c0_1 l0_1 A1_1 c1_1 l1_1 r w hr0_1 hc0_1 hr1_1 hc1_1 hr
 rename_i he
 obtain ⟨t, ht, h⟩ := Option.bind_eq_some_iff.mp h
 obtain ⟨r, hr, h⟩ := Option.bind_eq_some_iff.mp h
 simp only [Option.some.injEq, Prod.mk.injEq] at h
 obtain ⟨rfl, rfl⟩ := h
 exact sum_ne k a0_0 a1_0 t A0_1 c0_1 l0_1 A1_1 c1_1 l1_1 r w hr0_1 hc0_1 hr1_1 hc1_1 (by simpa using he) ht hr
end Go.Proofs.YthnfajboebaajaaGreatDoor
namespace Go.Proofs.YthnfajboebaajaaGreatDoor.PA
set_option linter.unusedVariables false
open Go.RowKit Go.Proofs.WWords Go.Proofs.WLast Go.Proofs.WMore
attribute [local go_sem] max2_int min2_int max_two min_two max_three min_three max_four min_four
set_option linter.unusedSimpArgs false
theorem bIAdd.calls (k : Nat) (a0 : ByteArray) (a1 : ByteArray) (r1 : ByteArray) (r2 : Int) (w : World) (hL : LaidW w) (h : bIAdd.f k a0 a1 = some (r1, r2)) :
  Calls Tryz.prog 103 #[.string a0, .string a1] w fun e w' => e = .returned (.tuple #[.string r1, .int .i64 r2]) ∧ Below w.heap.size w w' := by
 have hu88 := Tryz.underlying88
 have HB := Z0.mk (Below.refl w.heap.size w)
 have H := h
 clear h
 unfold bIAdd.f at H
 obtain ⟨⟨t939, t940, t943, t944, t947⟩, A3, H⟩ := bnd H
 try dsimp only at H
 rcases je H with ⟨-, c4b0, c4b1, H⟩ | ⟨c4, c4b0, c4b1, H⟩
 ·obtain ⟨⟨t950, t951⟩, A5, H⟩ := bnd H
  try dsimp only at H
  obtain ⟨⟨t954, t955⟩, A6, H⟩ := bnd H
  try dsimp only at H
  simp only [Option.some.injEq, Prod.mk.injEq] at H
  obtain ⟨rfl, rfl⟩ := H
  go_enter Tryz.func103, Tryz.ntmps103
  go_wp2_with (first | ((with_reducible refine gc_ 86 rfl ?_); refine gL 12 Tryz.func86 (bIpair.calls _ _ _ _ _ _ _ _ _ A3.out) ?_; rintro _ w7 ⟨v941, v945, rfl, ho0, ho1, hb⟩; refine ⟨_, rfl, ?_⟩; have HO942 := fN ho0; have HO946 := fN ho1; replace HB := fB HB hb; clear hb ho0 ho1) | ((with_reducible refine gd_ 6 rfl ?_); refine bxE 6 #[.bool false, .slice none 0 0] 88 ?_; intro gb948 hg w8 hbox hb; have BK948 := Z0.mk hbox; have GW948 := fE HB hg; have GE948 := fE HB hg; replace HO942 := fR HO942 hb; replace HO946 := fR HO946 hb; replace HB := fB HB hb; clear hb hbox hg) | ((with_reducible refine gd_ 7 rfl ?_); refine bxE 7 #[.bool false, .slice none 0 0] 88 ?_; intro gb949 hg w9 hbox hb; have BK949 := Z0.mk hbox; have GW949 := fE HB hg; have GE949 := fE HB hg; have NB948_949 := fl BK948 hg; have NB949_948 := fg BK948 hg; replace HO942 := fR HO942 hb; replace HO946 := fR HO946 hb; replace BK948 := fk BK948 hb; replace HB := fB HB hb; clear hb hbox hg; have hnb10 := NB948_949.out; have hnc10 := NB949_948.out; obtain ⟨hcz11_0, hcz11_1, hfz11_0, hfz11_1⟩ := b2 BK948; obtain ⟨Ao12, co12, eo12⟩ := Kd.R_slice HO942.out; subst eo12; obtain ⟨hcz13_0, hcz13_1, hfz13_0, hfz13_1⟩ := b2 BK949; obtain ⟨Ao14, co14, eo14⟩ := Kd.R_slice HO946.out; subst eo14) | ((with_reducible refine gc_ 88 rfl ?_); refine goesL_ (some 21) rfl rfl Tryz.func88 (by kernel_rfl) rfl #[.agg #[.bool t939, .slice Ao12 t940.length co12], .agg #[.bool t943, .slice Ao14 t944.length co14]] rfl (by (try simp only [List.map_toArray, List.map_cons, List.map_nil]); first | done | rfl | (simp only [List.length_drop, List.length_take]; rfl)) ?_; (with_reducible refine (bIsum.calls k t939 _ _ t940 t943 _ _ t944 t950 t951 _ ?side1 ?side2 ?side3 ?side4 A5.out).mono ?_); (case side1 => refine (Kd.R_reads' (e := 3) (base := w.heap.size) (ok := fun k_ => some k_ ≠ (.slice Ao14 t944.length co14 : Value).ownBlock) (n := t940.length) (c := co12) ?_).2.2; exact (by (with_reducible repeat (first | apply Kd.R_alloc | apply Kd.R_drewN | apply Kd.R_drew)); exact (Kd.R_mono (Kd.R_mono (Kd.R_far (p := ⟨gb949, 1, none⟩) (Kd.R_far (p := ⟨gb949, 0, none⟩) (Kd.R_far (p := ⟨gb948, 1, none⟩) (Kd.R_far (p := ⟨gb948, 0, none⟩) (Kd.R_types (Kd.R_types HO942.out BK948.out (by decide)) BK949.out (by decide)) (fun _ hk => hk.1.2) (.bool t939)) (fun _ hk => hk.1.2) (.slice Ao12 t940.length co12)) (fun _ hk => hk.2) (.bool t943)) (fun _ hk => hk.2) (.slice Ao14 t944.length co14)) (fun _ h_ => h_.1)) (fun _ h_ => h_.1)))); (case side2 => exact (Kd.R_reads' HO942.out).2.1); (case side3 => refine (Kd.R_reads' (e := 3) (base := w.heap.size) (ok := fun k_ => some k_ ≠ (.slice Ao12 t940.length co12 : Value).ownBlock) (n := t944.length) (c := co14) ?_).2.2; exact (by (with_reducible repeat (first | apply Kd.R_alloc | apply Kd.R_drewN | apply Kd.R_drew)); exact (Kd.R_mono (Kd.R_mono (Kd.R_far (p := ⟨gb949, 1, none⟩) (Kd.R_far (p := ⟨gb949, 0, none⟩) (Kd.R_far (p := ⟨gb948, 1, none⟩) (Kd.R_far (p := ⟨gb948, 0, none⟩) (Kd.R_types (Kd.R_types HO946.out BK948.out (by decide)) BK949.out (by decide)) (fun _ hk => hk.1.2) (.bool t939)) (fun _ hk => hk.1.2) (.slice Ao12 t940.length co12)) (fun _ hk => hk.2) (.bool t943)) (fun _ hk => hk.2) (.slice Ao14 t944.length co14)) (fun _ h_ => h_.1)) (fun _ h_ => h_.1)))); (case side4 => exact (Kd.R_reads' HO946.out).2.1); rintro e w15 ⟨v952, rfl, ho0, hb⟩; refine ⟨_, rfl, ?_⟩; have HO953 := Z0.mk (Kd.R_lower (Kd.R_new' (Kd.R_new' ho0 (Kd.R_lt (by (with_reducible repeat (first | apply Kd.R_alloc | apply Kd.R_drewN | apply Kd.R_drew)); exact (Kd.R_mono (Kd.R_mono (Kd.R_far (p := ⟨gb949, 1, none⟩) (Kd.R_far (p := ⟨gb949, 0, none⟩) (Kd.R_far (p := ⟨gb948, 1, none⟩) (Kd.R_far (p := ⟨gb948, 0, none⟩) (Kd.R_types (Kd.R_types HO942.out BK948.out (by decide)) BK949.out (by decide)) (fun _ hk => hk.1.2) (.bool t939)) (fun _ hk => hk.1.2) (.slice Ao12 t940.length co12)) (fun _ hk => hk.2) (.bool t943)) (fun _ hk => hk.2) (.slice Ao14 t944.length co14)) (fun _ h_ => h_.1)) (fun _ h_ => h_.1))))) (Kd.R_lt (by (with_reducible repeat (first | apply Kd.R_alloc | apply Kd.R_drewN | apply Kd.R_drew)); exact (Kd.R_mono (Kd.R_mono (Kd.R_far (p := ⟨gb949, 1, none⟩) (Kd.R_far (p := ⟨gb949, 0, none⟩) (Kd.R_far (p := ⟨gb948, 1, none⟩) (Kd.R_far (p := ⟨gb948, 0, none⟩) (Kd.R_types (Kd.R_types HO946.out BK948.out (by decide)) BK949.out (by decide)) (fun _ hk => hk.1.2) (.bool t939)) (fun _ hk => hk.1.2) (.slice Ao12 t940.length co12)) (fun _ hk => hk.2) (.bool t943)) (fun _ hk => hk.2) (.slice Ao14 t944.length co14)) (fun _ h_ => h_.1)) (fun _ h_ => h_.1))))) (below_size bqs)); replace HO942 := Z0.mk (Kd.R_elder' (by (with_reducible repeat (first | apply Kd.R_alloc | apply Kd.R_drewN | apply Kd.R_drew)); exact (Kd.R_mono (Kd.R_mono (Kd.R_far (p := ⟨gb949, 1, none⟩) (Kd.R_far (p := ⟨gb949, 0, none⟩) (Kd.R_far (p := ⟨gb948, 1, none⟩) (Kd.R_far (p := ⟨gb948, 0, none⟩) (Kd.R_types (Kd.R_types HO942.out BK948.out (by decide)) BK949.out (by decide)) (fun _ hk => hk.1.2) (.bool t939)) (fun _ hk => hk.1.2) (.slice Ao12 t940.length co12)) (fun _ hk => hk.2) (.bool t943)) (fun _ hk => hk.2) (.slice Ao14 t944.length co14)) (fun _ h_ => h_.1)) (fun _ h_ => h_.1))) (Kd.R_base ho0) hb); replace HO946 := Z0.mk (Kd.R_elder' (by (with_reducible repeat (first | apply Kd.R_alloc | apply Kd.R_drewN | apply Kd.R_drew)); exact (Kd.R_mono (Kd.R_mono (Kd.R_far (p := ⟨gb949, 1, none⟩) (Kd.R_far (p := ⟨gb949, 0, none⟩) (Kd.R_far (p := ⟨gb948, 1, none⟩) (Kd.R_far (p := ⟨gb948, 0, none⟩) (Kd.R_types (Kd.R_types HO946.out BK948.out (by decide)) BK949.out (by decide)) (fun _ hk => hk.1.2) (.bool t939)) (fun _ hk => hk.1.2) (.slice Ao12 t940.length co12)) (fun _ hk => hk.2) (.bool t943)) (fun _ hk => hk.2) (.slice Ao14 t944.length co14)) (fun _ h_ => h_.1)) (fun _ h_ => h_.1))) (Kd.R_base ho0) hb); replace BK948 := Z0.mk (blk_below (g := gb948) (o := .cells #[.bool t939, .slice Ao12 t940.length co12] 88 (0, 0)) (by (with_reducible repeat (first | refine blk_drewN ?_ _ | refine blk_drew ?_ | refine blk_alloc ?_ _)); refine blk_far ?_ NB948_949.out _; (with_reducible repeat (first | refine blk_drewN ?_ _ | refine blk_drew ?_ | refine blk_alloc ?_ _)); refine blk_far ?_ NB948_949.out _; (with_reducible repeat (first | refine blk_drewN ?_ _ | refine blk_drew ?_ | refine blk_alloc ?_ _)); refine blk_put (cs := #[.bool t939, .slice none 0 0]) ?_ 1 _ rfl; (with_reducible repeat (first | refine blk_drewN ?_ _ | refine blk_drew ?_ | refine blk_alloc ?_ _)); refine blk_put (cs := #[.bool false, .slice none 0 0]) ?_ 0 _ rfl; (with_reducible repeat (first | refine blk_drewN ?_ _ | refine blk_drew ?_ | refine blk_alloc ?_ _)); exact BK948.out) hb); replace BK949 := Z0.mk (blk_below (g := gb949) (o := .cells #[.bool t943, .slice Ao14 t944.length co14] 88 (0, 0)) (by (with_reducible repeat (first | refine blk_drewN ?_ _ | refine blk_drew ?_ | refine blk_alloc ?_ _)); refine blk_put (cs := #[.bool t943, .slice none 0 0]) ?_ 1 _ rfl; (with_reducible repeat (first | refine blk_drewN ?_ _ | refine blk_drew ?_ | refine blk_alloc ?_ _)); refine blk_put (cs := #[.bool false, .slice none 0 0]) ?_ 0 _ rfl; (with_reducible repeat (first | refine blk_drewN ?_ _ | refine blk_drew ?_ | refine blk_alloc ?_ _)); refine blk_far ?_ NB949_948.out _; (with_reducible repeat (first | refine blk_drewN ?_ _ | refine blk_drew ?_ | refine blk_alloc ?_ _)); refine blk_far ?_ NB949_948.out _; (with_reducible repeat (first | refine blk_drewN ?_ _ | refine blk_drew ?_ | refine blk_alloc ?_ _)); exact BK949.out) hb); replace HB := fB HB hb; clear hb ho0; obtain ⟨Ao16, co16, eo16⟩ := Kd.R_slice HO953.out; subst eo16) | ((with_reducible refine gc_ 87 rfl ?_); refine gL 22 Tryz.func87 (bIwritten.calls t950 _ _ t951 t954 t955 _ ?side3 ?side1 ?side2 A6.out) ?_; (case side1 => exact cq (Kd.R_reads' HO953.out).2.2); (case side2 => exact (Kd.R_reads' HO953.out).2.1); (case side3 => exact LaidW.below hL bqs); rintro _ w17 ⟨rfl, hb⟩; refine ⟨_, rfl, ?_⟩; replace HO942 := fR HO942 hb; replace HO946 := fR HO946 hb; replace HO953 := fR HO953 hb; replace BK948 := fk BK948 hb; replace BK949 := fk BK949 hb; replace HB := fB HB hb; clear hb))
  go_ret2
  exact finE
 simp only [Option.some.injEq, Prod.mk.injEq] at H
 obtain ⟨rfl, rfl⟩ := H
 go_enter Tryz.func103, Tryz.ntmps103
 go_wp2_with (first | ((with_reducible refine gc_ 86 rfl ?_); refine gL 12 Tryz.func86 (bIpair.calls _ _ _ _ _ _ _ _ _ A3.out) ?_; rintro _ w18 ⟨v941, v945, rfl, ho0, ho1, hb⟩; refine ⟨_, rfl, ?_⟩; have HO942 := fN ho0; have HO946 := fN ho1; replace HB := fB HB hb; clear hb ho0 ho1) | ((with_reducible refine gd_ 6 rfl ?_); refine bxE 6 #[.bool false, .slice none 0 0] 88 ?_; intro gb948 hg w19 hbox hb; have BK948 := Z0.mk hbox; have GW948 := fE HB hg; have GE948 := fE HB hg; replace HO942 := fR HO942 hb; replace HO946 := fR HO946 hb; replace HB := fB HB hb; clear hb hbox hg) | ((with_reducible refine gd_ 7 rfl ?_); refine bxE 7 #[.bool false, .slice none 0 0] 88 ?_; intro gb949 hg w20 hbox hb; have BK949 := Z0.mk hbox; have GW949 := fE HB hg; have GE949 := fE HB hg; have NB948_949 := fl BK948 hg; have NB949_948 := fg BK948 hg; replace HO942 := fR HO942 hb; replace HO946 := fR HO946 hb; replace BK948 := fk BK948 hb; replace HB := fB HB hb; clear hb hbox hg; have hnb21 := NB948_949.out; have hnc21 := NB949_948.out; obtain ⟨hcz22_0, hcz22_1, hfz22_0, hfz22_1⟩ := b2 BK948; obtain ⟨Ao23, co23, eo23⟩ := Kd.R_slice HO942.out; subst eo23; obtain ⟨hcz24_0, hcz24_1, hfz24_0, hfz24_1⟩ := b2 BK949; obtain ⟨Ao25, co25, eo25⟩ := Kd.R_slice HO946.out; subst eo25))
 go_ret2
 exact finE
theorem bInegated.calls (a0_0 : Bool) (P0_1_ : Nat → Prop) (u9000_ : Value) (l0_1 : List Int) (r1 : Bool) (r2 : List Int) (w0 w : World) (hB : Below w0.heap.size w0 w) (ho0_1 : Kd.R (Kd.int .i64) 3 w w0.heap.size P0_1_ u9000_ l0_1) (h : bInegated.f a0_0 l0_1 = some (r1, r2)) :
  Calls Tryz.prog 89 #[.agg #[.bool a0_0, u9000_]] w fun e w' => ∃ v1_ : Value, e = .returned (.agg #[.bool r1, v1_]) ∧ Kd.R (Kd.int .i64) 3 w' w0.heap.size (fun k_ => (P0_1_ k_ ∨ w.heap.size ≤ k_)) v1_ r2 ∧ Below w0.heap.size w0 w' ∧ Kept w w' (fun k_ => P0_1_ k_) := by
 have hu88 := Tryz.underlying88
 have HO0_1 := Z0.mk (show Kd.R (Kd.int .i64) 3 w w0.heap.size (fun k_ => (P0_1_ k_ ∨ w.heap.size ≤ k_)) u9000_ l0_1 from Kd.R_mono ho0_1 (fun k_ hk => (.inl hk)))
 have HK := Z0.mk (Kept.refl w (fun k_ => P0_1_ k_))
 have HW0 := Z0.mk hB.size
 have HB := Z0.mk hB
 clear hB
 have H := h
 clear h
 unfold bInegated.f at H
 simp only [Option.some.injEq, Prod.mk.injEq] at H
 obtain ⟨rfl, rfl⟩ := H
 obtain ⟨Ao2, co2, eo2⟩ := Kd.R_slice HO0_1.out
 subst eo2
 go_enter Tryz.func89, Tryz.ntmps89
 go_wp2_with (first | ((with_reducible refine gd_ 1 rfl ?_); refine bxE 1 #[.bool a0_0, .slice Ao2 l0_1.length co2] 88 ?_; intro gb298 hg w3 hbox hb; have BK298 := Z0.mk hbox; have GW298 := fW HK hg; have GE298 := fE HB hg; replace HO0_1 := fR HO0_1 hb; replace HK := fK HK hb; replace HB := fB HB hb; clear hb hbox hg) | ((with_reducible refine gd_ 2 rfl ?_); refine bxE 2 #[.bool false, .slice none 0 0] 88 ?_; intro gb299 hg w4 hbox hb; have BK299 := Z0.mk hbox; have GW299 := fW HK hg; have GE299 := fE HB hg; have NB298_299 := fl BK298 hg; have NB299_298 := fg BK298 hg; replace HO0_1 := fR HO0_1 hb; replace BK298 := fk BK298 hb; replace HK := fK HK hb; replace HB := fB HB hb; clear hb hbox hg; have hnb5 := NB298_299.out; have hnc5 := NB299_298.out; obtain ⟨hcz6_0, hcz6_1, hfz6_0, hfz6_1⟩ := b2 BK298; obtain ⟨hcz7_0, hcz7_1, hfz7_0, hfz7_1⟩ := b2 BK299))
 refine bodyPost_ret (results_cell_row rfl _ _ gb299 88 #[.bool (!a0_0), .slice Ao2 l0_1.length co2] (0, 0) _ rfl (by (with_reducible repeat (first | refine blk_drewN ?_ _ | refine blk_drew ?_ | refine blk_alloc ?_ _)); refine blk_put (cs := #[.bool (!a0_0), .slice none 0 0]) ?_ 1 _ rfl; (with_reducible repeat (first | refine blk_drewN ?_ _ | refine blk_drew ?_ | refine blk_alloc ?_ _)); refine blk_put (cs := #[.bool false, .slice none 0 0]) ?_ 0 _ rfl; (with_reducible repeat (first | refine blk_drewN ?_ _ | refine blk_drew ?_ | refine blk_alloc ?_ _)); exact BK299.out) Tryz.underlying88 rfl (by kernel_rfl)) rfl ?_
 exact ⟨_, fe, by (with_reducible repeat (first | apply Kd.R_alloc | apply Kd.R_drewN | apply Kd.R_drew)); exact Kd.R_mono (Kd.R_far (p := ⟨gb299, 1, none⟩) (Kd.R_far (p := ⟨gb299, 0, none⟩) (Kd.R_types HO0_1.out BK299.out (by decide)) (fun _ hk => hk.2) (.bool (!a0_0))) (fun _ hk => hk.2) (.slice Ao2 l0_1.length co2)) (fun _ hk => hk.1), bqs, kqs⟩
end Go.Proofs.YthnfajboebaajaaGreatDoor.PA
