import Derived.Test.YtinpcbjjnlpblaaGreatDoorAG1
import Derived.Test.YtinpcbjjnlpblaaGreatDoorAD
import Derived.Test.YtinpcbjjnlpblaaGreatDoorAG2
import Derived.Deep.RegionHeld3
import Derived.WideLaws
import Derived.Shelf.Strings.BuilderK
import Derived.Test.YtinpcbjjnlpblaaGreatDoorProg
import Derived.Lib.OthersKept
set_option maxHeartbeats 8000000
set_option maxRecDepth 100000
set_option linter.unusedVariables false
namespace Go.Proofs.YtinpcbjjnlpblaaGreatDoor
set_option linter.unusedVariables false
open Go.RowKit Go.Proofs.WWords Go.Proofs.WLast Go.Proofs.WMore PA
attribute [local go_sem] max2_int min2_int max_two min_two max_three min_three max_four min_four
set_option linter.unusedSimpArgs false
theorem bIplus0.calls (k : Nat) (A0 : Option Addr) (c0 : Nat) (l0 : List Int) (A1 : Option Addr) (c1 : Nat) (l1 : List Int) (r : List Int) (w : World) (hr0 : Kd.C (Kd.int .i64) w A0 l0.length l0) (hc0 : l0.length ≤ c0) (hr1 : Kd.C (Kd.int .i64) w A1 l1.length l1) (hc1 : l1.length ≤ c1) (ar : Array Value) (hs : (ar = #[.slice A0 l0.length c0, .slice A1 l1.length c1] ∧ ¬ l0.length < l1.length) ∨ (ar = #[.slice A1 l1.length c1, .slice A0 l0.length c0] ∧ l1.length < l0.length)) (h : bIplus0.f k l0 l1 = some r) :
  Calls Tryz.prog 102 ar w fun e w' => ∃ v0_ : Value, e = .returned (v0_) ∧ Kd.R (Kd.int .i64) 3 w' w.heap.size (fun _ => True) v0_ r ∧ Below w.heap.size w w' := by
 have HR0 := Z0.mk hr0
 have HC0 := Z0.mk hc0
 clear hr0 hc0
 have HR1 := Z0.mk hr1
 have HC1 := Z0.mk hc1
 clear hr1 hc1
 have HB := Z0.mk (Below.refl w.heap.size w)
 have H : (if 0 ≤ (wrap64 ((l0.length : Int) + 1)) then (if (wrap64 ((l0.length : Int) + 1) : Int).toNat ≤ 35184372088832 then ((some (List.replicate (wrap64 ((l0.length : Int) + 1) : Int).toNat 0 : List Int)).bind fun y170 => (bIplus0.l0 k l0 l1 y170 0 (y170.length : Int) 0)) else (none)) else (none)) = some r := h
 clear h
 rcases hs with ⟨rfl, hs⟩ | ⟨rfl, hs⟩
 all_goals (
  first
   | (have hz : ¬ l0.length < l1.length := hs; have hsw : decide ((l0.length : Int) < (l1.length : Int)) = false := decide_eq_false (by omega); have hsn : decide (l0.length < l1.length) = false := decide_eq_false hz; have hso : (l0.length < l1.length) = False := eq_false hz; clear hz)
   | (have hz : l1.length < l0.length := hs; have hsw : decide ((l1.length : Int) < (l0.length : Int)) = true := decide_eq_true (by omega); have hsn : decide (l1.length < l0.length) = true := decide_eq_true hz; have hso : (l1.length < l0.length) = True := eq_true hz; clear hz)
  clear hs
  obtain ⟨ji3, hji3⟩ : ∃ j_ : Int, (wrap64 ((l0.length : Int) + 1)) = j_ := ⟨_, rfl⟩
  replace H : (if 0 ≤ (ji3) then (if (ji3 : Int).toNat ≤ 35184372088832 then ((some (List.replicate (ji3 : Int).toNat 0 : List Int)).bind fun y170 => (bIplus0.l0 k l0 l1 y170 0 (y170.length : Int) 0)) else (none)) else (none)) = some r := by first | (rw [hji3] at H; exact H) | (simp only [hji3] at H ⊢; exact H)
  have hji3w : (IntKind.i64.wrap ((l0.length : Int) + 1)) = ji3 := (i64_w _).trans hji3
  obtain ⟨-, c4b0, c4b1, H⟩ := gt H
  obtain ⟨-, c5b0, c5b1, H⟩ := gt H
  obtain ⟨y170, Ny170, H⟩ := yb H
  have H' := Z0.mk H
  clear H
  go_enter Tryz.func102, Tryz.ntmps102
  go_wp2_with (first | ((with_reducible refine gd_ 18 rfl ?_); refine Kd.R_make (Kd.int .i64) _ 3 rfl (N := 18) rfl 78 _ _ rfl ji3 rfl rfl Tryz.underlying78 (.int .i64 0) 8 info3 rfl (by decide) (by omega) 0 (ok := fun _ => True) (okp := fun _ => True) rfl (fun _ hk => hk) trivial od (Nat.le_trans (Nat.mul_le_mul_right _ (od : ji3.toNat ≤ 35184372088832)) (by omega)) (Below.refl _ _) (Nat.le_refl _) ?_; intro v171 w6 ho7 hb hg_ hnew_; clear hg_ hnew_; (first | rw [← Ny170.out] at ho7 | (simp only [Int.reduceToNat] at ho7; rw [← Ny170.out] at ho7)); have HO172 := Z0.mk (Kd.R_lower ho7 (below_size bqs)); replace HB := fB HB hb; clear hb ho7; obtain ⟨Ao8, co8, eo8⟩ := Kd.R_slice HO172.out; subst eo8))
  go_loopg [6, 21] k (fun kq v6 v21 w' => ∃ (x5_1 : List Int) (x6_1 : Int) (x21_1 : Int), v6 = .int .i64 x6_1 ∧ v21 = .int .i64 x21_1 ∧ Z0 (bIplus0.l0 kq l0 l1 x5_1 x6_1 (y170.length : Int) x21_1 = some r) ∧ Z0 (kq ≤ k) ∧ Z0 (Kd.R (Kd.int .i64) 3 w' w.heap.size (fun _ => True) (.slice Ao8 y170.length co8) x5_1) ∧ Z0 (Below w.heap.size w w'))
  case atStart => exact ⟨(y170), (0), (0), fs, fs, H', ⟨Nat.le_refl _⟩, ⟨rq HO172⟩, ⟨bqs⟩⟩
  case round =>
   clear H'
   try clear c1
   try clear p2
   try clear c4
   try clear c4b0
   try clear c4b1
   try clear c5
   try clear c5b0
   try clear c5b1
   try clear p6
   obtain ⟨x5_1, x6_1, x21_1, rfl, rfl, HA, HK1, HO_5, HB⟩ := hrel
   have hl5_1 := (Kd.R_reads' HO_5.out).1
   rw [hl5_1] at HO_5
   (try simp only [hl5_1])
   cases gk with
   | zero => exact absurd HA.out (by simp [bIplus0.l0])
   | succ k1 =>
    have H := HA.out
    clear HA
    simp only [bIplus0.l0] at H
    rcases jd H with ⟨c9, c9b0, H⟩ | ⟨c9, c9b0, H⟩
    ·(try (have c9b0_ := c9b0; rw [hl5_1] at c9b0_))
     clear c9
     rcases jd H with ⟨c10, c10b0, H⟩ | ⟨c10, c10b0, H⟩
     ·(try (have c10b0_ := c10b0; rw [hl5_1] at c10b0_))
      clear c10
      obtain ⟨-, c11b0, H⟩ := gd H
      rcases jd H with ⟨c12, c12b0, H⟩ | ⟨c12, c12b0, H⟩
      ·(try (have c12b0_ := c12b0; rw [hl5_1] at c12b0_))
       clear c12
       obtain ⟨c13, c13b0, H⟩ := gd H
       (try (have c13b0_ := c13b0; rw [hl5_1] at c13b0_))
       clear c13
       generalize hy178 : (x5_1.set (x21_1 : Int).toNat (Int.tmod (wrap64 ((wrap64 (x6_1 + (rd l0 x21_1))) + (rd l1 x21_1))) 1000000000) : List Int) = y178 at H
       have Ny178 := Z0.mk hy178.symm
       clear hy178
       have H' := Z0.mk H
       clear H
       obtain ⟨ad176, e176, hx176_0, p176, q176⟩ := atB HB HR0.out x21_1
       cases e176
       obtain ⟨ad177, e177, hx177_0, p177, q177⟩ := atB HB HR1.out x21_1
       cases e177
       have p14 : 0 ≤ (x21_1 : Int) := od
       have q14 : (x21_1 : Int) < ((x5_1.length : Int) : Int) := od
       obtain ⟨go14, co14, eo14, gb14, gl14, cl14, HG14⟩ := Kd.R_form HO_5.out (by omega)
       (first | cases eo14 | (injection eo14 with ea_ en_ ec_; (first | subst ea_ | (injection ea_ with ea_; subst ea_)); subst ec_; clear en_))
       have GB14 := Z0.mk gb14
       have GG14 := Z0.mk HG14
       clear gb14 gl14 HG14
       obtain ⟨hx14_0, hf14_0⟩ := Kd.R_celln 0 HO_5.out (x21_1 : Int) p14 q14
       replace p14 := eq_true p14
       replace q14 := eq_true q14
       have HP15 := Kd.R_putg HO_5.out (x21_1 : Int) (Int.tmod (wrap64 ((wrap64 (x6_1 + (rd l0 x21_1))) + (rd l1 x21_1))) 1000000000)
       go_wp2_with (first | ((with_reducible refine gate_store (t := 3) (p := 50) rfl ?_); refine store_event (t := 3) (p := 50) (v := ?vo_w16) (w1 := (wr.setCell ⟨go14, (x21_1 : Int).toNat, none⟩ (.int .i64 (Int.tmod (wrap64 ((wrap64 (x6_1 + (rd l0 x21_1))) + (rd l1 x21_1))) 1000000000)))) ?hg ?ho ?hn ?hr ?_; (case ho => rfl); (case hg => rfl); (case hn => rfl); (case hr => first | (go_simp; done) | (go_simp; rfl)); intro w16 hw; have hg : wr.grownBy w16 (some go14) := (by rw [hw]; exact HP15.2); have hp_ : Kd.R (Kd.int .i64) 3 w16 w.heap.size (fun _ => True) (.slice (some ⟨go14, 0, none⟩) x5_1.length co8) y178 := (by rw [hw, Ny178.out]; exact HP15.1); clear HP15; replace HO_5 := Z0.mk (hp_); replace HB := Z0.mk ((by rw [hw]; exact below_set (HB.out) GB14.out : Below w.heap.size w w16)); clear hg hw hp_))
       (try simp only [← hl5_1])
       go_roundg k1
       case measure => have := HK1.out; omega
       case rel => exact ⟨(y178), (wrap64 (Int.tdiv (wrap64 ((wrap64 (x6_1 + (rd l0 x21_1))) + (rd l1 x21_1))) 1000000000)), (wrap64 (x21_1 + 1)), fs, fs, H', ⟨by have := HK1.out; omega⟩, ⟨by (try simp only [hl5_1]); (with_reducible repeat (first | apply Kd.R_alloc | apply Kd.R_drewN | apply Kd.R_drew)); exact HO_5.out⟩, ⟨bqs⟩⟩
      (try (have c12b0_ := c12b0; rw [hl5_1] at c12b0_))
      clear c12
      obtain ⟨c17, c17b0, H⟩ := gd H
      (try (have c17b0_ := c17b0; rw [hl5_1] at c17b0_))
      clear c17
      generalize hy179 : (x5_1.set (x21_1 : Int).toNat (Int.tmod (wrap64 (x6_1 + (rd l0 x21_1))) 1000000000) : List Int) = y179 at H
      have Ny179 := Z0.mk hy179.symm
      clear hy179
      have H' := Z0.mk H
      clear H
      obtain ⟨ad176, e176, hx176_0, p176, q176⟩ := atB HB HR0.out x21_1
      cases e176
      have p18 : 0 ≤ (x21_1 : Int) := od
      have q18 : (x21_1 : Int) < ((x5_1.length : Int) : Int) := od
      obtain ⟨go18, co18, eo18, gb18, gl18, cl18, HG18⟩ := Kd.R_form HO_5.out (by omega)
      (first | cases eo18 | (injection eo18 with ea_ en_ ec_; (first | subst ea_ | (injection ea_ with ea_; subst ea_)); subst ec_; clear en_))
      have GB18 := Z0.mk gb18
      have GG18 := Z0.mk HG18
      clear gb18 gl18 HG18
      obtain ⟨hx18_0, hf18_0⟩ := Kd.R_celln 0 HO_5.out (x21_1 : Int) p18 q18
      replace p18 := eq_true p18
      replace q18 := eq_true q18
      have HP19 := Kd.R_putg HO_5.out (x21_1 : Int) (Int.tmod (wrap64 (x6_1 + (rd l0 x21_1))) 1000000000)
      go_wp2_with (first | ((with_reducible refine gate_store (t := 3) (p := 50) rfl ?_); refine store_event (t := 3) (p := 50) (v := ?vo_w20) (w1 := (wr.setCell ⟨go18, (x21_1 : Int).toNat, none⟩ (.int .i64 (Int.tmod (wrap64 (x6_1 + (rd l0 x21_1))) 1000000000)))) ?hg ?ho ?hn ?hr ?_; (case ho => rfl); (case hg => rfl); (case hn => rfl); (case hr => first | (go_simp; done) | (go_simp; rfl)); intro w20 hw; have hg : wr.grownBy w20 (some go18) := (by rw [hw]; exact HP19.2); have hp_ : Kd.R (Kd.int .i64) 3 w20 w.heap.size (fun _ => True) (.slice (some ⟨go18, 0, none⟩) x5_1.length co8) y179 := (by rw [hw, Ny179.out]; exact HP19.1); clear HP19; replace HO_5 := Z0.mk (hp_); replace HB := Z0.mk ((by rw [hw]; exact below_set (HB.out) GB18.out : Below w.heap.size w w20)); clear hg hw hp_))
      (try simp only [← hl5_1])
      go_roundg k1
      case measure => have := HK1.out; omega
      case rel => exact ⟨(y179), (wrap64 (Int.tdiv (wrap64 (x6_1 + (rd l0 x21_1))) 1000000000)), (wrap64 (x21_1 + 1)), fs, fs, H', ⟨by have := HK1.out; omega⟩, ⟨by (try simp only [hl5_1]); (with_reducible repeat (first | apply Kd.R_alloc | apply Kd.R_drewN | apply Kd.R_drew)); exact HO_5.out⟩, ⟨bqs⟩⟩
     (try (have c10b0_ := c10b0; rw [hl5_1] at c10b0_))
     clear c10
     rcases jd H with ⟨c21, c21b0, H⟩ | ⟨c21, c21b0, H⟩
     ·(try (have c21b0_ := c21b0; rw [hl5_1] at c21b0_))
      clear c21
      obtain ⟨-, c22b0, H⟩ := gd H
      obtain ⟨c23, c23b0, H⟩ := gd H
      (try (have c23b0_ := c23b0; rw [hl5_1] at c23b0_))
      clear c23
      generalize hy181 : (x5_1.set (x21_1 : Int).toNat (Int.tmod (wrap64 (x6_1 + (rd l1 x21_1))) 1000000000) : List Int) = y181 at H
      have Ny181 := Z0.mk hy181.symm
      clear hy181
      have H' := Z0.mk H
      clear H
      obtain ⟨ad180, e180, hx180_0, p180, q180⟩ := atB HB HR1.out x21_1
      cases e180
      have p24 : 0 ≤ (x21_1 : Int) := od
      have q24 : (x21_1 : Int) < ((x5_1.length : Int) : Int) := od
      obtain ⟨go24, co24, eo24, gb24, gl24, cl24, HG24⟩ := Kd.R_form HO_5.out (by omega)
      (first | cases eo24 | (injection eo24 with ea_ en_ ec_; (first | subst ea_ | (injection ea_ with ea_; subst ea_)); subst ec_; clear en_))
      have GB24 := Z0.mk gb24
      have GG24 := Z0.mk HG24
      clear gb24 gl24 HG24
      obtain ⟨hx24_0, hf24_0⟩ := Kd.R_celln 0 HO_5.out (x21_1 : Int) p24 q24
      replace p24 := eq_true p24
      replace q24 := eq_true q24
      have HP25 := Kd.R_putg HO_5.out (x21_1 : Int) (Int.tmod (wrap64 (x6_1 + (rd l1 x21_1))) 1000000000)
      go_wp2_with (first | ((with_reducible refine gate_store (t := 3) (p := 50) rfl ?_); refine store_event (t := 3) (p := 50) (v := ?vo_w26) (w1 := (wr.setCell ⟨go24, (x21_1 : Int).toNat, none⟩ (.int .i64 (Int.tmod (wrap64 (x6_1 + (rd l1 x21_1))) 1000000000)))) ?hg ?ho ?hn ?hr ?_; (case ho => rfl); (case hg => rfl); (case hn => rfl); (case hr => first | (go_simp; done) | (go_simp; rfl)); intro w26 hw; have hg : wr.grownBy w26 (some go24) := (by rw [hw]; exact HP25.2); have hp_ : Kd.R (Kd.int .i64) 3 w26 w.heap.size (fun _ => True) (.slice (some ⟨go24, 0, none⟩) x5_1.length co8) y181 := (by rw [hw, Ny181.out]; exact HP25.1); clear HP25; replace HO_5 := Z0.mk (hp_); replace HB := Z0.mk ((by rw [hw]; exact below_set (HB.out) GB24.out : Below w.heap.size w w26)); clear hg hw hp_))
      (try simp only [← hl5_1])
      go_roundg k1
      case measure => have := HK1.out; omega
      case rel => exact ⟨(y181), (wrap64 (Int.tdiv (wrap64 (x6_1 + (rd l1 x21_1))) 1000000000)), (wrap64 (x21_1 + 1)), fs, fs, H', ⟨by have := HK1.out; omega⟩, ⟨by (try simp only [hl5_1]); (with_reducible repeat (first | apply Kd.R_alloc | apply Kd.R_drewN | apply Kd.R_drew)); exact HO_5.out⟩, ⟨bqs⟩⟩
     (try (have c21b0_ := c21b0; rw [hl5_1] at c21b0_))
     clear c21
     obtain ⟨-, c27b0, H⟩ := gd H
     obtain ⟨c28, c28b0, H⟩ := gd H
     (try (have c28b0_ := c28b0; rw [hl5_1] at c28b0_))
     clear c28
     generalize hy182 : (x5_1.set (x21_1 : Int).toNat (Int.tmod x6_1 1000000000) : List Int) = y182 at H
     have Ny182 := Z0.mk hy182.symm
     clear hy182
     have H' := Z0.mk H
     clear H
     have p29 : 0 ≤ (x21_1 : Int) := od
     have q29 : (x21_1 : Int) < ((x5_1.length : Int) : Int) := od
     obtain ⟨go29, co29, eo29, gb29, gl29, cl29, HG29⟩ := Kd.R_form HO_5.out (by omega)
     (first | cases eo29 | (injection eo29 with ea_ en_ ec_; (first | subst ea_ | (injection ea_ with ea_; subst ea_)); subst ec_; clear en_))
     have GB29 := Z0.mk gb29
     have GG29 := Z0.mk HG29
     clear gb29 gl29 HG29
     obtain ⟨hx29_0, hf29_0⟩ := Kd.R_celln 0 HO_5.out (x21_1 : Int) p29 q29
     replace p29 := eq_true p29
     replace q29 := eq_true q29
     have HP30 := Kd.R_putg HO_5.out (x21_1 : Int) (Int.tmod x6_1 1000000000)
     go_wp2_with (first | ((with_reducible refine gate_store (t := 3) (p := 50) rfl ?_); refine store_event (t := 3) (p := 50) (v := ?vo_w31) (w1 := (wr.setCell ⟨go29, (x21_1 : Int).toNat, none⟩ (.int .i64 (Int.tmod x6_1 1000000000)))) ?hg ?ho ?hn ?hr ?_; (case ho => rfl); (case hg => rfl); (case hn => rfl); (case hr => first | (go_simp; done) | (go_simp; rfl)); intro w31 hw; have hg : wr.grownBy w31 (some go29) := (by rw [hw]; exact HP30.2); have hp_ : Kd.R (Kd.int .i64) 3 w31 w.heap.size (fun _ => True) (.slice (some ⟨go29, 0, none⟩) x5_1.length co8) y182 := (by rw [hw, Ny182.out]; exact HP30.1); clear HP30; replace HO_5 := Z0.mk (hp_); replace HB := Z0.mk ((by rw [hw]; exact below_set (HB.out) GB29.out : Below w.heap.size w w31)); clear hg hw hp_))
     (try simp only [← hl5_1])
     go_roundg k1
     case measure => have := HK1.out; omega
     case rel => exact ⟨(y182), (wrap64 (Int.tdiv x6_1 1000000000)), (wrap64 (x21_1 + 1)), fs, fs, H', ⟨by have := HK1.out; omega⟩, ⟨by (try simp only [hl5_1]); (with_reducible repeat (first | apply Kd.R_alloc | apply Kd.R_drewN | apply Kd.R_drew)); exact HO_5.out⟩, ⟨bqs⟩⟩
    (try (have c9b0_ := c9b0; rw [hl5_1] at c9b0_))
    clear c9
    obtain ⟨t173, A32, H⟩ := bnd H
    obtain rfl := Option.some.inj H
    go_wp2_with (first | ((with_reducible refine gc_ 107 rfl ?_); refine gL 53 Tryz.func107 (bItrim.calls k1 (fun k_ => some k_ = (.slice Ao8 x5_1.length co8 : Value).ownBlock) (.slice Ao8 x5_1.length co8) x5_1 t173 w _ ?side1 ?side2 A32.out) ?_; (case side1 => repeat (first | (with_reducible first | exact HB.out | apply below_alloc | apply pw_below_drewN | apply below_drew1) | exact HB.out)); (case side2 => exact Kd.R_tight rfl HO_5.out); rintro _ w33 ⟨v174, rfl, ho0, hb, hkp⟩; refine ⟨_, rfl, ?_⟩; have HO175 := Z0.mk (Kd.R_mono (ok' := fun k_ => True) ho0 (fun k_ hk_ => trivial)); replace HB := Z0.mk (hb); clear HO_5; clear hb hkp ho0))
    go_ret
    exact ⟨_, by first | rfl | (simp [errW_none, errW_some] <;> rfl) | (simp only [← hji3]; first | rfl | (simp [errW_none, errW_some] <;> rfl)) | (simp [*, errW_none, errW_some] <;> rfl), rq HO175, bqs⟩)
theorem bIplus.calls (k : Nat) (A0 : Option Addr) (c0 : Nat) (l0 : List Int) (A1 : Option Addr) (c1 : Nat) (l1 : List Int) (r : List Int) (w : World) (hr0 : Kd.C (Kd.int .i64) w A0 l0.length l0) (hc0 : l0.length ≤ c0) (hr1 : Kd.C (Kd.int .i64) w A1 l1.length l1) (hc1 : l1.length ≤ c1) (h : bIplus.f k l0 l1 = some r) :
  Calls Tryz.prog 102 #[.slice A0 l0.length c0, .slice A1 l1.length c1] w fun e w' => ∃ v0_ : Value, e = .returned (v0_) ∧ Kd.R (Kd.int .i64) 3 w' w.heap.size (fun _ => True) v0_ r ∧ Below w.heap.size w w' := by
 unfold bIplus.f at h
 split at h
 ·rename_i hs
  exact bIplus0.calls k A1 c1 l1 A0 c0 l0 r w hr1 hc1 hr0 hc0 _ (.inr ⟨rfl, hs⟩) h
 rename_i hs
 exact bIplus0.calls k A0 c0 l0 A1 c1 l1 r w hr0 hc0 hr1 hc1 _ (.inl ⟨rfl, hs⟩) h
set_option linter.unusedVariables false
set_option linter.unusedSimpArgs false
theorem run_store_func {P : Program} {w : World} {a : Addr} {m : Mode} (f : Fn) (x y : Array Value) : (store a (.func f x y) m).run P w = stored P w a (.func f x y) m := run_store P w a _ m rfl
attribute [local go_sem] run_store_func
def opsV : Value := .agg #[.func (.func 102) #[] #[], .func (.func 138) #[] #[], .func (.func 139) #[] #[], .func (.func 140) #[] #[]]
theorem ops_calls (w : World) : Calls Tryz.prog 104 #[] w fun e w' => e = .returned opsV ∧ Below w.heap.size w w' := by
 have hu123 := Tryz.underlying129
 have hu122 := Tryz.underlying128
 go_enter Tryz.func104, Tryz.ntmps104
 go_wp2_with ((with_reducible refine gd_ 0 rfl ?_); refine bxE 0 #[.nilFunc, .nilFunc, .nilFunc, .nilFunc] 129 ?_; intro g hg w1 hbox hb
              have c0 := blk_cell hbox 0; have c1 := blk_cell hbox 1; have c2 := blk_cell hbox 2; have c3 := blk_cell hbox 3
              have f0 := blk_frozen hbox 0; have f1 := blk_frozen hbox 1; have f2 := blk_frozen hbox 2; have f3 := blk_frozen hbox 3
              replace c0 := c0.trans (show _ = some Value.nilFunc from rfl); replace c1 := c1.trans (show _ = some Value.nilFunc from rfl); replace c2 := c2.trans (show _ = some Value.nilFunc from rfl); replace c3 := c3.trans (show _ = some Value.nilFunc from rfl)
              have hge : w.heap.size ≤ g := by omega
              clear hg)
 refine bodyPost_ret (results_cell_row rfl _ _ g 129 #[.func (.func 102) #[] #[], .func (.func 138) #[] #[], .func (.func 139) #[] #[], .func (.func 140) #[] #[]] (0, 0) _ rfl ?_ Tryz.underlying129 rfl (by kernel_rfl)) rfl ?_
 ·exact blk_put (cs := #[.func (.func 102) #[] #[], .func (.func 138) #[] #[], .func (.func 139) #[] #[], .nilFunc]) (blk_put (cs := #[.func (.func 102) #[] #[], .func (.func 138) #[] #[], .nilFunc, .nilFunc]) (blk_put (cs := #[.func (.func 102) #[] #[], .nilFunc, .nilFunc, .nilFunc]) (blk_put hbox 0 _ rfl) 1 _ rfl) 2 _ rfl) 3 _ rfl
 exact ⟨rfl, below_set (below_set (below_set (below_set hb hge) hge) hge) hge⟩
theorem op1_calls (a0 a1 : Bool) (v0 v1 : Value) (w : World) : Calls Tryz.prog 138 #[.agg #[.bool a0, v0], .agg #[.bool a1, v1]] w fun e w' => e = .returned (.bool a0) ∧ Below w.heap.size w w' := by
 have hu88 := Tryz.underlying80
 go_enter Tryz.func138, Tryz.ntmps138
 go_wp2
 go_ret
 exact ⟨rfl, ((Below.refl _ w).alloc (Nat.le_refl _) _).alloc (by simp) _⟩
theorem op2_calls (k : Nat) (A0 : Option Addr) (c0 : Nat) (l0 : List Int) (A1 : Option Addr) (c1 : Nat) (l1 : List Int) (t : Int) (r : List Int) (w : World) (hr0 : Kd.C (Kd.int .i64) w A0 l0.length l0) (hc0 : l0.length ≤ c0) (hr1 : Kd.C (Kd.int .i64) w A1 l1.length l1) (hc1 : l1.length ≤ c1)
    (ho : bIorder.f l0 l1 = some t) (h : (if t < 0 then bIminus.f k l1 l0 else bIminus.f k l0 l1) = some r) :
    Calls Tryz.prog 139 #[.slice A0 l0.length c0, .slice A1 l1.length c1] w fun e w' => ∃ v0_ : Value, e = .returned (v0_) ∧ Kd.R (Kd.int .i64) 3 w' w.heap.size (fun _ => True) v0_ r ∧ Below w.heap.size w w' := by
 by_cases c : t < 0
 ·rw [if_pos c] at h
  have c0b : decide (t < 0) = true := decide_eq_true c
  clear c
  go_enter Tryz.func139, Tryz.ntmps139
  go_wp2_with (first
    | ((with_reducible refine gc_ 105 rfl ?_); refine goB (w0 := w) (some 7) Tryz.func105 #[.slice A0 l0.length c0, .slice A1 l1.length c1] (Below.refl _ _) (bIorder.calls _ _ l0 _ _ l1 t _ hr0 hc0 hr1 hc1 ho) ?_; intro w1 HB)
    | ((with_reducible refine gc_ 103 rfl ?_); refine goesL_ (some 13) rfl rfl Tryz.func103 (by kernel_rfl) rfl #[.slice A1 l1.length c1, .slice A0 l0.length c0] rfl (by (try simp only [List.map_toArray, List.map_cons, List.map_nil]); first | done | rfl) ?_
       refine (bIminus.calls k A1 c1 l1 A0 c0 l0 r _ (Kd.C_below hr1 HB.out) hc1 (Kd.C_below hr0 HB.out) hc0 h).mono ?_
       rintro e w2 ⟨v0, rfl, hR, hb⟩; refine ⟨_, rfl, ?_⟩))
  go_ret
  exact ⟨_, rfl, Kd.R_lower hR HB.out.size, below_step HB.out hb⟩
 rw [if_neg c] at h
 have c0b : decide (t < 0) = false := decide_eq_false c
 clear c
 go_enter Tryz.func139, Tryz.ntmps139
 go_wp2_with (first
   | ((with_reducible refine gc_ 105 rfl ?_); refine goB (w0 := w) (some 7) Tryz.func105 #[.slice A0 l0.length c0, .slice A1 l1.length c1] (Below.refl _ _) (bIorder.calls _ _ l0 _ _ l1 t _ hr0 hc0 hr1 hc1 ho) ?_; intro w1 HB)
   | ((with_reducible refine gc_ 103 rfl ?_); refine goesL_ (some 13) rfl rfl Tryz.func103 (by kernel_rfl) rfl #[.slice A0 l0.length c0, .slice A1 l1.length c1] rfl (by (try simp only [List.map_toArray, List.map_cons, List.map_nil]); first | done | rfl) ?_
      refine (bIminus.calls k A0 c0 l0 A1 c1 l1 r _ (Kd.C_below hr0 HB.out) hc0 (Kd.C_below hr1 HB.out) hc1 h).mono ?_
      rintro e w2 ⟨v0, rfl, hR, hb⟩; refine ⟨_, rfl, ?_⟩))
 go_ret
 exact ⟨_, rfl, Kd.R_lower hR HB.out.size, below_step HB.out hb⟩
theorem op3_calls (a0 a1 : Bool) (A0 : Option Addr) (c0 : Nat) (l0 : List Int) (A1 : Option Addr) (c1 : Nat) (l1 : List Int) (t : Int) (w : World) (hr0 : Kd.C (Kd.int .i64) w A0 l0.length l0) (hc0 : l0.length ≤ c0) (hr1 : Kd.C (Kd.int .i64) w A1 l1.length l1) (hc1 : l1.length ≤ c1)
    (ho : bIorder.f l0 l1 = some t) :
    Calls Tryz.prog 140 #[.agg #[.bool a0, .slice A0 l0.length c0], .agg #[.bool a1, .slice A1 l1.length c1]] w fun e w' => e = .returned (.bool (decide (t < 0) != a0)) ∧ Below w.heap.size w w' := by
 have hu88 := Tryz.underlying80
 go_enter Tryz.func140, Tryz.ntmps140
 go_wp2
 obtain ⟨s, hs⟩ : ∃ s, w.heap.size = s := ⟨_, rfl⟩
 simp only [hs]
 obtain ⟨W, hW⟩ : ∃ W, (w.alloc (.cells #[.bool a0, .slice A0 l0.length c0] 80)).alloc (.cells #[.bool a1, .slice A1 l1.length c1] 80) = W := ⟨_, rfl⟩
 rw [hW]
 have hB : Below s w W := by rw [← hW]; exact ((Below.refl _ w).alloc (by omega) _).alloc (by simp; omega) _
 have h0 : W.heap[s]? = some (.cells #[.bool a0, .slice A0 l0.length c0] 80 (0, 0)) := by rw [← hW, ← hs]; exact (Below.heap_alloc _ _ _ (by simp)).trans (World.alloc_heap_new w _)
 have h1 : W.heap[s + 1]? = some (.cells #[.bool a1, .slice A1 l1.length c1] 80 (0, 0)) := by
  rw [← hW, ← hs]; have := World.alloc_heap_new (w.alloc (.cells #[.bool a0, .slice A0 l0.length c0] 80)) (.cells #[.bool a1, .slice A1 l1.length c1] 80); simpa using this
 have hlt : s + 1 < W.heap.size := (Array.getElem?_eq_some_iff.1 h1).1
 clear hW
 have k0 : Kd.C (Kd.int .i64) W.drew A0 l0.length l0 := Kd.C_below hr0 (by rw [hs]; exact hB.drew)
 have k1 : Kd.C (Kd.int .i64) W.drew A1 l1.length l1 := Kd.C_below hr1 (by rw [hs]; exact hB.drew)
 have f00 := blk_cell h0 0
 have f01 := blk_cell h0 1
 have f11 := blk_cell h1 1
 go_region_held3 (fun w' => w'.cell? ⟨s, 0, none⟩ = some (.bool a0) ∧ w'.cell? ⟨s, 1, none⟩ = some (.slice A0 l0.length c0) ∧ w'.cell? ⟨s + 1, 1, none⟩ = some (.slice A1 l1.length c1)) (first | exact ⟨f00, f01, f11⟩ | exact ⟨(blk_cell g0 0), (blk_cell g0 1), (blk_cell g1 1)⟩) (first | (go_at_call 105; refine (bIorder.calls _ _ l0 _ _ l1 t _ k0 hc0 k1 hc1 ho).mono ?_; rintro e w' ⟨rfl, hb⟩; have g0 : w'.heap[s]? = some (.cells #[.bool a0, .slice A0 l0.length c0] 80 (0, 0)) := (hb.block s (show s < W.heap.size by omega)).trans h0; have g1 : w'.heap[s + 1]? = some (.cells #[.bool a1, .slice A1 l1.length c1] 80 (0, 0)) := (hb.block (s + 1) hlt).trans h1))
 all_goals go_wp2
 all_goals go_ret
 refine ⟨by simp [bne], by rw [hs]; exact (hB.drew).trans (hb.mono (by have := hB.size; rw [hs] at this; exact this))⟩
set_option linter.unusedVariables false
set_option linter.unusedSimpArgs false
attribute [local go_sem] run_store_func
theorem at123_0 (w : World) : (Instr.index 129 opsV (.int .i64 0)).run Tryz.prog w = .ok (.agg #[.func (.func 102) #[] #[], .func (.func 138) #[] #[]]) w := by kernel_rfl
theorem at123_1 (w : World) : (Instr.index 129 opsV (.int .i64 1)).run Tryz.prog w = .ok (.agg #[.func (.func 139) #[] #[], .func (.func 140) #[] #[]]) w := by kernel_rfl
attribute [local go_sem] at123_0 at123_1
structure SumI (s : Nat) (a0 : Bool) (A0 : Option Addr) (c0 : Nat) (l0 : List Int) (a1 : Bool) (A1 : Option Addr) (c1 : Nat) (l1 : List Int) (f g : Nat) (gf : Nat) (w W : World) : Prop where
 x : W.heap[s]? = some (.cells #[.bool a0, .slice A0 l0.length c0] 80 (0, 0))
 y : W.heap[s + 1]? = some (.cells #[.bool a1, .slice A1 l1.length c1] 80 (0, 0))
 r : W.heap[s + 2]? = some (.cells #[.bool false, .slice none 0 0] 80 (0, 0))
 o : W.heap[gf]? = some (.cells #[.func (.func f) #[] #[], .func (.func g) #[] #[]] 128 (0, 0))
 b : Below w.heap.size w W
 kx : Kd.C (Kd.int .i64) W A0 l0.length l0
 ky : Kd.C (Kd.int .i64) W A1 l1.length l1
 ne : s + 3 ≤ gf
theorem SumI.on {s : Nat} {a0 : Bool} {A0 : Option Addr} {c0 : Nat} {l0 : List Int} {a1 : Bool} {A1 : Option Addr} {c1 : Nat} {l1 : List Int} {f g gf : Nat} {w W W' : World} (h : SumI s a0 A0 c0 l0 a1 A1 c1 l1 f g gf w W) (hb : Below W.heap.size W W') : SumI s a0 A0 c0 l0 a1 A1 c1 l1 f g gf w W' :=
 have k : ∀ {j : Nat} {o : Obj}, W.heap[j]? = some o → W'.heap[j]? = some o := fun hj => (hb.block _ (Array.getElem?_eq_some_iff.1 hj).1).trans hj
 ⟨k h.x, k h.y, k h.r, k h.o, h.b.trans (hb.mono h.b.size), Kd.C_below h.kx hb, Kd.C_below h.ky hb, h.ne⟩
def SumS (s : Nat) (a0 : Bool) (A0 : Option Addr) (c0 : Nat) (l0 : List Int) (a1 : Bool) (A1 : Option Addr) (c1 : Nat) (l1 : List Int) (f g : Nat) (gf : Nat) (w' : World) : Prop :=
 w'.cell? ⟨s, 0, none⟩ = some (.bool a0) ∧ w'.cell? ⟨s, 1, none⟩ = some (.slice A0 l0.length c0) ∧ w'.cell? ⟨s + 1, 0, none⟩ = some (.bool a1) ∧ w'.cell? ⟨s + 1, 1, none⟩ = some (.slice A1 l1.length c1) ∧ w'.cell? ⟨gf, 0, none⟩ = some (.func (.func f) #[] #[]) ∧ w'.cell? ⟨gf, 1, none⟩ = some (.func (.func g) #[] #[])
theorem SumI.cells {s : Nat} {a0 : Bool} {A0 : Option Addr} {c0 : Nat} {l0 : List Int} {a1 : Bool} {A1 : Option Addr} {c1 : Nat} {l1 : List Int} {f g gf : Nat} {w W : World} (h : SumI s a0 A0 c0 l0 a1 A1 c1 l1 f g gf w W) : SumS s a0 A0 c0 l0 a1 A1 c1 l1 f g gf W :=
 ⟨blk_cell h.x 0, blk_cell h.x 1, blk_cell h.y 0, blk_cell h.y 1, blk_cell h.o 0, blk_cell h.o 1⟩
theorem SumI.put {s : Nat} {a0 : Bool} {A0 : Option Addr} {c0 : Nat} {l0 : List Int} {a1 : Bool} {A1 : Option Addr} {c1 : Nat} {l1 : List Int} {f g gf : Nat} {w W : World} (h : SumI s a0 A0 c0 l0 a1 A1 c1 l1 f g gf w W) (u v : Value) : SumS s a0 A0 c0 l0 a1 A1 c1 l1 f g gf ((W.setCell ⟨s + 1 + 1, 0, none⟩ u).setCell ⟨s + 1 + 1, 1, none⟩ v) := by
 have k : ∀ {j : Nat} {o : Obj}, j ≠ s + 1 + 1 → W.heap[j]? = some o → ((W.setCell ⟨s + 1 + 1, 0, none⟩ u).setCell ⟨s + 1 + 1, 1, none⟩ v).heap[j]? = some o := fun hn hj => (Below.heap_setCell _ _ _ _ hn).trans ((Below.heap_setCell _ _ _ _ hn).trans hj)
 have hne := h.ne
 have hx := k (by omega) h.x
 have hy := k (by omega) h.y
 have ho := k (by omega) h.o
 exact ⟨blk_cell hx 0, blk_cell hx 1, blk_cell hy 0, blk_cell hy 1, blk_cell ho 0, blk_cell ho 1⟩
theorem SumI.end_ {s : Nat} {a0 : Bool} {A0 : Option Addr} {c0 : Nat} {l0 : List Int} {a1 : Bool} {A1 : Option Addr} {c1 : Nat} {l1 : List Int} {f g gf : Nat} {w W : World} (h : SumI s a0 A0 c0 l0 a1 A1 c1 l1 f g gf w W) (u v : Value) : ((W.setCell ⟨s + 1 + 1, 0, none⟩ u).setCell ⟨s + 1 + 1, 1, none⟩ v).heap[s + 1 + 1]? = some (.cells #[u, v] 80 (0, 0)) :=
 blk_put (cs := #[u, .slice none 0 0]) (blk_put (cs := #[.bool false, .slice none 0 0]) h.r 0 _ rfl) 1 _ rfl
theorem SumI.new (w w1 : World) (a0 : Bool) (A0 : Option Addr) (c0 : Nat) (l0 : List Int) (a1 : Bool) (A1 : Option Addr) (c1 : Nat) (l1 : List Int) (f g : Nat) (hr0 : Kd.C (Kd.int .i64) w A0 l0.length l0) (hr1 : Kd.C (Kd.int .i64) w A1 l1.length l1)
  (hb : Below (((w.alloc (.cells #[.bool a0, .slice A0 l0.length c0] 80)).alloc (.cells #[.bool a1, .slice A1 l1.length c1] 80)).alloc (.cells #[.bool false, .slice none 0 0] 80)).heap.size (((w.alloc (.cells #[.bool a0, .slice A0 l0.length c0] 80)).alloc (.cells #[.bool a1, .slice A1 l1.length c1] 80)).alloc (.cells #[.bool false, .slice none 0 0] 80)) w1) :
  SumI w.heap.size a0 A0 c0 l0 a1 A1 c1 l1 f g w1.heap.size w (w1.alloc (.cells #[.func (.func f) #[] #[], .func (.func g) #[] #[]] 128)) := by
 obtain ⟨W0, hW0⟩ : ∃ W0, ((w.alloc (.cells #[.bool a0, .slice A0 l0.length c0] 80)).alloc (.cells #[.bool a1, .slice A1 l1.length c1] 80)).alloc (.cells #[.bool false, .slice none 0 0] 80) = W0 := ⟨_, rfl⟩
 rw [hW0] at hb
 have hB0 : Below w.heap.size w W0 := by rw [← hW0]; exact (((Below.refl _ w).alloc (Nat.le_refl _) _).alloc (by simp) _).alloc (by simp; omega) _
 have hs0 : W0.heap.size = w.heap.size + 3 := by rw [← hW0]; simp
 have h0 : W0.heap[w.heap.size]? = some (.cells #[.bool a0, .slice A0 l0.length c0] 80 (0, 0)) := by
  rw [← hW0]; exact (Below.heap_alloc _ _ _ (by simp; omega)).trans ((Below.heap_alloc _ _ _ (by simp)).trans (World.alloc_heap_new w _))
 have h1 : W0.heap[w.heap.size + 1]? = some (.cells #[.bool a1, .slice A1 l1.length c1] 80 (0, 0)) := by
  rw [← hW0]; refine (Below.heap_alloc _ _ _ (by simp)).trans ?_
  have := World.alloc_heap_new (w.alloc (.cells #[.bool a0, .slice A0 l0.length c0] 80)) (.cells #[.bool a1, .slice A1 l1.length c1] 80); simpa using this
 have h2 : W0.heap[w.heap.size + 2]? = some (.cells #[.bool false, .slice none 0 0] 80 (0, 0)) := by
  rw [← hW0]
  have := World.alloc_heap_new ((w.alloc (.cells #[.bool a0, .slice A0 l0.length c0] 80)).alloc (.cells #[.bool a1, .slice A1 l1.length c1] 80)) (.cells #[.bool false, .slice none 0 0] 80); simpa using this
 have hB1 : Below w.heap.size w w1 := hB0.trans (hb.mono hB0.size)
 have k : ∀ {j : Nat} {o : Obj}, W0.heap[j]? = some o → (w1.alloc (.cells #[.func (.func f) #[] #[], .func (.func g) #[] #[]] 128)).heap[j]? = some o := fun {j o} hj =>
  (Below.heap_alloc _ _ _ (Nat.lt_of_lt_of_le (Array.getElem?_eq_some_iff.1 hj).1 hb.size)).trans ((hb.block _ (Array.getElem?_eq_some_iff.1 hj).1).trans hj)
 have hB2 := hB1.alloc (Nat.le_trans hB0.size hb.size) (.cells #[.func (.func f) #[] #[], .func (.func g) #[] #[]] 128)
 exact ⟨k h0, k h1, k h2, World.alloc_heap_new w1 _, hB2, Kd.C_below hr0 hB2, Kd.C_below hr1 hB2, by have := hb.size; omega⟩
theorem sum_eq (k : Nat) (a0 : Bool) (A0 : Option Addr) (c0 : Nat) (l0 : List Int) (A1 : Option Addr) (c1 : Nat) (l1 : List Int) (r : List Int) (w : World) (hr0 : Kd.C (Kd.int .i64) w A0 l0.length l0) (hc0 : l0.length ≤ c0) (hr1 : Kd.C (Kd.int .i64) w A1 l1.length l1) (hc1 : l1.length ≤ c1)
  (h : bIplus.f k l0 l1 = some r) :
  Calls Tryz.prog 59 #[.agg #[.bool a0, .slice A0 l0.length c0], .agg #[.bool a0, .slice A1 l1.length c1]] w fun e w' => ∃ v1_ : Value, e = .returned (.agg #[.bool a0, v1_]) ∧ Kd.R (Kd.int .i64) 3 w' w.heap.size (fun _ => True) v1_ r ∧ Below w.heap.size w w' := by
 have hu88 := Tryz.underlying80
 have hu122 := Tryz.underlying128
 go_enter Tryz.func59, Tryz.ntmps59
 go_wp2_with ((with_reducible refine gc_ 104 rfl ?_); refine goesL_ (some 12) rfl rfl Tryz.func104 (by kernel_rfl) rfl #[] rfl (by (try simp only [List.map_toArray, List.map_cons, List.map_nil]); first | done | rfl) ?_; refine (ops_calls _).mono ?_; rintro e w1 ⟨rfl, hb1⟩; refine ⟨_, rfl, ?_⟩)
 have hI := SumI.new w w1 a0 A0 c0 l0 a0 A1 c1 l1 102 138 hr0 hr1 hb1
 obtain ⟨W, hW⟩ : ∃ W, w1.alloc (.cells #[.func (.func 102) #[] #[], .func (.func 138) #[] #[]] 128) = W := ⟨_, rfl⟩
 rw [hW] at hI
 rw [hW]
 obtain ⟨gf, hgf⟩ : ∃ gf, w1.heap.size = gf := ⟨_, rfl⟩
 rw [hgf] at hI
 simp only [hgf]
 obtain ⟨s, hs⟩ : ∃ s, w.heap.size = s := ⟨_, rfl⟩
 rw [hs] at hI
 simp only [hs]
 clear hW hgf hb1
 have hId : SumI s a0 A0 c0 l0 a0 A1 c1 l1 102 138 gf w W.drew := hI.on ((Below.refl _ W).drew)
 go_region_held3 (fun w' => w'.cell? ⟨s, 0, none⟩ = some (.bool a0) ∧ w'.cell? ⟨s, 1, none⟩ = some (.slice A0 l0.length c0) ∧ w'.cell? ⟨s + 1, 0, none⟩ = some (.bool a0) ∧ w'.cell? ⟨s + 1, 1, none⟩ = some (.slice A1 l1.length c1) ∧ w'.cell? ⟨gf, 0, none⟩ = some (.func (.func 102) #[] #[]) ∧ w'.cell? ⟨gf, 1, none⟩ = some (.func (.func 138) #[] #[]))
  (first | exact hId.cells | exact hI2.cells | exact hI3.cells | exact hI3.put _ _)
  (first
   | (go_at_call 138; refine (op1_calls a0 a0 _ _ _).mono ?_; rintro e w2 ⟨rfl, hb⟩; have hI2 := hId.on hb)
   | (go_at_call 102; refine (bIplus.calls k A0 c0 l0 A1 c1 l1 r w2 hI2.kx hc0 hI2.ky hc1 h).mono ?_; rintro e w3 ⟨v0, rfl, hR, hb3⟩; have hI3 := hI2.on hb3; obtain ⟨Ar, cr, er⟩ := Kd.R_slice hR; subst er; have r0 := blk_cell hI3.r 0; have r1 := blk_cell hI3.r 1; have rf0 := blk_frozen hI3.r 0; have rf1 := blk_frozen hI3.r 1))
 all_goals go_wp2
 refine bodyPost_ret (results_cell_row rfl _ _ (s + 1 + 1) 80 #[.bool a0, .slice Ar r.length cr] (0, 0) _ rfl (hI3.end_ _ _) Tryz.underlying80 rfl (by kernel_rfl)) rfl ⟨_, rfl, ?_, ?_⟩
 ·refine Kd.R_mono (Kd.R_far (p := ⟨s + 1 + 1, 1, none⟩) (Kd.R_far (p := ⟨s + 1 + 1, 0, none⟩) (Kd.R_types (Kd.R_lower hR hI2.b.size) hI3.r (by decide)) (fun _ hk => hk.2) _) (fun _ hk => hk.2) _) (fun _ _ => trivial)
 exact below_set (below_set hI3.b (by omega)) (by omega)
theorem sum_ne (k : Nat) (a0 a1 : Bool) (t : Int) (A0 : Option Addr) (c0 : Nat) (l0 : List Int) (A1 : Option Addr) (c1 : Nat) (l1 : List Int) (r : List Int) (w : World) (hr0 : Kd.C (Kd.int .i64) w A0 l0.length l0) (hc0 : l0.length ≤ c0) (hr1 : Kd.C (Kd.int .i64) w A1 l1.length l1) (hc1 : l1.length ≤ c1)
  (hne : (a0 != a1) = true) (ho : bIorder.f l0 l1 = some t) (h : (if t < 0 then bIminus.f k l1 l0 else bIminus.f k l0 l1) = some r) :
  Calls Tryz.prog 59 #[.agg #[.bool a0, .slice A0 l0.length c0], .agg #[.bool a1, .slice A1 l1.length c1]] w fun e w' => ∃ v1_ : Value, e = .returned (.agg #[.bool (decide (t < 0) != a0), v1_]) ∧ Kd.R (Kd.int .i64) 3 w' w.heap.size (fun _ => True) v1_ r ∧ Below w.heap.size w w' := by
 have hne1 : (a0 == a1) = false := by simpa [bne] using hne
 have hne2 : ¬ a0 = a1 := by simpa using hne1
 have hu88 := Tryz.underlying80
 have hu122 := Tryz.underlying128
 go_enter Tryz.func59, Tryz.ntmps59
 go_wp2_with ((with_reducible refine gc_ 104 rfl ?_); refine goesL_ (some 12) rfl rfl Tryz.func104 (by kernel_rfl) rfl #[] rfl (by (try simp only [List.map_toArray, List.map_cons, List.map_nil]); first | done | rfl) ?_; refine (ops_calls _).mono ?_; rintro e w1 ⟨rfl, hb1⟩; refine ⟨_, rfl, ?_⟩)
 have hI := SumI.new w w1 a0 A0 c0 l0 a1 A1 c1 l1 139 140 hr0 hr1 hb1
 obtain ⟨W, hW⟩ : ∃ W, w1.alloc (.cells #[.func (.func 139) #[] #[], .func (.func 140) #[] #[]] 128) = W := ⟨_, rfl⟩
 rw [hW] at hI
 rw [hW]
 obtain ⟨gf, hgf⟩ : ∃ gf, w1.heap.size = gf := ⟨_, rfl⟩
 rw [hgf] at hI
 simp only [hgf]
 obtain ⟨s, hs⟩ : ∃ s, w.heap.size = s := ⟨_, rfl⟩
 rw [hs] at hI
 simp only [hs]
 clear hW hgf hb1
 have hId : SumI s a0 A0 c0 l0 a1 A1 c1 l1 139 140 gf w W.drew := hI.on ((Below.refl _ W).drew)
 go_region_held3 (fun w' => w'.cell? ⟨s, 0, none⟩ = some (.bool a0) ∧ w'.cell? ⟨s, 1, none⟩ = some (.slice A0 l0.length c0) ∧ w'.cell? ⟨s + 1, 0, none⟩ = some (.bool a1) ∧ w'.cell? ⟨s + 1, 1, none⟩ = some (.slice A1 l1.length c1) ∧ w'.cell? ⟨gf, 0, none⟩ = some (.func (.func 139) #[] #[]) ∧ w'.cell? ⟨gf, 1, none⟩ = some (.func (.func 140) #[] #[]))
  (first | exact hId.cells | exact hI2.cells | exact hI3.cells | exact hI3.put _ _)
  (first
   | (go_at_call 140; refine (op3_calls a0 a1 A0 c0 l0 A1 c1 l1 t _ hId.kx hc0 hId.ky hc1 ho).mono ?_; rintro e w2 ⟨rfl, hb⟩; have hI2 := hId.on hb)
   | (go_at_call 139; refine (op2_calls k A0 c0 l0 A1 c1 l1 t r w2 hI2.kx hc0 hI2.ky hc1 ho h).mono ?_; rintro e w3 ⟨v0, rfl, hR, hb3⟩; have hI3 := hI2.on hb3; obtain ⟨Ar, cr, er⟩ := Kd.R_slice hR; subst er; have r0 := blk_cell hI3.r 0; have r1 := blk_cell hI3.r 1; have rf0 := blk_frozen hI3.r 0; have rf1 := blk_frozen hI3.r 1))
 all_goals go_wp2
 refine bodyPost_ret (results_cell_row rfl _ _ (s + 1 + 1) 80 #[.bool (decide (t < 0) != a0), .slice Ar r.length cr] (0, 0) _ rfl (by first | exact hI3.end_ _ _ | (have := hI3.end_ (.bool (decide (t < 0) != a0)) (.slice Ar r.length cr); simpa [bne] using this)) Tryz.underlying80 rfl (by kernel_rfl)) rfl ⟨_, rfl, ?_, ?_⟩
 ·refine Kd.R_mono (Kd.R_far (p := ⟨s + 1 + 1, 1, none⟩) (Kd.R_far (p := ⟨s + 1 + 1, 0, none⟩) (Kd.R_types (Kd.R_lower hR hI2.b.size) hI3.r (by decide)) (fun _ hk => hk.2) _) (fun _ hk => hk.2) _) (fun _ _ => trivial)
 exact below_set (below_set hI3.b (by omega)) (by omega)
theorem bIsum.calls (k : Nat) (a0_0 : Bool) (A0_1 : Option Addr) (c0_1 : Nat) (l0_1 : List Int) (a1_0 : Bool) (A1_1 : Option Addr) (c1_1 : Nat) (l1_1 : List Int) (r1 : Bool) (r2 : List Int) (w : World) (hr0_1 : Kd.C (Kd.int .i64) w A0_1 l0_1.length l0_1) (hc0_1 : l0_1.length ≤ c0_1) (hr1_1 : Kd.C (Kd.int .i64) w A1_1 l1_1.length l1_1) (hc1_1 : l1_1.length ≤ c1_1) (h : bIsum.f k a0_0 l0_1 a1_0 l1_1 = some (r1, r2)) :
  Calls Tryz.prog 59 #[.agg #[.bool a0_0, .slice A0_1 l0_1.length c0_1], .agg #[.bool a1_0, .slice A1_1 l1_1.length c1_1]] w fun e w' => ∃ v1_ : Value, e = .returned (.agg #[.bool r1, v1_]) ∧ Kd.R (Kd.int .i64) 3 w' w.heap.size (fun _ => True) v1_ r2 ∧ Below w.heap.size w w' := by
 unfold bIsum.f at h
 split at h
 ·rename_i he
  subst he
  obtain ⟨r, hr, h⟩ := Option.bind_eq_some_iff.mp h
  simp only [Option.some.injEq, Prod.mk.injEq] at h
  obtain ⟨rfl, rfl⟩ := h
  exact sum_eq k a0_0 A0_1 c0_1 l0_1 A1_1 c1_1 l1_1 r w hr0_1 hc0_1 hr1_1 hc1_1 hr
 rename_i he
 obtain ⟨t, ht, h⟩ := Option.bind_eq_some_iff.mp h
 obtain ⟨r, hr, h⟩ := Option.bind_eq_some_iff.mp h
 simp only [Option.some.injEq, Prod.mk.injEq] at h
 obtain ⟨rfl, rfl⟩ := h
 exact sum_ne k a0_0 a1_0 t A0_1 c0_1 l0_1 A1_1 c1_1 l1_1 r w hr0_1 hc0_1 hr1_1 hc1_1 (by simpa using he) ht hr
end Go.Proofs.YtinpcbjjnlpblaaGreatDoor
namespace Go.Proofs.YtinpcbjjnlpblaaGreatDoor.PA
set_option linter.unusedVariables false
open Go.RowKit Go.Proofs.WWords Go.Proofs.WLast Go.Proofs.WMore
attribute [local go_sem] max2_int min2_int max_two min_two max_three min_three max_four min_four
set_option linter.unusedSimpArgs false
theorem bInumber_size.calls (a0_0 : Bool) (A0_1 : Option Addr) (c0_1 : Nat) (l0_1 : List Int) (r : Int) (w : World) (hL : LaidW w) (hr0_1 : Kd.C (Kd.int .i64) w A0_1 l0_1.length l0_1) (hc0_1 : l0_1.length ≤ c0_1) (h : bInumber_size.f a0_0 l0_1 = some r) :
  Calls Tryz.prog 109 #[.agg #[.bool a0_0, .slice A0_1 l0_1.length c0_1]] w fun e w' => e = .returned (.int .i64 r) ∧ Below w.heap.size w w' := by
 have hu88 := Tryz.underlying80
 have HR0_1 := Z0.mk hr0_1
 have HC0_1 := Z0.mk hc0_1
 clear hr0_1 hc0_1
 have HB := Z0.mk (Below.refl w.heap.size w)
 have H := h
 clear h
 unfold bInumber_size.f at H
 rcases je H with ⟨-, c2b0, c2b1, H⟩ | ⟨c2, c2b0, c2b1, H⟩
 ·obtain rfl := Option.some.inj H
  go_enter Tryz.func109, Tryz.ntmps109
  go_wp2_with (first | ((with_reducible refine gd_ 1 rfl ?_); refine bxE 1 #[.bool a0_0, .slice A0_1 l0_1.length c0_1] 80 ?_; intro gb292 hg w3 hbox hb; have BK292 := Z0.mk hbox; have GW292 := fE HB hg; have GE292 := fE HB hg; replace HB := fB HB hb; clear hb hbox hg; obtain ⟨hcz4_0, hcz4_1, hfz4_0, hfz4_1⟩ := b2 BK292))
  go_ret
  exact finE
 have c2b2 : ¬ (l0_1 = []) := fun h_ => c2 (by rw [h_]; rfl)
 obtain ⟨ji5, hji5⟩ : ∃ j_ : Int, (wrap64 ((l0_1.length : Int) - 1)) = j_ := ⟨_, rfl⟩
 replace H : (if 0 ≤ (ji5) then (if (ji5) < (l0_1.length : Int) then ((strconv_Itoa.f (rd l0_1 (ji5))).bind fun t294 => (some (wrap64 ((wrap64 ((ji5) * 9)) + (t294.size : Int))))) else (none)) else (none)) = some r := by first | (rw [hji5] at H; exact H) | (simp only [hji5] at H ⊢; exact H)
 have hji5w : (IntKind.i64.wrap ((l0_1.length : Int) - 1)) = ji5 := (i64_w _).trans hji5
 obtain ⟨-, c6b0, H⟩ := gd H
 obtain ⟨-, c7b0, H⟩ := gd H
 obtain ⟨t294, A8, H⟩ := bnd H
 obtain rfl := Option.some.inj H
 go_enter Tryz.func109, Tryz.ntmps109
 go_wp2_with (first | ((with_reducible refine gd_ 1 rfl ?_); refine bxE 1 #[.bool a0_0, .slice A0_1 l0_1.length c0_1] 80 ?_; intro gb292 hg w9 hbox hb; have BK292 := Z0.mk hbox; have GW292 := fE HB hg; have GE292 := fE HB hg; replace HB := fB HB hb; clear hb hbox hg; obtain ⟨hcz10_0, hcz10_1, hfz10_0, hfz10_1⟩ := b2 BK292; have p293 : 0 ≤ ((ji5) : Int) := od; have q293 : (ji5) < (l0_1.length : Int) := od; obtain ⟨ad293, e293, hx293_0⟩ := Kd.at_int HR0_1.out (ji5) p293 q293; cases e293; replace hx293_0 := (HB.out.cell (World.block_lt_of_cell? w _ hx293_0)).trans hx293_0; replace p293 := eq_true p293; replace q293 := eq_true q293) | ((with_reducible refine gc_ 98 rfl ?_); refine goesL_ (some 19) rfl rfl Tryz.func98 (by kernel_rfl) rfl #[.int .i64 (rd l0_1 (ji5))] rfl (by (try simp only [List.map_toArray, List.map_cons, List.map_nil]); first | done | (simp only [hji5]; rfl) | rfl | (simp only [List.length_drop, List.length_take]; rfl)) ?_; (with_reducible refine (strconv_Itoa.calls (rd l0_1 (ji5)) t294 _ ?side1 A8.out).mono ?_); (case side1 => exact LaidW.below hL bqs); rintro e w11 ⟨rfl, hb⟩; refine ⟨_, rfl, ?_⟩; replace BK292 := fk BK292 hb; replace HB := fB HB hb; clear hb))
 go_ret
 exact ⟨by first | rfl | (simp [errW_none, errW_some] <;> rfl) | (simp only [← hji5]; first | rfl | (simp [errW_none, errW_some] <;> rfl)) | (simp [*, errW_none, errW_some] <;> rfl), bqs⟩
end Go.Proofs.YtinpcbjjnlpblaaGreatDoor.PA
namespace Go.Proofs
set_option linter.unusedVariables false
open Go.Shelf
def Tryz.laysB167_ren : Go.Shelf.Ren := ⟨fun | 167 => 96 | 240 => 131 | 276 => 154  | n => n, fun | 0 => 0 | 4 => 4 | 5 => 5 | 9 => 9 | 20 => 20 | 37 => 55 | 70 => 112 | 72 => 114 | 75 => 116 | 80 => 125 | 164 => 155  | n => n, fun | n => n⟩
theorem Tryz.laysB167 : Go.Proofs.Lays.n167 Tryz.prog Tryz.laysB167_ren := {
 mixed := by kernel_rfl
 f167 := Tryz.func96.trans (congrArg some (by kernel_rfl))
 f240 := Tryz.func131.trans (congrArg some (by kernel_rfl))
 f276 := Tryz.func154.trans (congrArg some (by kernel_rfl))
 t0 := Tryz.underlying0
 a0 := Tryz.isAgg0
 z0 := Tryz.sizeOf0
 v0 := Tryz.zeroValue0
 t4 := Tryz.underlying4
 a4 := Tryz.isAgg4
 z4 := Tryz.sizeOf4
 v4 := Tryz.zeroValue4
 t5 := Tryz.underlying5
 a5 := Tryz.isAgg5
 z5 := Tryz.sizeOf5
 v5 := Tryz.zeroValue5
 t9 := Tryz.underlying9
 a9 := Tryz.isAgg9
 z9 := Tryz.sizeOf9
 v9 := Tryz.zeroValue9
 t20 := Tryz.underlying20
 a20 := Tryz.isAgg20
 z20 := Tryz.sizeOf20
 v20 := Tryz.zeroValue20
 t37 := Tryz.underlying55
 a37 := Tryz.isAgg55
 z37 := Tryz.sizeOf55
 v37 := Tryz.zeroValue55
 t70 := Tryz.underlying112
 a70 := Tryz.isAgg112
 z70 := Tryz.sizeOf112
 v70 := Tryz.zeroValue112
 t72 := Tryz.underlying114
 a72 := Tryz.isAgg114
 z72 := Tryz.sizeOf114
 v72 := Tryz.zeroValue114
 t75 := Tryz.underlying116
 a75 := Tryz.isAgg116
 z75 := Tryz.sizeOf116
 v75 := Tryz.zeroValue116
 t164 := Tryz.underlying155
 a164 := Tryz.isAgg155
 z164 := Tryz.sizeOf155
 v164 := Tryz.zeroValue155 }
theorem Tryz.Builder_Extra_B167 : Builder.Extra Tryz.prog Tryz.laysB167_ren := {
 sizeBuilder := by kernel_rfl
 liesBuilder := by kernel_rfl
 t5 := Tryz.underlying5
 a5 := Tryz.isAgg5
 z5 := Tryz.sizeOf5
 v5 := Tryz.zeroValue5
 infoByte := by kernel_rfl
 cellsByte := by kernel_rfl
 sizeByte := by kernel_rfl
 neB5 := by decide }
def Tryz.laysB166_ren : Go.Shelf.Ren := ⟨fun | 166 => 99 | 240 => 131 | 276 => 154  | n => n, fun | 0 => 0 | 3 => 3 | 4 => 4 | 5 => 5 | 9 => 9 | 20 => 20 | 37 => 55 | 70 => 112 | 72 => 114 | 75 => 116 | 80 => 125 | 164 => 155  | n => n, fun | n => n⟩
theorem Tryz.laysB166 : Go.Proofs.Lays.n166 Tryz.prog Tryz.laysB166_ren := {
 mixed := by kernel_rfl
 f166 := Tryz.func99.trans (congrArg some (by kernel_rfl))
 f240 := Tryz.func131.trans (congrArg some (by kernel_rfl))
 f276 := Tryz.func154.trans (congrArg some (by kernel_rfl))
 t0 := Tryz.underlying0
 a0 := Tryz.isAgg0
 z0 := Tryz.sizeOf0
 v0 := Tryz.zeroValue0
 t3 := Tryz.underlying3
 a3 := Tryz.isAgg3
 z3 := Tryz.sizeOf3
 v3 := Tryz.zeroValue3
 t4 := Tryz.underlying4
 a4 := Tryz.isAgg4
 z4 := Tryz.sizeOf4
 v4 := Tryz.zeroValue4
 t9 := Tryz.underlying9
 a9 := Tryz.isAgg9
 z9 := Tryz.sizeOf9
 v9 := Tryz.zeroValue9
 t20 := Tryz.underlying20
 a20 := Tryz.isAgg20
 z20 := Tryz.sizeOf20
 v20 := Tryz.zeroValue20
 t37 := Tryz.underlying55
 a37 := Tryz.isAgg55
 z37 := Tryz.sizeOf55
 v37 := Tryz.zeroValue55
 t70 := Tryz.underlying112
 a70 := Tryz.isAgg112
 z70 := Tryz.sizeOf112
 v70 := Tryz.zeroValue112
 t72 := Tryz.underlying114
 a72 := Tryz.isAgg114
 z72 := Tryz.sizeOf114
 v72 := Tryz.zeroValue114
 t75 := Tryz.underlying116
 a75 := Tryz.isAgg116
 z75 := Tryz.sizeOf116
 v75 := Tryz.zeroValue116
 t164 := Tryz.underlying155
 a164 := Tryz.isAgg155
 z164 := Tryz.sizeOf155
 v164 := Tryz.zeroValue155 }
theorem Tryz.Builder_Extra_B166 : Builder.Extra Tryz.prog Tryz.laysB166_ren := {
 sizeBuilder := by kernel_rfl
 liesBuilder := by kernel_rfl
 t5 := Tryz.underlying5
 a5 := Tryz.isAgg5
 z5 := Tryz.sizeOf5
 v5 := Tryz.zeroValue5
 infoByte := by kernel_rfl
 cellsByte := by kernel_rfl
 sizeByte := by kernel_rfl
 neB5 := by decide }
open Go.RowKit in
theorem Tryz.Builder_WriteByte_k (B b : Nat) (bs : List Value) (c : Int) (w : World) (h : Lib.IsBuilderF 114 5 B b bs w) (hlen : bs.length + 1 ≤ 140737488355328) (hBw : B ≤ w.heap.size) :
  Calls Tryz.prog 96 #[.pointer (some ⟨b, 0, none⟩), .int .u8 c] w fun e w' => e = .returned .nilIface ∧ (Lib.BuilderAtF 114 5 B b (.pointer (some ⟨b, 0, none⟩)) (bs ++ [.int .u8 c]) w' ∧ Below B w w' ∧ Lib.OthersKept 5 (some b) w w') := Any.Builder_WriteByte_k Tryz.laysB167 Tryz.Builder_Extra_B167 B b bs c w h hlen hBw
open Go.RowKit in
theorem Tryz.Builder_WriteString_k (B b : Nat) (bs : List Value) (s : ByteArray) (w : World) (h : Lib.IsBuilderF 114 5 B b bs w) (hlen : bs.length + s.size ≤ 140737488355328) (hBw : B ≤ w.heap.size) :
  Calls Tryz.prog 99 #[.pointer (some ⟨b, 0, none⟩), .string s] w fun e w' => e = .returned (.tuple #[.int .i64 s.size, .nilIface]) ∧ (Lib.BuilderAtF 114 5 B b (.pointer (some ⟨b, 0, none⟩)) (bs ++ Lib.strCells s) w' ∧ Below B w w' ∧ Lib.OthersKept 5 (some b) w w') := Any.Builder_WriteString_k Tryz.laysB166 Tryz.Builder_Extra_B166 B b bs s w h hlen hBw
end Go.Proofs
namespace Go.Proofs.YtinpcbjjnlpblaaGreatDoor
set_option linter.unusedVariables false
set_option linter.unusedSimpArgs false
open Go.RowKit Go.Shelf Go.Proofs.WWords
attribute [local go_sem] Oper.semAt_some
theorem tacc_snoc (neg : Bool) {zs : List Int} (pre : List (BkT zs)) (x : BkT zs) : tacc neg (pre ++ [x]) = tacc neg pre ++ tstep zs.length x.1.1 x.1.2 := by simp [tacc]
theorem repeatL_length (k : Nat) : (Lib.repeatL [48] k).length = k := by
 induction k with
 | zero => rfl
 | succ k ih => simp [Lib.repeatL, ih]
theorem txt_small {v : Int} (h0 : 0 ≤ v) (h1 : v < 1000000000) : (Sv.txt v).size ≤ 9 := by
 rw [Sv.txt_size, if_neg (by omega)]
 have := Sv.nd_le (n := v) (k := 9) (by decide) (by omega)
 omega
theorem txtL_size (v : Int) : (Sv.txtL v).length = (Sv.txt v).size := by simp [Sv.txt, ByteArray.size]
theorem tstep_length {n : Nat} {i v : Int} (h0 : 0 ≤ v) (h1 : v < 1000000000) : (tstep n i v).length ≤ 9 := by
 have := txt_small h0 h1
 have h2 := txtL_size v
 unfold tstep
 split
 ·rw [List.length_append, repeatL_length]; omega
 omega
theorem tacc_length (neg : Bool) {zs : List Int} (hz : Sv.Digs Sv.LB zs) (pre : List (BkT zs)) : (tacc neg pre).length ≤ 1 + 9 * pre.length := by
 have h : (pre.flatMap fun x => tstep zs.length x.1.1 x.1.2).length ≤ 9 * pre.length := by
  induction pre with
  | nil => simp
  | cons x t ih =>
   have hv := rd_range (by decide) hz x.1.1
   rw [← x.2.2.2] at hv
   have := tstep_length (n := zs.length) (i := x.1.1) hv.1 hv.2
   simp only [List.flatMap_cons, List.length_append, List.length_cons]
   omega
 unfold tacc
 rw [List.length_append]
 have h2 : (if neg then [45] else ([] : List UInt8)).length ≤ 1 := by cases neg <;> decide
 omega
theorem isBuilderF_own {β : Type} (B b : Nat) (bs : β → List Value) : Own (fun (s : β) W => Lib.IsBuilderF 114 5 B b (bs s) W) := fun s A W row h hg hr => by
  have k : ∀ p, Lib.BuilderAtF 114 5 B b p (bs s) A → Lib.BuilderAtF 114 5 B b p (bs s) W := by
    rintro p ⟨h1, v, h2, h3, h4⟩
    refine ⟨h1, v, (hg.block b (Array.getElem?_eq_some_iff.1 h2).1 (fun e => ?_)).trans h2, h3.kept hg ?_, h4⟩
    · obtain ⟨o, ho, hc⟩ := hr b e.symm
      rw [h2] at ho
      cases ho
      cases hc
    · cases hv : v.ownBlock with
      | none => exact .inl rfl
      | some g =>
        refine .inr (fun e => ?_)
        obtain ⟨c, fz, hcc⟩ := Lib.ownsRowF_kind h3 g hv
        obtain ⟨o, ho, hc⟩ := hr g e.symm
        rw [hcc] at ho
        cases ho
        cases hc
  exact h.elim (fun x => .inl (k _ x)) (fun x => .inr (k _ x))
theorem isBuilderF_below {B b : Nat} {bs : List Value} {W W' : World} (h : Lib.IsBuilderF 114 5 B b bs W) (hb : Below W.heap.size W W') : Lib.IsBuilderF 114 5 B b bs W' :=
  isBuilderF_own (β := Unit) B b (fun _ => bs) () W W' none h ⟨hb.os, hb.tape, hb.output, hb.size, fun j hj _ => hb.block j hj⟩ (fun r e => by cases e)
theorem blk_own {β : Type} (b : Nat) (cs : β → Array Value) (t : TypeId) : Own (fun (s : β) W => W.heap[b]? = some (.cells (cs s) t (0, 0))) := fun s A W row h hg hr => by
  refine (hg.block b (Array.getElem?_eq_some_iff.1 h).1 (fun e => ?_)).trans h
  obtain ⟨o, ho, hc⟩ := hr b e.symm
  rw [h] at ho
  cases ho
  cases hc
theorem own_and {β : Type} {I J : β → World → Prop} (h : Own I) (g : Own J) : Own (fun s W => I s W ∧ J s W) := fun s A W row x hg hr => ⟨h s A W row x.1 hg hr, g s A W row x.2 hg hr⟩
def TxI (s : Nat) (neg : Bool) (A0 : Option Addr) (c0 : Nat) {zs : List Int} (pre : List (BkT zs)) (W : World) : Prop :=
  Lib.IsBuilderF 114 5 s (s + 1) (Lib.byteCells (tacc neg pre)) W ∧ W.heap[s]? = some (.cells #[.bool neg, .slice A0 zs.length c0] 80 (0, 0))
theorem TxI.own (s : Nat) (neg : Bool) (A0 : Option Addr) (c0 : Nat) {zs : List Int} : Own (TxI s neg A0 c0 (zs := zs)) := fun pre A W row h hg hr =>
  ⟨isBuilderF_own s (s + 1) (fun (pre : List (BkT zs)) => Lib.byteCells (tacc neg pre)) pre A W row h.1 hg hr, blk_own s (fun (_ : List (BkT zs)) => #[.bool neg, .slice A0 zs.length c0]) 80 pre A W row h.2 hg hr⟩
theorem new_builder (w : World) (cs : Array Value) : Lib.IsBuilderF 114 5 w.heap.size (w.heap.size + 1) [] ((w.alloc (.cells cs 80)).alloc (.cells #[.pointer none, .slice none 0 0] 114)) := by
 refine .inl ⟨by omega, .slice none 0 0, ?_, World.ownsRowF_nil _ _ _ _, by simp [Value.ownBlock]⟩
 have := World.alloc_heap_new (w.alloc (.cells cs 80)) (.cells #[.pointer none, .slice none 0 0] 114)
 simpa using this
theorem others_of {b : Option Nat} {w w' : World} (h : Lib.OthersKept 5 b w w') (hs : w.heap.size ≤ w'.heap.size) (hb : ∀ k, b = some k → ∃ o, w.heap[k]? = some o ∧ o.isCells = true) : KeepsOthers w w' :=
  ⟨hs, fun k o ho hc => h k o ho (fun e => by obtain ⟨o', ho', hc'⟩ := hb k e.symm; rw [ho] at ho'; cases ho'; rw [hc] at hc'; cases hc') (fun c fz e => by rw [e] at hc; cases hc)⟩
theorem text_in (n : Nat) (hn : 3 ≤ n) (neg : Bool) (A0 : Option Addr) (c0 : Nat) (l0 : List Int) (w : World) (hL : LaidW w) (hr0 : Kd.C (Kd.int .i64) w A0 l0.length l0) (hz : Sv.Digs Sv.LB l0) (hlen : l0.length ≤ 1099511627776) (hne : 0 < l0.length) :
    CallsIn Fence.wide n Tryz.prog 56 #[.agg #[.bool neg, .slice A0 l0.length c0]] w fun e w' => e = .returned (.string ⟨(tacc neg (bk l0 l0.length)).toArray⟩) ∧ Below w.heap.size w w' := by
 have hf127 : Fence.wide.fn 96 := trivial
 have hf128 : Fence.wide.fn 97 := trivial
 have hf132 : Fence.wide.fn 101 := trivial
 have h1' : 1 ≤ n := by omega
 have hu88 := Tryz.underlying80
 have hz0 : ((l0.length : Int) == 0) = false := by rw [beq_eq_false_iff_ne]; omega
 have hz1 : ¬ (l0.length : Int) = 0 := by omega
 have hz2 : ¬ l0.length = 0 := by omega
 have hnb := new_builder w #[.bool neg, .slice A0 l0.length c0]
 have hx0 : ((w.alloc (.cells #[.bool neg, .slice A0 l0.length c0] 80)).alloc (.cells #[.pointer none, .slice none 0 0] 114)).heap[w.heap.size]? = some (.cells #[.bool neg, .slice A0 l0.length c0] 80 (0, 0)) := (Below.heap_alloc _ _ _ (by simp)).trans (World.alloc_heap_new w _)
 have hB0 : Below w.heap.size w ((w.alloc (.cells #[.bool neg, .slice A0 l0.length c0] 80)).alloc (.cells #[.pointer none, .slice none 0 0] 114)) := ((Below.refl _ w).alloc (Nat.le_refl _) _).alloc (by simp) _
 cases neg
 all_goals refine callsIn_of_wp_marks Tryz.func56 rfl trivial ?_ rfl
 all_goals simp only [Tryz.ntmps56, List.size_toArray, List.length_cons, List.length_nil, Nat.reduceAdd, Nat.reduceSub, Array.replicate_succ, Array.replicate_zero, List.push_toArray, List.append_toArray, List.nil_append, List.cons_append]
 all_goals gi_wp2_with (first
   | (gi_at_call 96; refine (callsIn_wide.2 (Tryz.Builder_WriteByte_k w.heap.size (w.heap.size + 1) [] 45 _ hnb (by simp) (by simp; omega))).mono ?_; rintro e w1 ⟨rfl, hb1, hB1, hok1⟩; have hx1 := hok1 _ _ hx0 (by simp) (by intro c fz e; cases e); have hxc1 := (blk_cell hx1 1).trans (show _ = some (Value.slice A0 l0.length c0) from rfl))
   | (gi_at_call 97; refine (back_in Fence.wide (n - 1) hf128 rfl _ _ _ _).mono ?_; rintro e w' ⟨rfl, rfl⟩)
   | gi_in)
 obtain ⟨W1, hW1⟩ : ∃ W1, (w.alloc (.cells #[.bool false, .slice A0 l0.length c0] 80)).alloc (.cells #[.pointer none, .slice none 0 0] 114) = W1 := ⟨_, rfl⟩
 rw [hW1] at hnb hx0 hB0
 have hsz1 : w.heap.size + 1 + 1 = W1.heap.size := by rw [← hW1]; simp
 have hbu : Lib.IsBuilderF 114 5 w.heap.size (w.heap.size + 1) (Lib.byteCells (tacc false ([] : List (BkT l0)))) W1 := hnb
 rw [hW1, hsz1]
 clear hW1
 rotate_left 1
 obtain ⟨W1, hW1⟩ : ∃ W1, w1 = W1 := ⟨_, rfl⟩
 have hbu : Lib.IsBuilderF 114 5 w.heap.size (w.heap.size + 1) (Lib.byteCells (tacc true ([] : List (BkT l0)))) W1 := by rw [← hW1]; exact .inr hb1
 have hB2 : Below w.heap.size w W1 := by rw [← hW1]; exact hB0.trans hB1
 rw [hW1] at hx1
 rw [hW1]
 clear hB0 hx0
 have hB0 := hB2
 have hx0 := hx1
 clear hB2 hx1 hW1
 rotate_left 1
 -- MAIN
 ·obtain ⟨s, hs⟩ : ∃ s, w.heap.size = s := ⟨_, rfl⟩
  rw [hs] at hbu hB0 hx0
  simp only [hs]
  obtain ⟨W0, hW0⟩ : ∃ W0, W1.alloc (.cells #[.slice A0 l0.length c0] 78) = W0 := ⟨_, rfl⟩
  have hbx : Boxed W0 W1.heap.size 78 (.slice A0 l0.length c0) := by rw [← hW0]; exact Boxed.new _ _ _
  have hBW : Below s w W0 := by rw [← hW0]; exact hB0.alloc (by have := hB0.size; omega) _
  have hI0 := isBuilderF_below hbu (show Below W1.heap.size W1 W0 by rw [← hW0]; exact (Below.refl _ _).alloc (Nat.le_refl _) _)
  have hxx := (show Below W1.heap.size W1 W0 by rw [← hW0]; exact (Below.refl _ _).alloc (Nat.le_refl _) _).block s (Array.getElem?_eq_some_iff.1 hx0).1 |>.trans hx0
  have hs1 : s + 2 ≤ W1.heap.size := by
   have hc : (Lib.IsBuilderF 114 5 s (s + 1) _ W1) := hbu
   rcases hc with h | h
   ·have := h.lt; omega
   have := h.lt; omega
  have hs0 : W1.heap.size < W0.heap.size := by rw [← hW0]; simp
  rw [hW0]
  clear hW0
  have hm0 := Kd.C_max hr0
  refine wpIn_rangeFunc_ownF rfl h1' (gf := 132) (lb := #[.pointer (some ⟨W1.heap.size, 0, none⟩)]) rfl trivial (enters_of Tryz.func132 (by kernel_rfl) rfl)
   (back_stops Fence.wide (n - 1) trivial rfl (by omega) W1.heap.size s A0 c0 l0 hm0 W0 hbx (by have := hBW.size; omega) (fun W' hb => Kd.C_below hr0 (by rw [hs]; exact hBW.trans hb))) kb_t (kb_b (by have := hBW.size; omega) hs0) (Below.refl _ _) (fun _ => rfl)
   (fun pre W => (TxI s false A0 c0 pre W ∧ W.heap[W1.heap.size]? = some (.cells #[.slice A0 l0.length c0] 78 (0, 0))) ∧ Below s w W) (fun c pre W => False)
   (OwnFrom.and (Own.from (own_and (TxI.own s false A0 c0) (blk_own W1.heap.size (fun _ => #[.slice A0 l0.length c0]) 78)) _) (ownFrom_below (by omega) (by have := hBW.size; omega)))
   (fun c s A B row hs hg hr => hs) ⟨⟨⟨hI0, hxx⟩, hbx⟩, hBW⟩
   ?act1 ?assign ?body ?done ?stop
  case assign =>
   intro l x W K hK
   simp only [enc2]
   gi_wp2
   exact hK
  case body =>
   rintro l pre x W ⟨⟨⟨hbu, hx⟩, hbW⟩, hB⟩ hpl
   have hv := rd_range (by decide) hz x.1.1
   rw [← x.2.2.2] at hv
   have hsn := tacc_snoc false pre x
   have htl := tacc_length false hz pre
   try simp only [enc2]
   obtain ⟨i, hxi⟩ : ∃ i, x.1.1 = i := ⟨_, rfl⟩
   obtain ⟨v, hxv⟩ : ∃ v, x.1.2 = v := ⟨_, rfl⟩
   simp only [hxi, hxv] at hv hsn ⊢
   clear hxi hxv
   have hv1 : v < 1000000000 := hv.2
   have hv0 := hv.1
   have hts := txt_small hv0 hv1
   have hxc := (blk_cell hx 1).trans (show _ = some (Value.slice A0 l0.length c0) from rfl)
   have hd2 : 1 ≤ n - 1 - 1 := by omega
   have hf129 : Fence.wide.fn 98 := trivial
   have hf130 : Fence.wide.fn 99 := trivial
   have hf131 : Fence.wide.fn 100 := trivial
   have hLW : LaidW W := hL.below (by rw [hs]; exact hB)
   have hbl : (Lib.byteCells (tacc false pre)).length ≤ 1 + 9 * pre.length := by simp only [Lib.byteCells, List.length_map]; exact htl
   have hcz : (9 : Int) - ((Sv.txt v).size : Int) = ((9 - (Sv.txt v).size : Nat) : Int) := by omega
   have hrs : (⟨(Lib.repeatL [48] (9 - (Sv.txt v).size)).toArray⟩ : ByteArray).size = 9 - (Sv.txt v).size := by
    show (Lib.repeatL [48] (9 - (Sv.txt v).size)).toArray.size = _
    rw [List.size_toArray, repeatL_length]
   have hit : Lib.strCells (Sv.txt v) = Lib.byteCells (Sv.txtL v) := rfl
   have hir : Lib.strCells (⟨(Lib.repeatL [48] (9 - (Sv.txt v).size)).toArray⟩ : ByteArray) = Lib.byteCells (Lib.repeatL [48] (9 - (Sv.txt v).size)) := rfl
   have hBs := hB.size
   have hws : w.heap.size ≤ W.heap.size := hBs
   have hBW2 : s ≤ W.heap.size := by omega
   by_cases hi : i < (l0.length : Int) - 1
   ·have hsn2 : tacc false (pre ++ [x]) = tacc false pre ++ (Lib.repeatL [48] (9 - (Sv.txt v).size) ++ Sv.txtL v) := by rw [hsn, tstep, if_pos hi]
    have HS := Lib.hid hsn2
    clear hsn hsn2 hv
    have hi2 : decide (i < (l0.length : Int) - 1) = true := decide_eq_true hi
    gi_wp2_with (first
      | (gi_at_call 98; refine (CallsIn.inRound l (callsIn_wide.2 (strconv_Itoa.calls v (Sv.txt v) W hLW (if_pos ⟨by omega, by omega⟩)))).mono ?_; rintro e wa ⟨rfl, hba⟩
         have hbua := isBuilderF_below hbu hba
         have hxa := (hba.block s (Array.getElem?_eq_some_iff.1 hx).1).trans hx
         have hxca := (blk_cell hxa 1).trans (show _ = some (Value.slice A0 l0.length c0) from rfl))
      | (gi_at_call 100; refine (CallsIn.inRound l (callsIn_wide.2 (Tryz.strings_Repeat (⟨#[48]⟩ : ByteArray) (9 - (Sv.txt v).size) wa (by omega) (by show 1 * _ ≤ _; omega)))).mono ?_; rintro e wb ⟨rfl, hbb⟩
         have hbub := isBuilderF_below hbua hbb
         have hxb := (hbb.block s (Array.getElem?_eq_some_iff.1 hxa).1).trans hxa
         have hszb : s ≤ wb.heap.size := by have h1 := hba.size; have h2 := hbb.size; omega)
      | (gi_at_call 99; refine (CallsIn.inRound l (callsIn_wide.2 (Tryz.Builder_WriteString_k s (s + 1) _ (Sv.txt v) wc (.inr hbuc) (by simp only [List.length_append, hir]; simp only [Lib.byteCells, List.length_map, repeatL_length] at hbl ⊢; omega) hszc))).mono ?_; rintro e wd ⟨rfl, hbud, hBd, hokd⟩
         have hxd := hokd _ _ hxc2 (by simp) (by intro c fz e; cases e))
      | (gi_at_call 99; refine (CallsIn.inRound l (callsIn_wide.2 (Tryz.Builder_WriteString_k s (s + 1) _ (⟨(Lib.repeatL [48] (9 - (Sv.txt v).size)).toArray⟩ : ByteArray) wb hbub (by rw [hrs]; omega) hszb))).mono ?_; rintro e wc ⟨rfl, hbuc, hBc, hokc⟩
         have hxc2 := hokc _ _ hxb (by simp) (by intro c fz e; cases e)
         have hszc : s ≤ wc.heap.size := by have h1 := hBc.size; omega)
      | gi_in)
    have hbS : ∀ (a b : World), Below a.heap.size a b → KeepsOthers a b := fun a b h => ⟨h.size, fun k o ho hc => (h.block k (Array.getElem?_eq_some_iff.1 ho).1).trans ho⟩
    have hbc1 : ∀ (W : World) (bs : List Value), Lib.IsBuilderF 114 5 s (s + 1) bs W → ∀ k, some (s + 1) = some k → ∃ o, W.heap[k]? = some o ∧ o.isCells = true := fun W bs h k e => by
     cases e
     rcases h with ⟨_, v, h2, _⟩ | ⟨_, v, h2, _⟩ <;> exact ⟨_, h2, rfl⟩
    have hbWl := (Array.getElem?_eq_some_iff.1 hbW).1
    have hkw : wd.heap[W1.heap.size]? = W.heap[W1.heap.size]? :=
     (hokd _ _ (hokc _ _ ((hbb.block _ (Nat.lt_of_lt_of_le hbWl hba.size)).trans ((hba.block _ hbWl).trans hbW)) (by simp; omega) (by intro c fz e; cases e)) (by simp; omega) (by intro c fz e; cases e)).trans hbW.symm
    have hBe : Below s W wd := ((hba.mono hBW2).trans (hbb.mono (by have := hba.size; omega))).trans (hBc.trans hBd)
    refine ⟨((hbS _ _ hba).trans (hbS _ _ hbb)).trans ((others_of hokc hBc.size (hbc1 _ _ hbub)).trans (others_of hokd hBd.size (hbc1 _ _ (.inr hbuc)))), ⟨hBe, fun _ => hkw⟩, ⟨⟨?_, hxd⟩, hkw.trans hbW⟩, hB.trans hBe⟩
    rw [HS.out]
    have := hbud
    rw [hit, hir, List.append_assoc] at this
    exact .inr (by simpa [Lib.byteCells] using this)
   have hsn2 : tacc false (pre ++ [x]) = tacc false pre ++ Sv.txtL v := by rw [hsn, tstep, if_neg hi]
   have HS := Lib.hid hsn2
   clear hsn hsn2 hv
   have hi2 : decide (i < (l0.length : Int) - 1) = false := decide_eq_false hi
   gi_wp2_with (first
     | (gi_at_call 98; refine (CallsIn.inRound l (callsIn_wide.2 (strconv_Itoa.calls v (Sv.txt v) W hLW (if_pos ⟨by omega, by omega⟩)))).mono ?_; rintro e wa ⟨rfl, hba⟩
        have hbua := isBuilderF_below hbu hba
        have hxa := (hba.block s (Array.getElem?_eq_some_iff.1 hx).1).trans hx
        have hxca := (blk_cell hxa 1).trans (show _ = some (Value.slice A0 l0.length c0) from rfl)
        have hsza : s ≤ wa.heap.size := by have h1 := hba.size; omega)
     | (gi_at_call 99; refine (CallsIn.inRound l (callsIn_wide.2 (Tryz.Builder_WriteString_k s (s + 1) _ (Sv.txt v) wa hbua (by omega) hsza))).mono ?_; rintro e wd ⟨rfl, hbud, hBd, hokd⟩
        have hxd := hokd _ _ hxa (by simp) (by intro c fz e; cases e))
     | gi_in)
   have hbS : ∀ (a b : World), Below a.heap.size a b → KeepsOthers a b := fun a b h => ⟨h.size, fun k o ho hc => (h.block k (Array.getElem?_eq_some_iff.1 ho).1).trans ho⟩
   have hbc1 : ∀ (W : World) (bs : List Value), Lib.IsBuilderF 114 5 s (s + 1) bs W → ∀ k, some (s + 1) = some k → ∃ o, W.heap[k]? = some o ∧ o.isCells = true := fun W bs h k e => by
    cases e
    rcases h with ⟨_, v, h2, _⟩ | ⟨_, v, h2, _⟩ <;> exact ⟨_, h2, rfl⟩
   have hbWl := (Array.getElem?_eq_some_iff.1 hbW).1
   have hkw : wd.heap[W1.heap.size]? = W.heap[W1.heap.size]? :=
    (hokd _ _ ((hba.block _ hbWl).trans hbW) (by simp; omega) (by intro c fz e; cases e)).trans hbW.symm
   have hBe : Below s W wd := (hba.mono hBW2).trans hBd
   refine ⟨(hbS _ _ hba).trans (others_of hokd hBd.size (hbc1 _ _ hbua)), ⟨hBe, fun _ => hkw⟩, ⟨⟨?_, hxd⟩, hkw.trans hbW⟩, hB.trans hBe⟩
   rw [HS.out]
   have := hbud
   rw [hit] at this
   exact .inr (by simpa [Lib.byteCells] using this)
  case done =>
   rintro D ys W hD rfl ⟨⟨⟨hbu, hx⟩, hbW⟩, hB⟩ hK
   have hf132 : Fence.wide.fn 101 := trivial
   have hBW2 : s ≤ W.heap.size := by have := hB.size; omega
   gi_wp2_with (first
     | (gi_at_call 101; refine (callsIn_wide.2 (Tryz.Builder_String_any_k s (s + 1) (tacc false (bk l0 l0.length)) W hbu hBW2)).mono ?_; rintro e wz ⟨rfl, hbz, hBz, hokz⟩)
     | gi_in)
   have hDs : D ≠ s + 1 := by
    intro e
    subst e
    rcases hbu with ⟨_, v, h2, _⟩ | ⟨_, v, h2, _⟩ <;> (rw [h2] at hK; cases hK)
   have hKz := hokz _ _ hK (by simp; omega) (by intro c fz e; cases e)
   have hDw : w.heap.size ≤ D := by omega
   refine ⟨by simp, .inl ⟨_, _, rfl, run_takeDeferred hKz, ?_⟩⟩
   exact ⟨.string ⟨(tacc false (bk l0 l0.length)).toArray⟩, by simp [results, Tryz.f56, go_sem], rfl, (show Below w.heap.size w wz by rw [hs]; exact hB.trans hBz).trans (belowK_b (w := w) (Nat.le_refl _) wz D _ _ (by omega) hKz rfl rfl)⟩
  case stop =>
   rintro D c pre W hD hp hf hK
   exact hf.elim
 obtain ⟨s, hs⟩ : ∃ s, w.heap.size = s := ⟨_, rfl⟩
 rw [hs] at hbu hB0 hx0
 simp only [hs]
 obtain ⟨W0, hW0⟩ : ∃ W0, W1.alloc (.cells #[.slice A0 l0.length c0] 78) = W0 := ⟨_, rfl⟩
 have hbx : Boxed W0 W1.heap.size 78 (.slice A0 l0.length c0) := by rw [← hW0]; exact Boxed.new _ _ _
 have hBW : Below s w W0 := by rw [← hW0]; exact hB0.alloc (by have := hB0.size; omega) _
 have hI0 := isBuilderF_below hbu (show Below W1.heap.size W1 W0 by rw [← hW0]; exact (Below.refl _ _).alloc (Nat.le_refl _) _)
 have hxx := (show Below W1.heap.size W1 W0 by rw [← hW0]; exact (Below.refl _ _).alloc (Nat.le_refl _) _).block s (Array.getElem?_eq_some_iff.1 hx0).1 |>.trans hx0
 have hs1 : s + 2 ≤ W1.heap.size := by
  have hc : (Lib.IsBuilderF 114 5 s (s + 1) _ W1) := hbu
  rcases hc with h | h
  ·have := h.lt; omega
  have := h.lt; omega
 have hs0 : W1.heap.size < W0.heap.size := by rw [← hW0]; simp
 rw [hW0]
 clear hW0
 have hm0 := Kd.C_max hr0
 refine wpIn_rangeFunc_ownF rfl h1' (gf := 132) (lb := #[.pointer (some ⟨W1.heap.size, 0, none⟩)]) rfl trivial (enters_of Tryz.func132 (by kernel_rfl) rfl)
  (back_stops Fence.wide (n - 1) trivial rfl (by omega) W1.heap.size s A0 c0 l0 hm0 W0 hbx (by have := hBW.size; omega) (fun W' hb => Kd.C_below hr0 (by rw [hs]; exact hBW.trans hb))) kb_t (kb_b (by have := hBW.size; omega) hs0) (Below.refl _ _) (fun _ => rfl)
  (fun pre W => (TxI s true A0 c0 pre W ∧ W.heap[W1.heap.size]? = some (.cells #[.slice A0 l0.length c0] 78 (0, 0))) ∧ Below s w W) (fun c pre W => False)
  (OwnFrom.and (Own.from (own_and (TxI.own s true A0 c0) (blk_own W1.heap.size (fun _ => #[.slice A0 l0.length c0]) 78)) _) (ownFrom_below (by omega) (by have := hBW.size; omega)))
  (fun c s A B row hs hg hr => hs) ⟨⟨⟨hI0, hxx⟩, hbx⟩, hBW⟩
  ?act1T ?assignT ?bodyT ?doneT ?stopT
 case assignT =>
  intro l x W K hK
  simp only [enc2]
  gi_wp2
  exact hK
 case bodyT =>
  rintro l pre x W ⟨⟨⟨hbu, hx⟩, hbW⟩, hB⟩ hpl
  have hv := rd_range (by decide) hz x.1.1
  rw [← x.2.2.2] at hv
  have hsn := tacc_snoc true pre x
  have htl := tacc_length true hz pre
  try simp only [enc2]
  obtain ⟨i, hxi⟩ : ∃ i, x.1.1 = i := ⟨_, rfl⟩
  obtain ⟨v, hxv⟩ : ∃ v, x.1.2 = v := ⟨_, rfl⟩
  simp only [hxi, hxv] at hv hsn ⊢
  clear hxi hxv
  have hv1 : v < 1000000000 := hv.2
  have hv0 := hv.1
  have hts := txt_small hv0 hv1
  have hxc := (blk_cell hx 1).trans (show _ = some (Value.slice A0 l0.length c0) from rfl)
  have hd2 : 1 ≤ n - 1 - 1 := by omega
  have hf129 : Fence.wide.fn 98 := trivial
  have hf130 : Fence.wide.fn 99 := trivial
  have hf131 : Fence.wide.fn 100 := trivial
  have hLW : LaidW W := hL.below (by rw [hs]; exact hB)
  have hbl : (Lib.byteCells (tacc true pre)).length ≤ 1 + 9 * pre.length := by simp only [Lib.byteCells, List.length_map]; exact htl
  have hcz : (9 : Int) - ((Sv.txt v).size : Int) = ((9 - (Sv.txt v).size : Nat) : Int) := by omega
  have hrs : (⟨(Lib.repeatL [48] (9 - (Sv.txt v).size)).toArray⟩ : ByteArray).size = 9 - (Sv.txt v).size := by
   show (Lib.repeatL [48] (9 - (Sv.txt v).size)).toArray.size = _
   rw [List.size_toArray, repeatL_length]
  have hit : Lib.strCells (Sv.txt v) = Lib.byteCells (Sv.txtL v) := rfl
  have hir : Lib.strCells (⟨(Lib.repeatL [48] (9 - (Sv.txt v).size)).toArray⟩ : ByteArray) = Lib.byteCells (Lib.repeatL [48] (9 - (Sv.txt v).size)) := rfl
  have hBs := hB.size
  have hws : w.heap.size ≤ W.heap.size := hBs
  have hBW2 : s ≤ W.heap.size := by omega
  by_cases hi : i < (l0.length : Int) - 1
  ·have hsn2 : tacc true (pre ++ [x]) = tacc true pre ++ (Lib.repeatL [48] (9 - (Sv.txt v).size) ++ Sv.txtL v) := by rw [hsn, tstep, if_pos hi]
   have HS := Lib.hid hsn2
   clear hsn hsn2 hv
   have hi2 : decide (i < (l0.length : Int) - 1) = true := decide_eq_true hi
   gi_wp2_with (first
     | (gi_at_call 98; refine (CallsIn.inRound l (callsIn_wide.2 (strconv_Itoa.calls v (Sv.txt v) W hLW (if_pos ⟨by omega, by omega⟩)))).mono ?_; rintro e wa ⟨rfl, hba⟩
        have hbua := isBuilderF_below hbu hba
        have hxa := (hba.block s (Array.getElem?_eq_some_iff.1 hx).1).trans hx
        have hxca := (blk_cell hxa 1).trans (show _ = some (Value.slice A0 l0.length c0) from rfl))
     | (gi_at_call 100; refine (CallsIn.inRound l (callsIn_wide.2 (Tryz.strings_Repeat (⟨#[48]⟩ : ByteArray) (9 - (Sv.txt v).size) wa (by omega) (by show 1 * _ ≤ _; omega)))).mono ?_; rintro e wb ⟨rfl, hbb⟩
        have hbub := isBuilderF_below hbua hbb
        have hxb := (hbb.block s (Array.getElem?_eq_some_iff.1 hxa).1).trans hxa
        have hszb : s ≤ wb.heap.size := by have h1 := hba.size; have h2 := hbb.size; omega)
     | (gi_at_call 99; refine (CallsIn.inRound l (callsIn_wide.2 (Tryz.Builder_WriteString_k s (s + 1) _ (Sv.txt v) wc (.inr hbuc) (by simp only [List.length_append, hir]; simp only [Lib.byteCells, List.length_map, repeatL_length] at hbl ⊢; omega) hszc))).mono ?_; rintro e wd ⟨rfl, hbud, hBd, hokd⟩
        have hxd := hokd _ _ hxc2 (by simp) (by intro c fz e; cases e))
     | (gi_at_call 99; refine (CallsIn.inRound l (callsIn_wide.2 (Tryz.Builder_WriteString_k s (s + 1) _ (⟨(Lib.repeatL [48] (9 - (Sv.txt v).size)).toArray⟩ : ByteArray) wb hbub (by rw [hrs]; omega) hszb))).mono ?_; rintro e wc ⟨rfl, hbuc, hBc, hokc⟩
        have hxc2 := hokc _ _ hxb (by simp) (by intro c fz e; cases e)
        have hszc : s ≤ wc.heap.size := by have h1 := hBc.size; omega)
     | gi_in)
   have hbS : ∀ (a b : World), Below a.heap.size a b → KeepsOthers a b := fun a b h => ⟨h.size, fun k o ho hc => (h.block k (Array.getElem?_eq_some_iff.1 ho).1).trans ho⟩
   have hbc1 : ∀ (W : World) (bs : List Value), Lib.IsBuilderF 114 5 s (s + 1) bs W → ∀ k, some (s + 1) = some k → ∃ o, W.heap[k]? = some o ∧ o.isCells = true := fun W bs h k e => by
    cases e
    rcases h with ⟨_, v, h2, _⟩ | ⟨_, v, h2, _⟩ <;> exact ⟨_, h2, rfl⟩
   have hbWl := (Array.getElem?_eq_some_iff.1 hbW).1
   have hkw : wd.heap[W1.heap.size]? = W.heap[W1.heap.size]? :=
    (hokd _ _ (hokc _ _ ((hbb.block _ (Nat.lt_of_lt_of_le hbWl hba.size)).trans ((hba.block _ hbWl).trans hbW)) (by simp; omega) (by intro c fz e; cases e)) (by simp; omega) (by intro c fz e; cases e)).trans hbW.symm
   have hBe : Below s W wd := ((hba.mono hBW2).trans (hbb.mono (by have := hba.size; omega))).trans (hBc.trans hBd)
   refine ⟨((hbS _ _ hba).trans (hbS _ _ hbb)).trans ((others_of hokc hBc.size (hbc1 _ _ hbub)).trans (others_of hokd hBd.size (hbc1 _ _ (.inr hbuc)))), ⟨hBe, fun _ => hkw⟩, ⟨⟨?_, hxd⟩, hkw.trans hbW⟩, hB.trans hBe⟩
   rw [HS.out]
   have := hbud
   rw [hit, hir, List.append_assoc] at this
   exact .inr (by simpa [Lib.byteCells] using this)
  have hsn2 : tacc true (pre ++ [x]) = tacc true pre ++ Sv.txtL v := by rw [hsn, tstep, if_neg hi]
  have HS := Lib.hid hsn2
  clear hsn hsn2 hv
  have hi2 : decide (i < (l0.length : Int) - 1) = false := decide_eq_false hi
  gi_wp2_with (first
    | (gi_at_call 98; refine (CallsIn.inRound l (callsIn_wide.2 (strconv_Itoa.calls v (Sv.txt v) W hLW (if_pos ⟨by omega, by omega⟩)))).mono ?_; rintro e wa ⟨rfl, hba⟩
       have hbua := isBuilderF_below hbu hba
       have hxa := (hba.block s (Array.getElem?_eq_some_iff.1 hx).1).trans hx
       have hxca := (blk_cell hxa 1).trans (show _ = some (Value.slice A0 l0.length c0) from rfl)
       have hsza : s ≤ wa.heap.size := by have h1 := hba.size; omega)
    | (gi_at_call 99; refine (CallsIn.inRound l (callsIn_wide.2 (Tryz.Builder_WriteString_k s (s + 1) _ (Sv.txt v) wa hbua (by omega) hsza))).mono ?_; rintro e wd ⟨rfl, hbud, hBd, hokd⟩
       have hxd := hokd _ _ hxa (by simp) (by intro c fz e; cases e))
    | gi_in)
  have hbS : ∀ (a b : World), Below a.heap.size a b → KeepsOthers a b := fun a b h => ⟨h.size, fun k o ho hc => (h.block k (Array.getElem?_eq_some_iff.1 ho).1).trans ho⟩
  have hbc1 : ∀ (W : World) (bs : List Value), Lib.IsBuilderF 114 5 s (s + 1) bs W → ∀ k, some (s + 1) = some k → ∃ o, W.heap[k]? = some o ∧ o.isCells = true := fun W bs h k e => by
   cases e
   rcases h with ⟨_, v, h2, _⟩ | ⟨_, v, h2, _⟩ <;> exact ⟨_, h2, rfl⟩
  have hbWl := (Array.getElem?_eq_some_iff.1 hbW).1
  have hkw : wd.heap[W1.heap.size]? = W.heap[W1.heap.size]? :=
   (hokd _ _ ((hba.block _ hbWl).trans hbW) (by simp; omega) (by intro c fz e; cases e)).trans hbW.symm
  have hBe : Below s W wd := (hba.mono hBW2).trans hBd
  refine ⟨(hbS _ _ hba).trans (others_of hokd hBd.size (hbc1 _ _ hbua)), ⟨hBe, fun _ => hkw⟩, ⟨⟨?_, hxd⟩, hkw.trans hbW⟩, hB.trans hBe⟩
  rw [HS.out]
  have := hbud
  rw [hit] at this
  exact .inr (by simpa [Lib.byteCells] using this)
 case doneT =>
  rintro D ys W hD rfl ⟨⟨⟨hbu, hx⟩, hbW⟩, hB⟩ hK
  have hf132 : Fence.wide.fn 101 := trivial
  have hBW2 : s ≤ W.heap.size := by have := hB.size; omega
  gi_wp2_with (first
    | (gi_at_call 101; refine (callsIn_wide.2 (Tryz.Builder_String_any_k s (s + 1) (tacc true (bk l0 l0.length)) W hbu hBW2)).mono ?_; rintro e wz ⟨rfl, hbz, hBz, hokz⟩)
    | gi_in)
  have hDs : D ≠ s + 1 := by
   intro e
   subst e
   rcases hbu with ⟨_, v, h2, _⟩ | ⟨_, v, h2, _⟩ <;> (rw [h2] at hK; cases hK)
  have hKz := hokz _ _ hK (by simp; omega) (by intro c fz e; cases e)
  have hDw : w.heap.size ≤ D := by omega
  refine ⟨by simp, .inl ⟨_, _, rfl, run_takeDeferred hKz, ?_⟩⟩
  exact ⟨.string ⟨(tacc true (bk l0 l0.length)).toArray⟩, by simp [results, Tryz.f56, go_sem], rfl, (show Below w.heap.size w wz by rw [hs]; exact hB.trans hBz).trans (belowK_b (w := w) (Nat.le_refl _) wz D _ _ (by omega) hKz rfl rfl)⟩
 case stopT =>
  rintro D c pre W hD hp hf hK
  exact hf.elim
theorem bInumber_text.calls (a0_0 : Bool) (A0_1 : Option Addr) (c0_1 : Nat) (l0_1 : List Int) (r : ByteArray) (w : World) (hL : LaidW w) (hr0_1 : Kd.C (Kd.int .i64) w A0_1 l0_1.length l0_1) (hc0_1 : l0_1.length ≤ c0_1) (h : bInumber_text.f a0_0 l0_1 = some r) :
    Calls Tryz.prog 56 #[.agg #[.bool a0_0, .slice A0_1 l0_1.length c0_1]] w fun e w' => e = .returned (.string r) ∧ Below w.heap.size w w' := by
 unfold bInumber_text.f at h
 split at h
 ·rename_i hc
  simp only [Option.some.injEq] at h
  subst h
  by_cases hl : l0_1 = []
  ·subst hl
   rw [if_pos rfl]
   go_enter Tryz.func56, Tryz.ntmps56
   go_wp2
   refine ⟨by simp, ?_⟩
   exact ⟨.string ⟨#[48]⟩, by simp [results, Tryz.f56, go_sem], rfl, (Below.refl _ w).alloc (Nat.le_refl _) _⟩
  rw [if_neg hl]
  exact callsIn_wide.1 (text_in 3 (by omega) a0_0 A0_1 c0_1 l0_1 w hL hr0_1 hc.1 hc.2 (List.length_pos_iff.2 hl))
 cases h
end Go.Proofs.YtinpcbjjnlpblaaGreatDoor
namespace Go.Proofs.YtinpcbjjnlpblaaGreatDoor.PA
set_option linter.unusedVariables false
open Go.RowKit Go.Proofs.WWords Go.Proofs.WLast Go.Proofs.WMore
attribute [local go_sem] max2_int min2_int max_two min_two max_three min_three max_four min_four
set_option linter.unusedSimpArgs false
theorem bIwritten.calls (a0_0 : Bool) (A0_1 : Option Addr) (c0_1 : Nat) (l0_1 : List Int) (r1 : ByteArray) (r2 : Int) (w : World) (hL : LaidW w) (hr0_1 : Kd.C (Kd.int .i64) w A0_1 l0_1.length l0_1) (hc0_1 : l0_1.length ≤ c0_1) (h : bIwritten.f a0_0 l0_1 = some (r1, r2)) :
  Calls Tryz.prog 64 #[.agg #[.bool a0_0, .slice A0_1 l0_1.length c0_1]] w fun e w' => e = .returned (.tuple #[.string r1, .int .i64 r2]) ∧ Below w.heap.size w w' := by
 have hu88 := Tryz.underlying80
 have HR0_1 := Z0.mk hr0_1
 have HC0_1 := Z0.mk hc0_1
 clear hr0_1 hc0_1
 have HB := Z0.mk (Below.refl w.heap.size w)
 have H := h
 clear h
 unfold bIwritten.f at H
 obtain ⟨t296, A2, H⟩ := bnd H
 rcases jg H with ⟨-, c3b0, H⟩ | ⟨-, c3b0, H⟩
 ·simp only [Option.some.injEq, Prod.mk.injEq] at H
  obtain ⟨rfl, rfl⟩ := H
  go_enter Tryz.func64, Tryz.ntmps64
  go_wp2_with (first | ((with_reducible refine gd_ 1 rfl ?_); refine bxE 1 #[.bool a0_0, .slice A0_1 l0_1.length c0_1] 80 ?_; intro gb295 hg w4 hbox hb; have BK295 := Z0.mk hbox; have GW295 := fE HB hg; have GE295 := fE HB hg; replace HB := fB HB hb; clear hb hbox hg; obtain ⟨hcz5_0, hcz5_1, hfz5_0, hfz5_1⟩ := b2 BK295) | ((with_reducible refine gc_ 109 rfl ?_); refine gL 5 Tryz.func109 (bInumber_size.calls a0_0 _ _ l0_1 t296 _ ?side3 ?side1 ?side2 A2.out) ?_; (case side1 => exact cq (Kd.C_below HR0_1.out HB.out)); (case side2 => exact HC0_1.out); (case side3 => exact LaidW.below hL bqs); rintro _ w6 ⟨rfl, hb⟩; refine ⟨_, rfl, ?_⟩; replace BK295 := fk BK295 hb; replace HB := fB HB hb; clear hb))
  go_ret2
  exact finE
 obtain ⟨t297, A7, H⟩ := bnd H
 simp only [Option.some.injEq, Prod.mk.injEq] at H
 obtain ⟨rfl, rfl⟩ := H
 go_enter Tryz.func64, Tryz.ntmps64
 go_wp2_with (first | ((with_reducible refine gd_ 1 rfl ?_); refine bxE 1 #[.bool a0_0, .slice A0_1 l0_1.length c0_1] 80 ?_; intro gb295 hg w8 hbox hb; have BK295 := Z0.mk hbox; have GW295 := fE HB hg; have GE295 := fE HB hg; replace HB := fB HB hb; clear hb hbox hg; obtain ⟨hcz9_0, hcz9_1, hfz9_0, hfz9_1⟩ := b2 BK295) | ((with_reducible refine gc_ 109 rfl ?_); refine gL 5 Tryz.func109 (bInumber_size.calls a0_0 _ _ l0_1 t296 _ ?side3 ?side1 ?side2 A2.out) ?_; (case side1 => exact cq (Kd.C_below HR0_1.out HB.out)); (case side2 => exact HC0_1.out); (case side3 => exact LaidW.below hL bqs); rintro _ w10 ⟨rfl, hb⟩; refine ⟨_, rfl, ?_⟩; replace BK295 := fk BK295 hb; replace HB := fB HB hb; clear hb; obtain ⟨hcz11_0, hcz11_1, hfz11_0, hfz11_1⟩ := b2 BK295) | ((with_reducible refine gc_ 56 rfl ?_); refine gL 8 Tryz.func56 (bInumber_text.calls a0_0 _ _ l0_1 t297 _ ?side3 ?side1 ?side2 A7.out) ?_; (case side1 => exact cq (Kd.C_below HR0_1.out HB.out)); (case side2 => exact HC0_1.out); (case side3 => exact LaidW.below hL bqs); rintro _ w12 ⟨rfl, hb⟩; refine ⟨_, rfl, ?_⟩; replace BK295 := fk BK295 hb; replace HB := fB HB hb; clear hb))
 go_ret2
 exact finE
theorem bItimes.calls (k : Nat) (A0 : Option Addr) (c0 : Nat) (l0 : List Int) (A1 : Option Addr) (c1 : Nat) (l1 : List Int) (r : List Int) (w : World) (hr0 : Kd.C (Kd.int .i64) w A0 l0.length l0) (hc0 : l0.length ≤ c0) (hr1 : Kd.C (Kd.int .i64) w A1 l1.length l1) (hc1 : l1.length ≤ c1) (h : bItimes.f k l0 l1 = some r) :
  Calls Tryz.prog 65 #[.slice A0 l0.length c0, .slice A1 l1.length c1] w fun e w' => ∃ v0_ : Value, e = .returned (v0_) ∧ Kd.R (Kd.int .i64) 3 w' w.heap.size (fun _ => True) v0_ r ∧ Below w.heap.size w w' := by
 have HR0 := Z0.mk hr0
 have HC0 := Z0.mk hc0
 clear hr0 hc0
 have HR1 := Z0.mk hr1
 have HC1 := Z0.mk hc1
 clear hr1 hc1
 have HB := Z0.mk (Below.refl w.heap.size w)
 have H := h
 clear h
 unfold bItimes.f at H
 obtain ⟨ji3, hji3⟩ : ∃ j_ : Int, (wrap64 ((l0.length : Int) + (l1.length : Int))) = j_ := ⟨_, rfl⟩
 replace H : (if 0 ≤ (ji3) then (if (ji3 : Int).toNat ≤ 35184372088832 then (bItimes.l0 k l1 (List.replicate (ji3 : Int).toNat 0) l0 (l0.length : Int) 0) else (none)) else (none)) = some r := by first | (rw [hji3] at H; exact H) | (simp only [hji3] at H ⊢; exact H)
 have hji3w : (IntKind.i64.wrap ((l0.length : Int) + (l1.length : Int))) = ji3 := (i64_w _).trans hji3
 obtain ⟨-, c4b0, c4b1, H⟩ := gt H
 obtain ⟨-, c5b0, c5b1, H⟩ := gt H
 generalize hy115 : (List.replicate (ji3 : Int).toNat 0 : List Int) = y115 at H
 have Ny115 := Z0.mk hy115.symm
 clear hy115
 have H' := Z0.mk H
 clear H
 go_enter Tryz.func65, Tryz.ntmps65
 go_wp2_with (first | ((with_reducible refine gd_ 16 rfl ?_); refine Kd.R_make (Kd.int .i64) _ 3 rfl (N := 16) rfl 78 _ _ rfl ji3 rfl rfl Tryz.underlying78 (.int .i64 0) 8 info3 rfl (by decide) (by omega) 0 (ok := fun _ => True) (okp := fun _ => True) rfl (fun _ hk => hk) trivial od (Nat.le_trans (Nat.mul_le_mul_right _ (od : ji3.toNat ≤ 35184372088832)) (by omega)) (Below.refl _ _) (Nat.le_refl _) ?_; intro v116 w6 ho7 hb hg_ hnew_; clear hg_ hnew_; (first | rw [← Ny115.out] at ho7 | (simp only [Int.reduceToNat] at ho7; rw [← Ny115.out] at ho7)); have HO117 := Z0.mk (Kd.R_lower ho7 (below_size bqs)); replace HB := fB HB hb; clear hb ho7))
 go_loopg [19] k (fun kq v19 w' => ∃ (x5_1 : List Int) (x19_1 : Int), v19 = .int .i64 x19_1 ∧ Z0 (bItimes.l0 kq l1 x5_1 l0 (l0.length : Int) x19_1 = some r) ∧ Z0 (kq ≤ k) ∧ Z0 (Kd.R (Kd.int .i64) 3 w' w.heap.size (fun _ => True) v116 x5_1) ∧ Z0 (Below w.heap.size w w'))
 case atStart => exact ⟨(y115), (0), fs, H', ⟨Nat.le_refl _⟩, ⟨rq HO117⟩, ⟨bqs⟩⟩
 case round =>
  clear H'
  try clear c1
  try clear p2
  try clear c4
  try clear c4b0
  try clear c4b1
  try clear c5
  try clear c5b0
  try clear c5b1
  try clear p6
  obtain ⟨x5_1, x19_1, rfl, HA, HK1, HO_5, HB⟩ := hrel
  cases gk with
  | zero => exact absurd HA.out (by simp [bItimes.l0])
  | succ k1 =>
   have H := HA.out
   clear HA
   simp only [bItimes.l0] at H
   rcases jd H with ⟨-, c8b0, H⟩ | ⟨-, c8b0, H⟩
   ·obtain ⟨-, c9b0, H⟩ := gd H
    obtain ⟨-, c10b0, H⟩ := gd H
    have H' := Z0.mk H
    clear H
    obtain ⟨ad121, e121, hx121_0, p121, q121⟩ := atB HB HR0.out x19_1
    cases e121
    go_wp2
    go_loopg [8, 26] k1 (fun kq v8 v26 w' => ∃ (x5_2 : List Int) (x8_2 : Int) (x26_2 : Int), v8 = .int .i64 x8_2 ∧ v26 = .int .i64 x26_2 ∧ Z0 (bItimes.l1 kq l1 x5_2 x19_1 (rd l0 x19_1) x8_2 l0 (l0.length : Int) x19_1 l1 (l1.length : Int) x26_2 = some r) ∧ Z0 (kq ≤ k1) ∧ Z0 (Kd.R (Kd.int .i64) 3 w' w.heap.size (fun _ => True) v116 x5_2) ∧ Z0 (Below w.heap.size w w'))
    case atStart => exact ⟨(x5_1), (0), (0), fs, fs, H', ⟨Nat.le_refl _⟩, ⟨rq HO_5⟩, ⟨bqs⟩⟩
    case round =>
     clear H'
     try clear c1
     try clear p1
     try clear q1
     try clear hx1
     try clear p2
     try clear c4
     try clear c4b0
     try clear c4b1
     try clear c5
     try clear c5b0
     try clear c5b1
     try clear p6
     try clear c8
     try clear c8b0
     try clear c9
     try clear c9b0
     try clear c10
     try clear c10b0
     try clear hx121_0
     try clear p121
     try clear p2
     try clear p6
     try clear q121
     obtain ⟨x5_2, x8_2, x26_2, rfl, rfl, HA, HK2, HO_5, HB⟩ := hrel
     cases gk with
     | zero => exact absurd HA.out (by simp [bItimes.l1])
     | succ k2 =>
      have H := HA.out
      clear HA
      simp only [bItimes.l1] at H
      rcases jd H with ⟨-, c11b0, H⟩ | ⟨-, c11b0, H⟩
      ·obtain ⟨-, c12b0, H⟩ := gd H
       obtain ⟨-, c13b0, H⟩ := gd H
       obtain ⟨ji14, hji14⟩ : ∃ j_ : Int, (wrap64 (x19_1 + x26_2)) = j_ := ⟨_, rfl⟩
       replace H : (if 0 ≤ (ji14) then (if (ji14) < (x5_2.length : Int) then (bItimes.l1 k2 l1 (x5_2.set ((ji14) : Int).toNat (Int.tmod (wrap64 (x8_2 + (wrap64 ((rd x5_2 (ji14)) + (wrap64 ((rd l0 x19_1) * (rd l1 x26_2))))))) 1000000000)) x19_1 (rd l0 x19_1) (wrap64 (Int.tdiv (wrap64 (x8_2 + (wrap64 ((rd x5_2 (ji14)) + (wrap64 ((rd l0 x19_1) * (rd l1 x26_2))))))) 1000000000)) l0 (l0.length : Int) x19_1 l1 (l1.length : Int) (wrap64 (x26_2 + 1))) else (none)) else (none)) = some r := by first | (rw [hji14] at H; exact H) | (simp only [hji14] at H ⊢; exact H)
       have hji14w : (IntKind.i64.wrap (x19_1 + x26_2)) = ji14 := (i64_w _).trans hji14
       obtain ⟨-, c15b0, H⟩ := gd H
       obtain ⟨-, c16b0, H⟩ := gd H
       generalize hy124 : (x5_2.set ((ji14) : Int).toNat (Int.tmod (wrap64 (x8_2 + (wrap64 ((rd x5_2 (ji14)) + (wrap64 ((rd l0 x19_1) * (rd l1 x26_2))))))) 1000000000) : List Int) = y124 at H
       have Ny124 := Z0.mk hy124.symm
       clear hy124
       have H' := Z0.mk H
       clear H
       obtain ⟨ad122, e122, hx122_0, p122, q122⟩ := atB HB HR1.out x26_2
       cases e122
       obtain ⟨Ao18, co18, eo18⟩ := Kd.R_slice HO_5.out
       subst eo18
       obtain ⟨ad123, e123, hx123_0, p123, q123⟩ := atI (Kd.R_reads' HO_5.out).2.2 (ji14)
       cases e123
       have p17 : 0 ≤ ((ji14) : Int) := od
       have q17 : ((ji14) : Int) < ((x5_2.length : Int) : Int) := od
       obtain ⟨go17, co17, eo17, gb17, gl17, cl17, HG17⟩ := Kd.R_form HO_5.out (by omega)
       (first | cases eo17 | (injection eo17 with ea_ en_ ec_; (first | subst ea_ | (injection ea_ with ea_; subst ea_)); subst ec_; clear en_))
       have GB17 := Z0.mk gb17
       have GG17 := Z0.mk HG17
       clear gb17 gl17 HG17
       (first | simp only [add_plain] at hx123_0 | skip)
       obtain ⟨hx17_0, hf17_0⟩ := Kd.R_celln 0 HO_5.out ((ji14) : Int) p17 q17
       replace p17 := eq_true p17
       replace q17 := eq_true q17
       have HP19 := Kd.R_putg HO_5.out ((ji14) : Int) (Int.tmod (wrap64 (x8_2 + (wrap64 ((rd x5_2 (ji14)) + (wrap64 ((rd l0 x19_1) * (rd l1 x26_2))))))) 1000000000)
       go_wp2_with (first | ((with_reducible refine gate_store (t := 3) (p := 51) rfl ?_); refine store_event (t := 3) (p := 51) (v := ?vo_w20) (w1 := (wr.setCell ⟨go17, ((ji14) : Int).toNat, none⟩ (.int .i64 (Int.tmod (wrap64 (x8_2 + (wrap64 ((rd x5_2 (ji14)) + (wrap64 ((rd l0 x19_1) * (rd l1 x26_2))))))) 1000000000)))) ?hg ?ho ?hn ?hr ?_; (case ho => rfl); (case hg => rfl); (case hn => rfl); (case hr => first | (go_simp; done) | (go_simp; rfl)); intro w20 hw; have hg : wr.grownBy w20 (some go17) := (by rw [hw]; exact HP19.2); have hp_ : Kd.R (Kd.int .i64) 3 w20 w.heap.size (fun _ => True) (.slice (some ⟨go17, 0, none⟩) x5_2.length co18) y124 := (by rw [hw, Ny124.out]; exact HP19.1); clear HP19; replace HO_5 := Z0.mk (hp_); replace HB := Z0.mk ((by rw [hw]; exact below_set (HB.out) GB17.out : Below w.heap.size w w20)); clear hg hw hp_))
       go_roundg k2
       case measure => have := HK1.out; have := HK2.out; omega
       case rel => exact ⟨(y124), (wrap64 (Int.tdiv (wrap64 (x8_2 + (wrap64 ((rd x5_2 (ji14)) + (wrap64 ((rd l0 x19_1) * (rd l1 x26_2))))))) 1000000000)), (wrap64 (x26_2 + 1)), (by first | rfl | (simp; done) | (simp only [← hji14] <;> (first | rfl | simp)) | (simp [*]; done)), fs, H', ⟨by have := HK1.out; have := HK2.out; omega⟩, ⟨rq HO_5⟩, ⟨bqs⟩⟩
      obtain ⟨ji21, hji21⟩ : ∃ j_ : Int, (wrap64 (x19_1 + (l1.length : Int))) = j_ := ⟨_, rfl⟩
      replace H : (if 0 ≤ (ji21) then (if (ji21) < (x5_2.length : Int) then (bItimes.l0 k2 l1 (x5_2.set ((ji21) : Int).toNat x8_2) l0 (l0.length : Int) (wrap64 (x19_1 + 1))) else (none)) else (none)) = some r := by first | (rw [hji21] at H; exact H) | (simp only [hji21] at H ⊢; exact H)
      have hji21w : (IntKind.i64.wrap (x19_1 + (l1.length : Int))) = ji21 := (i64_w _).trans hji21
      obtain ⟨-, c22b0, H⟩ := gd H
      obtain ⟨-, c23b0, H⟩ := gd H
      generalize hy125 : (x5_2.set ((ji21) : Int).toNat x8_2 : List Int) = y125 at H
      have Ny125 := Z0.mk hy125.symm
      clear hy125
      have H' := Z0.mk H
      clear H
      have p24 : 0 ≤ ((ji21) : Int) := od
      have q24 : ((ji21) : Int) < ((x5_2.length : Int) : Int) := od
      obtain ⟨go24, co24, eo24, gb24, gl24, cl24, HG24⟩ := Kd.R_form HO_5.out (by omega)
      (first | cases eo24 | (injection eo24 with ea_ en_ ec_; (first | subst ea_ | (injection ea_ with ea_; subst ea_)); subst ec_; clear en_))
      have GB24 := Z0.mk gb24
      have GG24 := Z0.mk HG24
      clear gb24 gl24 HG24
      obtain ⟨hx24_0, hf24_0⟩ := Kd.R_celln 0 HO_5.out ((ji21) : Int) p24 q24
      replace p24 := eq_true p24
      replace q24 := eq_true q24
      have HP25 := Kd.R_putg HO_5.out ((ji21) : Int) x8_2
      go_wp2_with (first | ((with_reducible refine gate_store (t := 3) (p := 59) rfl ?_); refine store_event (t := 3) (p := 59) (v := ?vo_w26) (w1 := (wr.setCell ⟨go24, ((ji21) : Int).toNat, none⟩ (.int .i64 x8_2))) ?hg ?ho ?hn ?hr ?_; (case ho => rfl); (case hg => rfl); (case hn => rfl); (case hr => first | (go_simp; done) | (go_simp; rfl)); intro w26 hw; have hg : wr.grownBy w26 (some go24) := (by rw [hw]; exact HP25.2); have hp_ : Kd.R (Kd.int .i64) 3 w26 w.heap.size (fun _ => True) (.slice (some ⟨go24, 0, none⟩) x5_2.length co24) y125 := (by rw [hw, Ny125.out]; exact HP25.1); clear HP25; replace HO_5 := Z0.mk (hp_); replace HB := Z0.mk ((by rw [hw]; exact below_set (HB.out) GB24.out : Below w.heap.size w w26)); clear hg hw hp_))
      go_roundg k2
      case measure => have := HK1.out; have := HK2.out; omega
      case rel => exact ⟨(y125), (wrap64 (x19_1 + 1)), fs, H', ⟨by have := HK1.out; have := HK2.out; omega⟩, ⟨rq HO_5⟩, ⟨bqs⟩⟩
   obtain ⟨t118, A27, H⟩ := bnd H
   obtain rfl := Option.some.inj H
   obtain ⟨Ao28, co28, eo28⟩ := Kd.R_slice HO_5.out
   subst eo28
   go_wp2_with (first | ((with_reducible refine gc_ 107 rfl ?_); refine gL 62 Tryz.func107 (bItrim.calls k1 (fun k_ => some k_ = (.slice Ao28 x5_1.length co28 : Value).ownBlock) (.slice Ao28 x5_1.length co28) x5_1 t118 w _ ?side1 ?side2 A27.out) ?_; (case side1 => repeat (first | (with_reducible first | exact HB.out | apply below_alloc | apply pw_below_drewN | apply below_drew1) | exact HB.out)); (case side2 => exact Kd.R_tight rfl HO_5.out); rintro _ w29 ⟨v119, rfl, ho0, hb, hkp⟩; refine ⟨_, rfl, ?_⟩; have HO120 := Z0.mk (Kd.R_mono (ok' := fun k_ => True) ho0 (fun k_ hk_ => trivial)); replace HB := Z0.mk (hb); clear HO_5; clear hb hkp ho0))
   go_ret
   exact ⟨_, by first | rfl | (simp [errW_none, errW_some] <;> rfl) | (simp only [← hji3]; first | rfl | (simp [errW_none, errW_some] <;> rfl)) | (simp [*, errW_none, errW_some] <;> rfl), rq HO120, bqs⟩
end Go.Proofs.YtinpcbjjnlpblaaGreatDoor.PA
