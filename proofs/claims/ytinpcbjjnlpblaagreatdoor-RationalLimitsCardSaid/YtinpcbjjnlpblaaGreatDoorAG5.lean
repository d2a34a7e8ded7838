import Derived.Test.YtinpcbjjnlpblaaGreatDoorAG1
import Derived.Test.YtinpcbjjnlpblaaGreatDoorAD
import Derived.Test.YtinpcbjjnlpblaaGreatDoorAG4
set_option maxHeartbeats 8000000
set_option maxRecDepth 100000
set_option linter.unusedVariables false
namespace Go.Proofs.YtinpcbjjnlpblaaGreatDoor
set_option linter.unusedVariables false
open Go.RowKit Go.Proofs.WWords Go.Proofs.WLast Go.Proofs.WMore PA
attribute [local go_sem] max2_int min2_int max_two min_two max_three min_three max_four min_four
set_option linter.unusedSimpArgs false
theorem bIsubtract.calls {pre post : List Int} {oW cF : Nat} (k : Nat) (P0_ : Nat → Prop) (u9000_ : Value) (l0 : List Int) (A1 : Option Addr) (c1 : Nat) (l1 : List Int) (a2 : Int) (r1 : Bool) (r2 : List Int) (w0 w : World) (hB : Below w0.heap.size w0 w) (ho0 : WR pre post oW cF w w0.heap.size P0_ u9000_ l0) (hr1 : ∀ W_, Kept w W_ (fun k_ => P0_ k_) → Kd.C (Kd.int .i64) W_ A1 l1.length l1) (hc1 : l1.length ≤ c1) (h : bIsubtract.f k l0 l1 a2 = some (r1, r2)) :
  Calls Tryz.prog 141 #[u9000_, .slice A1 l1.length c1, .int .i64 a2] w fun e w' => e = .returned (.bool r1) ∧ WR pre post oW cF w' w0.heap.size (fun k_ => (P0_ k_ ∨ w.heap.size ≤ k_)) u9000_ r2 ∧ Below w0.heap.size w0 w' ∧ Kept w w' (fun k_ => P0_ k_) := by
 have HO0 := Z0.mk (show WR pre post oW cF w w0.heap.size (fun k_ => (P0_ k_ ∨ w.heap.size ≤ k_)) u9000_ l0 from WR_mono ho0 (fun k_ hk => (.inl hk)))
 have HR1 := Z0.mk hr1
 have HC1 := Z0.mk hc1
 clear hr1 hc1
 have HK := Z0.mk (Kept.refl w (fun k_ => P0_ k_))
 have HW0 := Z0.mk hB.size
 have HB := Z0.mk hB
 clear hB
 have H := h
 clear h
 unfold bIsubtract.f at H
 have H' := Z0.mk H
 clear H
 obtain ⟨Ao4, co4, eo4⟩ := WR_slice HO0.out
 subst eo4
 go_enter Tryz.func141, Tryz.ntmps141
 go_wp2
 go_loopg [7, 12] k (fun kq v7 v12 w' => ∃ (x0_1 : List Int) (x7_1 : Int) (x12_1 : Int), v7 = .int .i64 x7_1 ∧ v12 = .int .i64 x12_1 ∧ Z0 (bIsubtract.l0 kq x0_1 l1 a2 x7_1 (l0.length : Int) x12_1 = some (r1, r2)) ∧ Z0 (kq ≤ k) ∧ Z0 (WR pre post oW cF w' w0.heap.size (fun k_ => (P0_ k_ ∨ w.heap.size ≤ k_)) (.slice Ao4 l0.length co4) x0_1) ∧ Z0 (Kept w w' (fun k_ => P0_ k_)) ∧ Z0 (Below w0.heap.size w0 w'))
 case atStart => exact ⟨(l0), (0), (0), fs, fs, H', ⟨Nat.le_refl _⟩, ⟨by (with_reducible repeat (first | apply WR_alloc | apply WR_drewN | apply WR_drew)); exact HO0.out⟩, ⟨kqs⟩, ⟨bqs⟩⟩
 case round =>
  clear H'
  try clear c1
  try clear p2
  obtain ⟨x0_1, x7_1, x12_1, rfl, rfl, HA, HK1, HO_0, HK, HB⟩ := hrel
  have hl0_1 := (WR_reads' HO_0.out).1
  rw [hl0_1] at HO_0
  (try simp only [hl0_1])
  cases gk with
  | zero => exact absurd HA.out (by simp [bIsubtract.l0])
  | succ k1 =>
   have H := HA.out
   clear HA
   simp only [bIsubtract.l0] at H
   rcases jd H with ⟨c5, c5b0, H⟩ | ⟨c5, c5b0, H⟩
   ·(try (have c5b0_ := c5b0; rw [hl0_1] at c5b0_))
    clear c5
    rcases jd H with ⟨c6, c6b0, H⟩ | ⟨c6, c6b0, H⟩
    ·(try (have c6b0_ := c6b0; rw [hl0_1] at c6b0_))
     clear c6
     obtain ⟨-, c7b0, H⟩ := gd H
     obtain ⟨c8, c8b0, H⟩ := gd H
     (try (have c8b0_ := c8b0; rw [hl0_1] at c8b0_))
     clear c8
     rcases jd H with ⟨-, c9b0, H⟩ | ⟨-, c9b0, H⟩
     ·obtain ⟨y125, hy125⟩ : ∃ y_ : List Int, y_ = (x0_1.set (x12_1 : Int).toNat (wrap64 ((wrap64 ((rd x0_1 x12_1) - (Int.tmod (wrap64 (x7_1 + (wrap64 (a2 * (rd l1 x12_1))))) 1000000000))) + 1000000000))) := ⟨_, rfl⟩
      replace H : (bIsubtract.l0 k1 y125 l1 a2 (wrap64 ((wrap64 (Int.tdiv (wrap64 (x7_1 + (wrap64 (a2 * (rd l1 x12_1))))) 1000000000)) + 1)) (l0.length : Int) (wrap64 (x12_1 + 1))) = some (r1, r2) := by first | (rw [hy125]; with_reducible exact H) | (have H2_ := (Option.bind_some _ _).symm.trans H; rw [hy125]; with_reducible exact H2_) | (have H2_ := (Option.bind_some _ _).symm.trans H; with_reducible exact H2_) | with_reducible exact H | (rw [hy125]; exact H) | exact H
      have Ny125 := Z0.mk hy125
      clear hy125
      have H' := Z0.mk H
      clear H
      obtain ⟨ad123, e123, hx123_0, p123, q123⟩ := atI (Kd.C_kept_now HR1.out HK.out) x12_1
      cases e123
      obtain ⟨ad124, e124, hx124_0, p124, q124⟩ := atI (WR_reads' HO_0.out).2.2 x12_1
      cases e124
      have p10 : 0 ≤ (x12_1 : Int) := od
      have q10 : (x12_1 : Int) < ((x0_1.length : Int) : Int) := od
      obtain ⟨go10, co10, eo10, gb10, gl10, cl10, HG10⟩ := WR_form HO_0.out (by omega)
      (first | cases eo10 | (injection eo10 with ea_ en_ ec_; (first | subst ea_ | (injection ea_ with ea_; subst ea_)); subst ec_; clear en_))
      have GB10 := Z0.mk gb10
      have GG10 := Z0.mk HG10
      clear gb10 gl10 HG10
      have HMgo10 := Z0.mk (show (P0_ go10 ∨ w.heap.size ≤ go10) from (HO_0.out.1 _ rfl))
      (first | simp only [add_off] at hx124_0 | skip)
      obtain ⟨hx10_0, hf10_0⟩ := WR_celln 0 HO_0.out (x12_1 : Int) p10 q10
      replace p10 := eq_true p10
      replace q10 := eq_true q10
      have HP11 := WR_putg HO_0.out (x12_1 : Int) (by have h1_ := of_eq_true p10; have h2_ := of_eq_true q10; omega) (wrap64 ((wrap64 ((rd x0_1 x12_1) - (Int.tmod (wrap64 (x7_1 + (wrap64 (a2 * (rd l1 x12_1))))) 1000000000))) + 1000000000))
      go_wp2_with (first | ((with_reducible refine gate_store (t := 3) (p := 45) rfl ?_); refine store_event (t := 3) (p := 45) (v := ?vo_w12) (w1 := (wr.setCell ⟨go10, oW + (x12_1 : Int).toNat, none⟩ (.int .i64 (wrap64 ((wrap64 ((rd x0_1 x12_1) - (Int.tmod (wrap64 (x7_1 + (wrap64 (a2 * (rd l1 x12_1))))) 1000000000))) + 1000000000))))) ?hg ?ho ?hn ?hr ?_; (case ho => rfl); (case hg => rfl); (case hn => rfl); (case hr => first | (go_simp; done) | (go_simp; rfl)); intro w12 hw; have hg : wr.grownBy w12 (some go10) := (by rw [hw]; exact HP11.2); have hp_ : WR pre post oW cF w12 w0.heap.size (fun k_ => (P0_ k_ ∨ w.heap.size ≤ k_)) (.slice (some ⟨go10, oW, none⟩) x0_1.length co4) y125 := (by rw [hw, Ny125.out]; exact HP11.1); clear HP11; have n0_ := Z0.mk (hp_); have n1_ := Z0.mk ((by rw [hw]; exact below_set (HB.out) GB10.out : Below w0.heap.size w0 w12)); have n2_ := Z0.mk (Kept.of_grown (S := (fun k_ => P0_ k_)) hg kqs (fun k_ e_ => (HO_0.out.1 k_ e_))); clear HO_0; clear HB; clear HK; have HO_0 := n0_; have HB := n1_; have HK := n2_; clear n0_ n1_ n2_; clear hg hw hp_))
      (try simp only [← hl0_1])
      go_roundg k1
      case measure => have := HK1.out; omega
      case rel => exact ⟨(y125), (wrap64 ((wrap64 (Int.tdiv (wrap64 (x7_1 + (wrap64 (a2 * (rd l1 x12_1))))) 1000000000)) + 1)), (wrap64 (x12_1 + 1)), fs, fs, H', ⟨by have := HK1.out; omega⟩, ⟨by (try simp only [hl0_1]); (with_reducible repeat (first | apply WR_alloc | apply WR_drewN | apply WR_drew)); exact HO_0.out⟩, ⟨kqs⟩, ⟨bqs⟩⟩
     obtain ⟨y126, hy126⟩ : ∃ y_ : List Int, y_ = (x0_1.set (x12_1 : Int).toNat (wrap64 ((rd x0_1 x12_1) - (Int.tmod (wrap64 (x7_1 + (wrap64 (a2 * (rd l1 x12_1))))) 1000000000)))) := ⟨_, rfl⟩
     replace H : (bIsubtract.l0 k1 y126 l1 a2 (wrap64 (Int.tdiv (wrap64 (x7_1 + (wrap64 (a2 * (rd l1 x12_1))))) 1000000000)) (l0.length : Int) (wrap64 (x12_1 + 1))) = some (r1, r2) := by first | (rw [hy126]; with_reducible exact H) | (have H2_ := (Option.bind_some _ _).symm.trans H; rw [hy126]; with_reducible exact H2_) | (have H2_ := (Option.bind_some _ _).symm.trans H; with_reducible exact H2_) | with_reducible exact H | (rw [hy126]; exact H) | exact H
     have Ny126 := Z0.mk hy126
     clear hy126
     have H' := Z0.mk H
     clear H
     obtain ⟨ad123, e123, hx123_0, p123, q123⟩ := atI (Kd.C_kept_now HR1.out HK.out) x12_1
     cases e123
     obtain ⟨ad124, e124, hx124_0, p124, q124⟩ := atI (WR_reads' HO_0.out).2.2 x12_1
     cases e124
     have p13 : 0 ≤ (x12_1 : Int) := od
     have q13 : (x12_1 : Int) < ((x0_1.length : Int) : Int) := od
     obtain ⟨go13, co13, eo13, gb13, gl13, cl13, HG13⟩ := WR_form HO_0.out (by omega)
     (first | cases eo13 | (injection eo13 with ea_ en_ ec_; (first | subst ea_ | (injection ea_ with ea_; subst ea_)); subst ec_; clear en_))
     have GB13 := Z0.mk gb13
     have GG13 := Z0.mk HG13
     clear gb13 gl13 HG13
     have HMgo13 := Z0.mk (show (P0_ go13 ∨ w.heap.size ≤ go13) from (HO_0.out.1 _ rfl))
     (first | simp only [add_off] at hx124_0 | skip)
     obtain ⟨hx13_0, hf13_0⟩ := WR_celln 0 HO_0.out (x12_1 : Int) p13 q13
     replace p13 := eq_true p13
     replace q13 := eq_true q13
     have HP14 := WR_putg HO_0.out (x12_1 : Int) (by have h1_ := of_eq_true p13; have h2_ := of_eq_true q13; omega) (wrap64 ((rd x0_1 x12_1) - (Int.tmod (wrap64 (x7_1 + (wrap64 (a2 * (rd l1 x12_1))))) 1000000000)))
     go_wp2_with (first | ((with_reducible refine gate_store (t := 3) (p := 45) rfl ?_); refine store_event (t := 3) (p := 45) (v := ?vo_w15) (w1 := (wr.setCell ⟨go13, oW + (x12_1 : Int).toNat, none⟩ (.int .i64 (wrap64 ((rd x0_1 x12_1) - (Int.tmod (wrap64 (x7_1 + (wrap64 (a2 * (rd l1 x12_1))))) 1000000000)))))) ?hg ?ho ?hn ?hr ?_; (case ho => rfl); (case hg => rfl); (case hn => rfl); (case hr => first | (go_simp; done) | (go_simp; rfl)); intro w15 hw; have hg : wr.grownBy w15 (some go13) := (by rw [hw]; exact HP14.2); have hp_ : WR pre post oW cF w15 w0.heap.size (fun k_ => (P0_ k_ ∨ w.heap.size ≤ k_)) (.slice (some ⟨go13, oW, none⟩) x0_1.length co4) y126 := (by rw [hw, Ny126.out]; exact HP14.1); clear HP14; have n0_ := Z0.mk (hp_); have n1_ := Z0.mk ((by rw [hw]; exact below_set (HB.out) GB13.out : Below w0.heap.size w0 w15)); have n2_ := Z0.mk (Kept.of_grown (S := (fun k_ => P0_ k_)) hg kqs (fun k_ e_ => (HO_0.out.1 k_ e_))); clear HO_0; clear HB; clear HK; have HO_0 := n0_; have HB := n1_; have HK := n2_; clear n0_ n1_ n2_; clear hg hw hp_))
     (try simp only [← hl0_1])
     go_roundg k1
     case measure => have := HK1.out; omega
     case rel => exact ⟨(y126), (wrap64 (Int.tdiv (wrap64 (x7_1 + (wrap64 (a2 * (rd l1 x12_1))))) 1000000000)), (wrap64 (x12_1 + 1)), fs, fs, H', ⟨by have := HK1.out; omega⟩, ⟨by (try simp only [hl0_1]); (with_reducible repeat (first | apply WR_alloc | apply WR_drewN | apply WR_drew)); exact HO_0.out⟩, ⟨kqs⟩, ⟨bqs⟩⟩
    (try (have c6b0_ := c6b0; rw [hl0_1] at c6b0_))
    clear c6
    obtain ⟨-, c16b0, H⟩ := gd H
    obtain ⟨c17, c17b0, H⟩ := gd H
    (try (have c17b0_ := c17b0; rw [hl0_1] at c17b0_))
    clear c17
    rcases jd H with ⟨-, c18b0, H⟩ | ⟨-, c18b0, H⟩
    ·obtain ⟨y128, hy128⟩ : ∃ y_ : List Int, y_ = (x0_1.set (x12_1 : Int).toNat (wrap64 ((wrap64 ((rd x0_1 x12_1) - (Int.tmod x7_1 1000000000))) + 1000000000))) := ⟨_, rfl⟩
     replace H : (bIsubtract.l0 k1 y128 l1 a2 (wrap64 ((wrap64 (Int.tdiv x7_1 1000000000)) + 1)) (l0.length : Int) (wrap64 (x12_1 + 1))) = some (r1, r2) := by first | (rw [hy128]; with_reducible exact H) | (have H2_ := (Option.bind_some _ _).symm.trans H; rw [hy128]; with_reducible exact H2_) | (have H2_ := (Option.bind_some _ _).symm.trans H; with_reducible exact H2_) | with_reducible exact H | (rw [hy128]; exact H) | exact H
     have Ny128 := Z0.mk hy128
     clear hy128
     have H' := Z0.mk H
     clear H
     obtain ⟨ad127, e127, hx127_0, p127, q127⟩ := atI (WR_reads' HO_0.out).2.2 x12_1
     cases e127
     have p19 : 0 ≤ (x12_1 : Int) := od
     have q19 : (x12_1 : Int) < ((x0_1.length : Int) : Int) := od
     obtain ⟨go19, co19, eo19, gb19, gl19, cl19, HG19⟩ := WR_form HO_0.out (by omega)
     (first | cases eo19 | (injection eo19 with ea_ en_ ec_; (first | subst ea_ | (injection ea_ with ea_; subst ea_)); subst ec_; clear en_))
     have GB19 := Z0.mk gb19
     have GG19 := Z0.mk HG19
     clear gb19 gl19 HG19
     have HMgo19 := Z0.mk (show (P0_ go19 ∨ w.heap.size ≤ go19) from (HO_0.out.1 _ rfl))
     (first | simp only [add_off] at hx127_0 | skip)
     obtain ⟨hx19_0, hf19_0⟩ := WR_celln 0 HO_0.out (x12_1 : Int) p19 q19
     replace p19 := eq_true p19
     replace q19 := eq_true q19
     have HP20 := WR_putg HO_0.out (x12_1 : Int) (by have h1_ := of_eq_true p19; have h2_ := of_eq_true q19; omega) (wrap64 ((wrap64 ((rd x0_1 x12_1) - (Int.tmod x7_1 1000000000))) + 1000000000))
     go_wp2_with (first | ((with_reducible refine gate_store (t := 3) (p := 45) rfl ?_); refine store_event (t := 3) (p := 45) (v := ?vo_w21) (w1 := (wr.setCell ⟨go19, oW + (x12_1 : Int).toNat, none⟩ (.int .i64 (wrap64 ((wrap64 ((rd x0_1 x12_1) - (Int.tmod x7_1 1000000000))) + 1000000000))))) ?hg ?ho ?hn ?hr ?_; (case ho => rfl); (case hg => rfl); (case hn => rfl); (case hr => first | (go_simp; done) | (go_simp; rfl)); intro w21 hw; have hg : wr.grownBy w21 (some go19) := (by rw [hw]; exact HP20.2); have hp_ : WR pre post oW cF w21 w0.heap.size (fun k_ => (P0_ k_ ∨ w.heap.size ≤ k_)) (.slice (some ⟨go19, oW, none⟩) x0_1.length co4) y128 := (by rw [hw, Ny128.out]; exact HP20.1); clear HP20; have n0_ := Z0.mk (hp_); have n1_ := Z0.mk ((by rw [hw]; exact below_set (HB.out) GB19.out : Below w0.heap.size w0 w21)); have n2_ := Z0.mk (Kept.of_grown (S := (fun k_ => P0_ k_)) hg kqs (fun k_ e_ => (HO_0.out.1 k_ e_))); clear HO_0; clear HB; clear HK; have HO_0 := n0_; have HB := n1_; have HK := n2_; clear n0_ n1_ n2_; clear hg hw hp_))
     (try simp only [← hl0_1])
     go_roundg k1
     case measure => have := HK1.out; omega
     case rel => exact ⟨(y128), (wrap64 ((wrap64 (Int.tdiv x7_1 1000000000)) + 1)), (wrap64 (x12_1 + 1)), fs, fs, H', ⟨by have := HK1.out; omega⟩, ⟨by (try simp only [hl0_1]); (with_reducible repeat (first | apply WR_alloc | apply WR_drewN | apply WR_drew)); exact HO_0.out⟩, ⟨kqs⟩, ⟨bqs⟩⟩
    obtain ⟨y129, hy129⟩ : ∃ y_ : List Int, y_ = (x0_1.set (x12_1 : Int).toNat (wrap64 ((rd x0_1 x12_1) - (Int.tmod x7_1 1000000000)))) := ⟨_, rfl⟩
    replace H : (bIsubtract.l0 k1 y129 l1 a2 (wrap64 (Int.tdiv x7_1 1000000000)) (l0.length : Int) (wrap64 (x12_1 + 1))) = some (r1, r2) := by first | (rw [hy129]; with_reducible exact H) | (have H2_ := (Option.bind_some _ _).symm.trans H; rw [hy129]; with_reducible exact H2_) | (have H2_ := (Option.bind_some _ _).symm.trans H; with_reducible exact H2_) | with_reducible exact H | (rw [hy129]; exact H) | exact H
    have Ny129 := Z0.mk hy129
    clear hy129
    have H' := Z0.mk H
    clear H
    obtain ⟨ad127, e127, hx127_0, p127, q127⟩ := atI (WR_reads' HO_0.out).2.2 x12_1
    cases e127
    have p22 : 0 ≤ (x12_1 : Int) := od
    have q22 : (x12_1 : Int) < ((x0_1.length : Int) : Int) := od
    obtain ⟨go22, co22, eo22, gb22, gl22, cl22, HG22⟩ := WR_form HO_0.out (by omega)
    (first | cases eo22 | (injection eo22 with ea_ en_ ec_; (first | subst ea_ | (injection ea_ with ea_; subst ea_)); subst ec_; clear en_))
    have GB22 := Z0.mk gb22
    have GG22 := Z0.mk HG22
    clear gb22 gl22 HG22
    have HMgo22 := Z0.mk (show (P0_ go22 ∨ w.heap.size ≤ go22) from (HO_0.out.1 _ rfl))
    (first | simp only [add_off] at hx127_0 | skip)
    obtain ⟨hx22_0, hf22_0⟩ := WR_celln 0 HO_0.out (x12_1 : Int) p22 q22
    replace p22 := eq_true p22
    replace q22 := eq_true q22
    have HP23 := WR_putg HO_0.out (x12_1 : Int) (by have h1_ := of_eq_true p22; have h2_ := of_eq_true q22; omega) (wrap64 ((rd x0_1 x12_1) - (Int.tmod x7_1 1000000000)))
    go_wp2_with (first | ((with_reducible refine gate_store (t := 3) (p := 45) rfl ?_); refine store_event (t := 3) (p := 45) (v := ?vo_w24) (w1 := (wr.setCell ⟨go22, oW + (x12_1 : Int).toNat, none⟩ (.int .i64 (wrap64 ((rd x0_1 x12_1) - (Int.tmod x7_1 1000000000)))))) ?hg ?ho ?hn ?hr ?_; (case ho => rfl); (case hg => rfl); (case hn => rfl); (case hr => first | (go_simp; done) | (go_simp; rfl)); intro w24 hw; have hg : wr.grownBy w24 (some go22) := (by rw [hw]; exact HP23.2); have hp_ : WR pre post oW cF w24 w0.heap.size (fun k_ => (P0_ k_ ∨ w.heap.size ≤ k_)) (.slice (some ⟨go22, oW, none⟩) x0_1.length co4) y129 := (by rw [hw, Ny129.out]; exact HP23.1); clear HP23; have n0_ := Z0.mk (hp_); have n1_ := Z0.mk ((by rw [hw]; exact below_set (HB.out) GB22.out : Below w0.heap.size w0 w24)); have n2_ := Z0.mk (Kept.of_grown (S := (fun k_ => P0_ k_)) hg kqs (fun k_ e_ => (HO_0.out.1 k_ e_))); clear HO_0; clear HB; clear HK; have HO_0 := n0_; have HB := n1_; have HK := n2_; clear n0_ n1_ n2_; clear hg hw hp_))
    (try simp only [← hl0_1])
    go_roundg k1
    case measure => have := HK1.out; omega
    case rel => exact ⟨(y129), (wrap64 (Int.tdiv x7_1 1000000000)), (wrap64 (x12_1 + 1)), fs, fs, H', ⟨by have := HK1.out; omega⟩, ⟨by (try simp only [hl0_1]); (with_reducible repeat (first | apply WR_alloc | apply WR_drewN | apply WR_drew)); exact HO_0.out⟩, ⟨kqs⟩, ⟨bqs⟩⟩
   (try (have c5b0_ := c5b0; rw [hl0_1] at c5b0_))
   clear c5
   simp only [Option.some.injEq, Prod.mk.injEq] at H
   obtain ⟨rfl, rfl⟩ := H
   go_wp2
   go_ret
   exact ⟨fe, (by first | exact (by (with_reducible repeat (first | apply WR_alloc | apply WR_drewN | apply WR_drew)); exact HO_0.out) | (simp only [hl0_1]; exact (by (with_reducible repeat (first | apply WR_alloc | apply WR_drewN | apply WR_drew)); exact HO_0.out))), bqs, kqs⟩
theorem bIestimate.calls {pre post : List Int} {oW cF : Nat} (k : Nat) (P0_ : Nat → Prop) (u9000_ : Value) (l0 : List Int) (A1 : Option Addr) (c1 : Nat) (l1 : List Int) (r1 : Int) (r2 : List Int) (w0 w : World) (hB : Below w0.heap.size w0 w) (ho0 : WR pre post oW cF w w0.heap.size P0_ u9000_ l0) (hr1 : ∀ W_, Kept w W_ (fun k_ => P0_ k_) → Kd.C (Kd.int .i64) W_ A1 l1.length l1) (hc1 : l1.length ≤ c1) (h : bIestimate.f k l0 l1 = some (r1, r2)) :
  Calls Tryz.prog 108 #[u9000_, .slice A1 l1.length c1] w fun e w' => e = .returned (.int .i64 r1) ∧ WR pre post oW cF w' w0.heap.size (fun k_ => (P0_ k_ ∨ w.heap.size ≤ k_)) u9000_ r2 ∧ Below w0.heap.size w0 w' ∧ Kept w w' (fun k_ => P0_ k_) := by
 have HO0 := Z0.mk (show WR pre post oW cF w w0.heap.size (fun k_ => (P0_ k_ ∨ w.heap.size ≤ k_)) u9000_ l0 from WR_mono ho0 (fun k_ hk => (.inl hk)))
 have HR1 := Z0.mk hr1
 have HC1 := Z0.mk hc1
 clear hr1 hc1
 have HK := Z0.mk (Kept.refl w (fun k_ => P0_ k_))
 have HW0 := Z0.mk hB.size
 have HB := Z0.mk hB
 clear hB
 have H := h
 clear h
 unfold bIestimate.f at H
 obtain ⟨c3, c3b0, H⟩ := gd H
 have c3b1 : decide (0 ≤ l1.length) = true := decide_eq_true (by omega)
 clear c3
 obtain ⟨c4, c4b0, H⟩ := gd H
 have c4b1 : decide (l1.length < l0.length) = true := decide_eq_true (Int.ofNat_lt.mp c4)
 clear c4
 obtain ⟨ji5, hji5⟩ : ∃ j_ : Int, (wrap64 ((l1.length : Int) - 1)) = j_ := ⟨_, rfl⟩
 replace H : (if 0 ≤ (ji5) then (if (ji5) < (l0.length : Int) then (if (ji5) < (l1.length : Int) then (if (rd l1 (ji5)) = 0 then (none) else (bIestimate.l0 k l0 l1 (l1.length : Int) (mn (wrap64 (Int.tdiv (wrap64 ((wrap64 ((rd l0 (l1.length : Int)) * 1000000000)) + (rd l0 (ji5)))) (rd l1 (ji5)))) 999999999) (wrap64 ((wrap64 ((wrap64 ((rd l0 (l1.length : Int)) * 1000000000)) + (rd l0 (ji5)))) - (wrap64 ((mn (wrap64 (Int.tdiv (wrap64 ((wrap64 ((rd l0 (l1.length : Int)) * 1000000000)) + (rd l0 (ji5)))) (rd l1 (ji5)))) 999999999) * (rd l1 (ji5)))))))) else (none)) else (none)) else (none)) = some (r1, r2) := by first | (rw [hji5] at H; exact H) | (simp only [hji5] at H ⊢; exact H)
 have hji5w : (IntKind.i64.wrap ((l1.length : Int) - 1)) = ji5 := (i64_w _).trans hji5
 obtain ⟨-, c6b0, H⟩ := gd H
 obtain ⟨-, c7b0, H⟩ := gd H
 obtain ⟨-, c8b0, H⟩ := gd H
 obtain ⟨c9, c9b0, c9b1, H⟩ := fQ H
 obtain ⟨ji10, hji10⟩ : ∃ j_ : Int, (mn (wrap64 (Int.tdiv (wrap64 ((wrap64 ((rd l0 (l1.length : Int)) * 1000000000)) + (rd l0 (ji5)))) (rd l1 (ji5)))) 999999999) = j_ := ⟨_, rfl⟩
 replace H : (bIestimate.l0 k l0 l1 (l1.length : Int) ji10 (wrap64 ((wrap64 ((wrap64 ((rd l0 (l1.length : Int)) * 1000000000)) + (rd l0 (ji5)))) - (wrap64 ((ji10) * (rd l1 (ji5))))))) = some (r1, r2) := by first | (rw [hji10] at H; exact H) | (simp only [hji10] at H ⊢; exact H)
 have hji10_ : (if 999999999 < (wrap64 (Int.tdiv (wrap64 ((wrap64 ((rd l0 (l1.length : Int)) * 1000000000)) + (rd l0 (ji5)))) (rd l1 (ji5)))) then 999999999 else (wrap64 (Int.tdiv (wrap64 ((wrap64 ((rd l0 (l1.length : Int)) * 1000000000)) + (rd l0 (ji5)))) (rd l1 (ji5))))) = ji10 := hji10
 have HC11 := Z0.mk H
 clear H
 obtain ⟨gW, co12, eo12⟩ := WR_slice2 HO0.out
 subst eo12
 obtain ⟨ad130, e130, hx130_0, p130, q130⟩ := atI (WR_reads' HO0.out).2.2 (l1.length : Int)
 cases e130
 simp only [add_off] at hx130_0
 (try simp only [Go.IntWalk.toNatUp] at hx130_0)
 obtain ⟨ad131, e131, hx131_0, p131, q131⟩ := atI (WR_reads' HO0.out).2.2 (ji5)
 cases e131
 simp only [add_off] at hx131_0
 obtain ⟨ad132, e132, hx132_0, p132, q132⟩ := atI (Kd.C_kept_now HR1.out HK.out) (ji5)
 cases e132
 obtain ⟨ad133, e133, hx133_0, p133, q133⟩ := atI (Kd.C_kept_now HR1.out HK.out) (ji5)
 obtain rfl : ad132 = ad133 := (by injection e133)
 go_enter Tryz.func108, Tryz.ntmps108
 go_upto_block 0 with (fail)
 repeat (go_quiet (fail); go_upto_block 0 with (fail))
 go_cut [7] (fun v7 wc => ∃ (kq : Nat) (x7_10 : Int), v7 = .int .i64 x7_10 ∧ Z0 (bIestimate.j1 kq l0 l1 (l1.length : Int) x7_10 = some (r1, r2)) ∧ Z0 (kq ≤ k) ∧ Z0 (WR pre post oW cF wc w0.heap.size (fun k_ => (P0_ k_ ∨ w.heap.size ≤ k_)) (.slice (some ⟨gW, oW, none⟩) l0.length co12) l0) ∧ Z0 (Kept w wc (fun k_ => P0_ k_)) ∧ Z0 (Below w0.heap.size w0 wc))
 case first =>
  have H := HC11.out
  clear HC11
  have H' := Z0.mk H
  clear H
  go_wp2
  repeat (go_quiet (fail); try go_wp2)
  go_loopg [7, 8] k (fun kq v7 v8 w' => ∃ (x7_1 : Int) (x8_1 : Int), v7 = .int .i64 x7_1 ∧ v8 = .int .i64 x8_1 ∧ Z0 (bIestimate.l0 kq l0 l1 (l1.length : Int) x7_1 x8_1 = some (r1, r2)) ∧ Z0 (kq ≤ k) ∧ Z0 (WR pre post oW cF w' w0.heap.size (fun k_ => (P0_ k_ ∨ w.heap.size ≤ k_)) (.slice (some ⟨gW, oW, none⟩) l0.length co12) l0) ∧ Z0 (Kept w w' (fun k_ => P0_ k_)) ∧ Z0 (Below w0.heap.size w0 w'))
  case atStart => exact ⟨(ji10), (wrap64 ((wrap64 ((wrap64 ((rd l0 (l1.length : Int)) * 1000000000)) + (rd l0 (ji5)))) - (wrap64 ((ji10) * (rd l1 (ji5)))))), (by first | rfl | (simp; done) | (simp only [← hji10] <;> (first | rfl | simp)) | (simp [*]; done)), (by first | rfl | (simp; done) | (simp only [← hji5, ← hji10] <;> (first | rfl | simp)) | (simp [*]; done)), H', ⟨Nat.le_refl _⟩, ⟨by (with_reducible repeat (first | apply WR_alloc | apply WR_drewN | apply WR_drew)); exact HO0.out⟩, ⟨kqs⟩, ⟨bqs⟩⟩
  case round =>
   clear H'
   try clear c1
   try clear p1
   try clear q1
   try clear hx1
   try clear p2
   try clear c3
   try clear c3b0
   try clear c3b1
   try clear c4
   try clear c4b0
   try clear c4b1
   try clear c6
   try clear c6b0
   try clear p6
   try clear c7
   try clear c7b0
   try clear c8
   try clear c8b0
   try clear c9
   try clear c9b0
   try clear c9b1
   try clear hx130_0
   try clear hx131_0
   try clear hx132_0
   try clear hx133_0
   try clear p130
   try clear p131
   try clear p132
   try clear p133
   try clear q130
   try clear q131
   try clear q132
   try clear q133
   obtain ⟨x7_1, x8_1, rfl, rfl, HA, HK1, HO_0, HK, HB⟩ := hrel
   cases gk with
   | zero => exact absurd HA.out (by simp [bIestimate.l0])
   | succ k1 =>
    have H := HA.out
    clear HA
    simp only [bIestimate.l0] at H
    rcases jd H with ⟨-, c13b0, H⟩ | ⟨-, c13b0, H⟩
    ·(first | rw [c13b0] | (simp only [i64_w, i32_w]; rw [c13b0]) | skip)
     obtain ⟨ji14, hji14⟩ : ∃ j_ : Int, (wrap64 ((l1.length : Int) - 2)) = j_ := ⟨_, rfl⟩
     replace H : (if 0 ≤ (ji14) then (if (ji14) < (l1.length : Int) then (if (ji14) < (l0.length : Int) then (if (wrap64 (x7_1 * (rd l1 (ji14)))) > (wrap64 ((wrap64 (x8_1 * 1000000000)) + (rd l0 (ji14)))) then (if 0 ≤ (wrap64 ((l1.length : Int) - 1)) then (if (wrap64 ((l1.length : Int) - 1)) < (l1.length : Int) then (bIestimate.l0 k1 l0 l1 (l1.length : Int) (wrap64 (x7_1 - 1)) (wrap64 (x8_1 + (rd l1 (wrap64 ((l1.length : Int) - 1)))))) else (none)) else (none)) else (bIestimate.j1 k1 l0 l1 (l1.length : Int) x7_1)) else (none)) else (none)) else (none)) = some (r1, r2) := by first | (rw [hji14] at H; exact H) | (simp only [hji14] at H ⊢; exact H)
     have hji14w : (IntKind.i64.wrap ((l1.length : Int) - 2)) = ji14 := (i64_w _).trans hji14
     obtain ⟨-, c15b0, H⟩ := gd H
     obtain ⟨-, c16b0, H⟩ := gd H
     obtain ⟨-, c17b0, H⟩ := gd H
     rcases jg H with ⟨-, c18b0, H⟩ | ⟨-, c18b0, H⟩
     ·obtain ⟨ji19, hji19⟩ : ∃ j_ : Int, (wrap64 ((l1.length : Int) - 1)) = j_ := ⟨_, rfl⟩
      replace H : (if 0 ≤ (ji19) then (if (ji19) < (l1.length : Int) then (bIestimate.l0 k1 l0 l1 (l1.length : Int) (wrap64 (x7_1 - 1)) (wrap64 (x8_1 + (rd l1 (ji19))))) else (none)) else (none)) = some (r1, r2) := by first | (rw [hji19] at H; exact H) | (simp only [hji19] at H ⊢; exact H)
      have hji19w : (IntKind.i64.wrap ((l1.length : Int) - 1)) = ji19 := (i64_w _).trans hji19
      have hal19 := Z0.mk (hji19.symm.trans hji5)
      obtain ⟨-, c20b0, H⟩ := gd H
      obtain ⟨-, c21b0, H⟩ := gd H
      have H' := Z0.mk H
      clear H
      obtain ⟨ad134, e134, hx134_0, p134, q134⟩ := atI (Kd.C_kept_now HR1.out HK.out) (ji14)
      obtain rfl : ad132 = ad134 := (by injection e134)
      obtain ⟨ad135, e135, hx135_0, p135, q135⟩ := atI (WR_reads' HO_0.out).2.2 (ji14)
      cases e135
      simp only [add_off] at hx135_0
      obtain ⟨ad136, e136, hx136_0, p136, q136⟩ := atI (Kd.C_kept_now HR1.out HK.out) (ji19)
      obtain rfl : ad132 = ad136 := (by injection e136)
      (try (have hx136_0_a := hx136_0; rw [hal19.out] at hx136_0_a))
      (try (have p136_a := p136; rw [hal19.out] at p136_a))
      (try (have q136_a := q136; rw [hal19.out] at q136_a))
      go_wp2
      repeat (go_quiet (fail); try go_wp2)
      go_roundg k1
      case measure => have := HK1.out; omega
      case rel => exact ⟨(wrap64 (x7_1 - 1)), (wrap64 (x8_1 + (rd l1 (ji19)))), fs, (by first | rfl | (simp; done) | (rw [hal19.out]; done) | (simp only [← hji19] <;> (first | rfl | simp)) | (simp [*]; done)), H', ⟨by have := HK1.out; omega⟩, ⟨by (with_reducible repeat (first | apply WR_alloc | apply WR_drewN | apply WR_drew)); exact HO_0.out⟩, ⟨kqs⟩, ⟨bqs⟩⟩
     have H' := Z0.mk H
     clear H
     obtain ⟨ad134, e134, hx134_0, p134, q134⟩ := atI (Kd.C_kept_now HR1.out HK.out) (ji14)
     obtain rfl : ad132 = ad134 := (by injection e134)
     obtain ⟨ad135, e135, hx135_0, p135, q135⟩ := atI (WR_reads' HO_0.out).2.2 (ji14)
     cases e135
     simp only [add_off] at hx135_0
     go_wp2
     repeat (go_quiet (fail); try go_wp2)
     go_meet
     case rel => exact ⟨_, (x7_1), fs, H', ⟨by have := HK1.out; first | omega | exact Nat.le_refl _⟩, ⟨by (with_reducible repeat (first | apply WR_alloc | apply WR_drewN | apply WR_drew)); exact HO_0.out⟩, ⟨kqs⟩, ⟨bqs⟩⟩
    (first | rw [c13b0] | (simp only [i64_w, i32_w]; rw [c13b0]) | skip)
    have H' := Z0.mk H
    clear H
    go_wp2
    repeat (go_quiet (fail); try go_wp2)
    go_meet
    case rel => exact ⟨_, (x7_1), fs, H', ⟨by have := HK1.out; first | omega | exact Nat.le_refl _⟩, ⟨by (with_reducible repeat (first | apply WR_alloc | apply WR_drewN | apply WR_drew)); exact HO_0.out⟩, ⟨kqs⟩, ⟨bqs⟩⟩
 case rest =>
  clear HC11
  try clear c1
  try clear p1
  try clear q1
  try clear hx1
  try clear c2
  try clear p2
  try clear c3
  try clear c3b0
  try clear c3b1
  try clear c4
  try clear c4b0
  try clear c4b1
  try clear c6
  try clear c6b0
  try clear p6
  try clear c7
  try clear c7b0
  try clear c8
  try clear c8b0
  try clear c9
  try clear c9b0
  try clear c9b1
  try clear c13
  try clear c13b0
  try clear p13
  try clear q13
  try clear hx13
  try clear c14
  try clear c15
  try clear c15b0
  try clear c16
  try clear c16b0
  try clear c17
  try clear c17b0
  try clear c18
  try clear c18b0
  try clear c20
  try clear c20b0
  try clear c21
  try clear c21b0
  try clear hx130_0
  try clear hx131_0
  try clear hx132_0
  try clear hx133_0
  try clear hx134_0
  try clear hx135_0
  try clear hx136_0
  try clear p1
  try clear p130
  try clear p131
  try clear p132
  try clear p133
  try clear p134
  try clear p135
  try clear p136
  try clear p2
  try clear p6
  try clear q1
  try clear q130
  try clear q131
  try clear q132
  try clear q133
  try clear q134
  try clear q135
  try clear q136
  obtain ⟨kq, x7_10, rfl, HA, HJ10, HO_0, HK, HB⟩ := hcut
  cases kq with
  | zero => exact absurd HA.out (by simp [bIestimate.j1])
  | succ kj10 =>
   have H := HA.out
   clear HA
   simp only [bIestimate.j1] at H
   obtain ⟨⟨t137, t138⟩, A22, H⟩ := bnd H
   try dsimp only at H
   by_cases c23 : t137 = true
   ·subst c23
    have H1 : (some (x7_10, t138)) = some (r1, r2) := by rw [if_pos rfl] at H; exact H
    clear H
    have H := H1
    clear H1
    simp only [Option.some.injEq, Prod.mk.injEq] at H
    obtain ⟨rfl, rfl⟩ := H
    go_wp2_with (first | (go_at_call 141; (with_reducible refine (bIsubtract.calls (pre := pre) (post := post) (oW := oW) (cF := cF) kj10 (fun k_ => some k_ = (.slice (some ⟨gW, oW, none⟩) l0.length co12 : Value).ownBlock) (.slice (some ⟨gW, oW, none⟩) l0.length co12) l0 _ _ l1 x7_10 true t138 w0 _ ?side1 ?side2 ?side3 ?side4 A22.out).mono ?_); (case side1 => repeat (first | (with_reducible first | exact HB.out | apply below_alloc | apply pw_below_drewN | apply below_drew1) | exact HB.out)); (case side2 => exact WR_tight rfl HO_0.out); (case side3 => exact Kd.C_kept_call HR1.out kqs (fun k_ hs_ => (fun e_ => (HO_0.out.1 k_ e_.symm)) hs_)); (case side4 => exact HC1.out); rintro e w24 ⟨rfl, hy0, hb, hkp⟩; have n0_ := Z0.mk (WR_reok rfl hy0 (fun k_ e_ => HO_0.out.1 k_ e_)); have n1_ := Z0.mk (Kept.then_ (S := (fun k_ => P0_ k_)) kqs hkp (fun k_ hs_ => (fun e_ => (HO_0.out.1 k_ e_.symm)) hs_)); have n2_ := Z0.mk (hb); clear HO_0; clear HK; clear HB; have HO_0 := n0_; have HK := n1_; have HB := n2_; clear n0_ n1_ n2_; clear hb hkp hy0) | (go_quiet (first | (go_at_call 141; (with_reducible refine (bIsubtract.calls (pre := pre) (post := post) (oW := oW) (cF := cF) kj10 (fun k_ => some k_ = (.slice (some ⟨gW, oW, none⟩) l0.length co12 : Value).ownBlock) (.slice (some ⟨gW, oW, none⟩) l0.length co12) l0 _ _ l1 x7_10 true t138 w0 _ ?side1 ?side2 ?side3 ?side4 A22.out).mono ?_); (case side1 => repeat (first | (with_reducible first | exact HB.out | apply below_alloc | apply pw_below_drewN | apply below_drew1) | exact HB.out)); (case side2 => exact WR_tight rfl HO_0.out); (case side3 => exact Kd.C_kept_call HR1.out kqs (fun k_ hs_ => (fun e_ => (HO_0.out.1 k_ e_.symm)) hs_)); (case side4 => exact HC1.out); rintro e w24 ⟨rfl, hy0, hb, hkp⟩; have n0_ := Z0.mk (WR_reok rfl hy0 (fun k_ e_ => HO_0.out.1 k_ e_)); have n1_ := Z0.mk (Kept.then_ (S := (fun k_ => P0_ k_)) kqs hkp (fun k_ hs_ => (fun e_ => (HO_0.out.1 k_ e_.symm)) hs_)); have n2_ := Z0.mk (hb); clear HO_0; clear HK; clear HB; have HO_0 := n0_; have HK := n1_; have HB := n2_; clear n0_ n1_ n2_; clear hb hkp hy0))))
    go_ret
    exact ⟨by first | rfl | (simp [errW_none, errW_some] <;> rfl) | (simp only [← hji5, ← hji10]; first | rfl | (simp [errW_none, errW_some] <;> rfl)) | (simp [*, errW_none, errW_some] <;> rfl), by (with_reducible repeat (first | apply WR_alloc | apply WR_drewN | apply WR_drew)); exact HO_0.out, bqs, kqs⟩
   replace c23 := Bool.eq_false_iff.mpr c23
   subst c23
   have H1 : (bIestimate.l1 kj10 t138 l1 (l1.length : Int) (wrap64 (x7_10 - 1)) 0 (l0.length : Int) 0) = some (r1, r2) := by rw [if_neg (show ¬ (false = true) by decide)] at H; exact H
   clear H
   have H := H1
   clear H1
   have H' := Z0.mk H
   clear H
   go_wp2_with (first | (go_at_call 141; (with_reducible refine (bIsubtract.calls (pre := pre) (post := post) (oW := oW) (cF := cF) kj10 (fun k_ => some k_ = (.slice (some ⟨gW, oW, none⟩) l0.length co12 : Value).ownBlock) (.slice (some ⟨gW, oW, none⟩) l0.length co12) l0 _ _ l1 x7_10 false t138 w0 _ ?side1 ?side2 ?side3 ?side4 A22.out).mono ?_); (case side1 => repeat (first | (with_reducible first | exact HB.out | apply below_alloc | apply pw_below_drewN | apply below_drew1) | exact HB.out)); (case side2 => exact WR_tight rfl HO_0.out); (case side3 => exact Kd.C_kept_call HR1.out kqs (fun k_ hs_ => (fun e_ => (HO_0.out.1 k_ e_.symm)) hs_)); (case side4 => exact HC1.out); rintro e w25 ⟨rfl, hy0, hb, hkp⟩; have n0_ := Z0.mk (WR_reok rfl hy0 (fun k_ e_ => HO_0.out.1 k_ e_)); have n1_ := Z0.mk (Kept.then_ (S := (fun k_ => P0_ k_)) kqs hkp (fun k_ hs_ => (fun e_ => (HO_0.out.1 k_ e_.symm)) hs_)); have n2_ := Z0.mk (hb); clear HO_0; clear HK; clear HB; have HO_0 := n0_; have HK := n1_; have HB := n2_; clear n0_ n1_ n2_; clear hb hkp hy0) | (go_quiet (first | (go_at_call 141; (with_reducible refine (bIsubtract.calls (pre := pre) (post := post) (oW := oW) (cF := cF) kj10 (fun k_ => some k_ = (.slice (some ⟨gW, oW, none⟩) l0.length co12 : Value).ownBlock) (.slice (some ⟨gW, oW, none⟩) l0.length co12) l0 _ _ l1 x7_10 false t138 w0 _ ?side1 ?side2 ?side3 ?side4 A22.out).mono ?_); (case side1 => repeat (first | (with_reducible first | exact HB.out | apply below_alloc | apply pw_below_drewN | apply below_drew1) | exact HB.out)); (case side2 => exact WR_tight rfl HO_0.out); (case side3 => exact Kd.C_kept_call HR1.out kqs (fun k_ hs_ => (fun e_ => (HO_0.out.1 k_ e_.symm)) hs_)); (case side4 => exact HC1.out); rintro e w25 ⟨rfl, hy0, hb, hkp⟩; have n0_ := Z0.mk (WR_reok rfl hy0 (fun k_ e_ => HO_0.out.1 k_ e_)); have n1_ := Z0.mk (Kept.then_ (S := (fun k_ => P0_ k_)) kqs hkp (fun k_ hs_ => (fun e_ => (HO_0.out.1 k_ e_.symm)) hs_)); have n2_ := Z0.mk (hb); clear HO_0; clear HK; clear HB; have HO_0 := n0_; have HK := n1_; have HB := n2_; clear n0_ n1_ n2_; clear hb hkp hy0))))
   go_loopg [9, 79] kj10 (fun kq v9 v79 w' => ∃ (x0_2 : List Int) (x9_2 : Int) (x79_2 : Int), v9 = .int .i64 x9_2 ∧ v79 = .int .i64 x79_2 ∧ Z0 (bIestimate.l1 kq x0_2 l1 (l1.length : Int) (wrap64 (x7_10 - 1)) x9_2 (l0.length : Int) x79_2 = some (r1, r2)) ∧ Z0 (kq ≤ kj10) ∧ Z0 (WR pre post oW cF w' w0.heap.size (fun k_ => (P0_ k_ ∨ w.heap.size ≤ k_)) (.slice (some ⟨gW, oW, none⟩) l0.length co12) x0_2) ∧ Z0 (Kept w w' (fun k_ => P0_ k_)) ∧ Z0 (Below w0.heap.size w0 w'))
   case atStart => exact ⟨(t138), (0), (0), fs, fs, H', ⟨Nat.le_refl _⟩, ⟨by (with_reducible repeat (first | apply WR_alloc | apply WR_drewN | apply WR_drew)); exact HO_0.out⟩, ⟨kqs⟩, ⟨bqs⟩⟩
   case round =>
    clear H'
    try clear c1
    try clear p1
    try clear q1
    try clear hx1
    try clear c2
    try clear p2
    try clear c3
    try clear c3b0
    try clear c3b1
    try clear c4
    try clear c4b0
    try clear c4b1
    try clear c6
    try clear c6b0
    try clear p6
    try clear c7
    try clear c7b0
    try clear c8
    try clear c8b0
    try clear c9
    try clear c9b0
    try clear c9b1
    try clear c13
    try clear c13b0
    try clear p13
    try clear q13
    try clear hx13
    try clear c14
    try clear c15
    try clear c15b0
    try clear c16
    try clear c16b0
    try clear c17
    try clear c17b0
    try clear c18
    try clear c18b0
    try clear c20
    try clear c20b0
    try clear c21
    try clear c21b0
    try clear c23
    try clear hx130_0
    try clear hx131_0
    try clear hx132_0
    try clear hx133_0
    try clear hx134_0
    try clear hx135_0
    try clear hx136_0
    try clear p1
    try clear p13
    try clear p130
    try clear p131
    try clear p132
    try clear p133
    try clear p134
    try clear p135
    try clear p136
    try clear p2
    try clear p6
    try clear q1
    try clear q13
    try clear q130
    try clear q131
    try clear q132
    try clear q133
    try clear q134
    try clear q135
    try clear q136
    obtain ⟨x0_2, x9_2, x79_2, rfl, rfl, HA, HK2, HO_0, HK, HB⟩ := hrel
    have hl0_2 := (WR_reads' HO_0.out).1
    rw [hl0_2] at HO_0
    (try simp only [hl0_2])
    cases gk with
    | zero => exact absurd HA.out (by simp [bIestimate.l1])
    | succ k2 =>
     have H := HA.out
     clear HA
     simp only [bIestimate.l1] at H
     rcases jd H with ⟨c26, c26b0, H⟩ | ⟨c26, c26b0, H⟩
     ·(try (have c26b0_ := c26b0; rw [hl0_2] at c26b0_))
      clear c26
      obtain ⟨-, c27b0, H⟩ := gd H
      obtain ⟨c28, c28b0, H⟩ := gd H
      (try (have c28b0_ := c28b0; rw [hl0_2] at c28b0_))
      clear c28
      rcases jd H with ⟨c29, c29b0, H⟩ | ⟨c29, c29b0, H⟩
      ·(try (have c29b0_ := c29b0; rw [hl0_2] at c29b0_))
       clear c29
       obtain ⟨c30, c30b0, H⟩ := gd H
       (try (have c30b0_ := c30b0; rw [hl0_2] at c30b0_))
       clear c30
       generalize hy141 : (x0_2.set (x79_2 : Int).toNat (Int.tmod (wrap64 ((wrap64 (x9_2 + (rd x0_2 x79_2))) + (rd l1 x79_2))) 1000000000) : List Int) = y141 at H
       have Ny141 := Z0.mk hy141.symm
       clear hy141
       have H' := Z0.mk H
       clear H
       obtain ⟨ad139, e139, hx139_0, p139, q139⟩ := atI (WR_reads' HO_0.out).2.2 x79_2
       cases e139
       simp only [add_off] at hx139_0
       obtain ⟨ad140, e140, hx140_0, p140, q140⟩ := atI (Kd.C_kept_now HR1.out HK.out) x79_2
       obtain rfl : ad132 = ad140 := (by injection e140)
       have p31 : 0 ≤ (x79_2 : Int) := od
       have q31 : (x79_2 : Int) < ((x0_2.length : Int) : Int) := od
       obtain ⟨gb31, gl31, cl31, HG31⟩ := WR_form2 HO_0.out (by omega)
       have GB31 := Z0.mk gb31
       have GG31 := Z0.mk HG31
       clear gb31 gl31 HG31
       have HMgo31 := Z0.mk (show (P0_ gW ∨ w.heap.size ≤ gW) from (HO_0.out.1 _ rfl))
       obtain ⟨hx31_0, hf31_0⟩ := WR_celln 0 HO_0.out (x79_2 : Int) p31 q31
       replace p31 := eq_true p31
       replace q31 := eq_true q31
       have HP32 := WR_putg HO_0.out (x79_2 : Int) (by have h1_ := of_eq_true p31; have h2_ := of_eq_true q31; omega) (Int.tmod (wrap64 ((wrap64 (x9_2 + (rd x0_2 x79_2))) + (rd l1 x79_2))) 1000000000)
       go_wp2_with (first | ((with_reducible refine gate_store (t := 3) (p := 103) rfl ?_); (try (rw [drewN_self wr]; generalize hq_ : World.drewN wr _ = wr; replace HO_0 := Z0.mk (WR_at hq_ HO_0.out); replace HK := Z0.mk (kept_at hq_ HK.out); replace HB := Z0.mk (below_at hq_ HB.out); clear hq_; (try (have HP32 := WR_putg HO_0.out (x79_2 : Int) (by have h1_ := of_eq_true p31; have h2_ := of_eq_true q31; omega) (Int.tmod (wrap64 ((wrap64 (x9_2 + (rd x0_2 x79_2))) + (rd l1 x79_2))) 1000000000))))); refine store_event (t := 3) (p := 103) (v := ?vo_w33) (w1 := (wr.setCell ⟨gW, oW + (x79_2 : Int).toNat, none⟩ (.int .i64 (Int.tmod (wrap64 ((wrap64 (x9_2 + (rd x0_2 x79_2))) + (rd l1 x79_2))) 1000000000)))) ?hg ?ho ?hn ?hr ?_; (case ho => rfl); (case hg => rfl); (case hn => rfl); (case hr => first | (go_simp; done) | (go_simp; rfl)); intro w33 hw; have hg : wr.grownBy w33 (some gW) := (by rw [hw]; exact HP32.2); have hp_ : WR pre post oW cF w33 w0.heap.size (fun k_ => (P0_ k_ ∨ w.heap.size ≤ k_)) (.slice (some ⟨gW, oW, none⟩) x0_2.length co12) y141 := (by rw [hw, Ny141.out]; exact HP32.1); clear HP32; have n0_ := Z0.mk (hp_); have n1_ := Z0.mk ((by rw [hw]; exact below_set (HB.out) GB31.out : Below w0.heap.size w0 w33)); have n2_ := Z0.mk (Kept.of_grown (S := (fun k_ => P0_ k_)) hg kqs (fun k_ e_ => (HO_0.out.1 k_ e_))); clear HO_0; clear HB; clear HK; have HO_0 := n0_; have HB := n1_; have HK := n2_; clear n0_ n1_ n2_; clear hg hw hp_) | (go_quiet (fail)))
       (try simp only [← hl0_2])
       go_roundg k2
       case measure => have := HJ10.out; have := HK2.out; omega
       case rel => exact ⟨(y141), (wrap64 (Int.tdiv (wrap64 ((wrap64 (x9_2 + (rd x0_2 x79_2))) + (rd l1 x79_2))) 1000000000)), (wrap64 (x79_2 + 1)), fs, fs, H', ⟨by have := HJ10.out; have := HK2.out; omega⟩, ⟨by (try simp only [hl0_2]); (with_reducible repeat (first | apply WR_alloc | apply WR_drewN | apply WR_drew)); exact HO_0.out⟩, ⟨kqs⟩, ⟨bqs⟩⟩
      (try (have c29b0_ := c29b0; rw [hl0_2] at c29b0_))
      clear c29
      generalize hy142 : (x0_2.set (x79_2 : Int).toNat (Int.tmod (wrap64 (x9_2 + (rd x0_2 x79_2))) 1000000000) : List Int) = y142 at H
      have Ny142 := Z0.mk hy142.symm
      clear hy142
      have H' := Z0.mk H
      clear H
      obtain ⟨ad139, e139, hx139_0, p139, q139⟩ := atI (WR_reads' HO_0.out).2.2 x79_2
      cases e139
      simp only [add_off] at hx139_0
      have p34 : 0 ≤ (x79_2 : Int) := od
      have q34 : (x79_2 : Int) < ((x0_2.length : Int) : Int) := od
      obtain ⟨gb34, gl34, cl34, HG34⟩ := WR_form2 HO_0.out (by omega)
      have GB34 := Z0.mk gb34
      have GG34 := Z0.mk HG34
      clear gb34 gl34 HG34
      have HMgo34 := Z0.mk (show (P0_ gW ∨ w.heap.size ≤ gW) from (HO_0.out.1 _ rfl))
      obtain ⟨hx34_0, hf34_0⟩ := WR_celln 0 HO_0.out (x79_2 : Int) p34 q34
      replace p34 := eq_true p34
      replace q34 := eq_true q34
      have HP35 := WR_putg HO_0.out (x79_2 : Int) (by have h1_ := of_eq_true p34; have h2_ := of_eq_true q34; omega) (Int.tmod (wrap64 (x9_2 + (rd x0_2 x79_2))) 1000000000)
      go_wp2_with (first | ((with_reducible refine gate_store (t := 3) (p := 103) rfl ?_); (try (rw [drewN_self wr]; generalize hq_ : World.drewN wr _ = wr; replace HO_0 := Z0.mk (WR_at hq_ HO_0.out); replace HK := Z0.mk (kept_at hq_ HK.out); replace HB := Z0.mk (below_at hq_ HB.out); clear hq_; (try (have HP35 := WR_putg HO_0.out (x79_2 : Int) (by have h1_ := of_eq_true p34; have h2_ := of_eq_true q34; omega) (Int.tmod (wrap64 (x9_2 + (rd x0_2 x79_2))) 1000000000))))); refine store_event (t := 3) (p := 103) (v := ?vo_w36) (w1 := (wr.setCell ⟨gW, oW + (x79_2 : Int).toNat, none⟩ (.int .i64 (Int.tmod (wrap64 (x9_2 + (rd x0_2 x79_2))) 1000000000)))) ?hg ?ho ?hn ?hr ?_; (case ho => rfl); (case hg => rfl); (case hn => rfl); (case hr => first | (go_simp; done) | (go_simp; rfl)); intro w36 hw; have hg : wr.grownBy w36 (some gW) := (by rw [hw]; exact HP35.2); have hp_ : WR pre post oW cF w36 w0.heap.size (fun k_ => (P0_ k_ ∨ w.heap.size ≤ k_)) (.slice (some ⟨gW, oW, none⟩) x0_2.length co12) y142 := (by rw [hw, Ny142.out]; exact HP35.1); clear HP35; have n0_ := Z0.mk (hp_); have n1_ := Z0.mk ((by rw [hw]; exact below_set (HB.out) GB34.out : Below w0.heap.size w0 w36)); have n2_ := Z0.mk (Kept.of_grown (S := (fun k_ => P0_ k_)) hg kqs (fun k_ e_ => (HO_0.out.1 k_ e_))); clear HO_0; clear HB; clear HK; have HO_0 := n0_; have HB := n1_; have HK := n2_; clear n0_ n1_ n2_; clear hg hw hp_) | (go_quiet (fail)))
      (try simp only [← hl0_2])
      go_roundg k2
      case measure => have := HJ10.out; have := HK2.out; omega
      case rel => exact ⟨(y142), (wrap64 (Int.tdiv (wrap64 (x9_2 + (rd x0_2 x79_2))) 1000000000)), (wrap64 (x79_2 + 1)), fs, fs, H', ⟨by have := HJ10.out; have := HK2.out; omega⟩, ⟨by (try simp only [hl0_2]); (with_reducible repeat (first | apply WR_alloc | apply WR_drewN | apply WR_drew)); exact HO_0.out⟩, ⟨kqs⟩, ⟨bqs⟩⟩
     (try (have c26b0_ := c26b0; rw [hl0_2] at c26b0_))
     clear c26
     simp only [Option.some.injEq, Prod.mk.injEq] at H
     obtain ⟨rfl, rfl⟩ := H
     go_wp2
     repeat (go_quiet (fail); try go_wp2)
     go_ret
     exact ⟨by first | rfl | (simp [errW_none, errW_some] <;> rfl) | (simp only [← hji5, ← hji10]; first | rfl | (simp [errW_none, errW_some] <;> rfl)) | (simp [*, errW_none, errW_some] <;> rfl), (by first | exact (by (with_reducible repeat (first | apply WR_alloc | apply WR_drewN | apply WR_drew)); exact HO_0.out) | (simp only [hl0_2]; exact (by (with_reducible repeat (first | apply WR_alloc | apply WR_drewN | apply WR_drew)); exact HO_0.out))), bqs, kqs⟩
end Go.Proofs.YtinpcbjjnlpblaaGreatDoor
