import Derived.Test.YtinpcbjjnlpblaaGreatDoorAG1
import Derived.Test.YtinpcbjjnlpblaaGreatDoorAD
import Derived.Lib.ConvBytes
import Derived.Test.YtinpcbjjnlpblaaGreatDoorAG6
import Derived.Lib.AtoiErrMem
import Derived.Test.YtinpcbjjnlpblaaGreatDoorAG4
set_option maxHeartbeats 8000000
set_option maxRecDepth 100000
set_option linter.unusedVariables false
namespace Go.Proofs.YtinpcbjjnlpblaaGreatDoor
set_option linter.unusedVariables false
open Go.RowKit Go.Proofs.WWords Go.Proofs.WLast Go.Proofs.WMore PA
attribute [local go_sem] max2_int min2_int max_two min_two max_three min_three max_four min_four
set_option linter.unusedSimpArgs false
theorem rAminus.calls (k : Nat) (A0 : Option Addr) (c0 : Nat) (l0 : List Int) (A1 : Option Addr) (c1 : Nat) (l1 : List Int) (r : List Int) (w : World) (hr0 : Kd.C (Kd.int .u8) w A0 l0.length l0) (hc0 : l0.length ≤ c0) (hr1 : Kd.C (Kd.int .u8) w A1 l1.length l1) (hc1 : l1.length ≤ c1) (h : rAminus.f k l0 l1 = some r) :
  Calls Tryz.prog 127 #[.slice A0 l0.length c0, .slice A1 l1.length c1] w fun e w' => ∃ v0_ : Value, e = .returned (v0_) ∧ Kd.Q (Kd.int .u8) 5 w' w.heap.size (fun _ => True) v0_ r ∧ Below w.heap.size w w' := by
 have HR0 := Z0.mk hr0
 have HC0 := Z0.mk hc0
 clear hr0 hc0
 have HR1 := Z0.mk hr1
 have HC1 := Z0.mk hc1
 clear hr1 hc1
 have HB := Z0.mk (Below.refl w.heap.size w)
 have H := h
 clear h
 unfold rAminus.f at H
 obtain ⟨-, c3b0, c3b1, H⟩ := gt H
 obtain ⟨-, c4b0, c4b1, H⟩ := gt H
 obtain ⟨y140, hy140⟩ : ∃ y_ : List Int, y_ = (List.replicate ((l0.length : Int) : Int).toNat 0) := ⟨_, rfl⟩
 have hyl : y140.length = l0.length := by rw [hy140]; simp
 have hcp : l0.take (min l0.length y140.length) ++ y140.drop (min l0.length y140.length) = l0 := by rw [hyl, Nat.min_self, List.take_length, List.drop_eq_nil_of_le (by omega), List.append_nil]
 replace H : (rAminus.l0 k l1 l0 0 (y140.length : Int) 0) = some r := by rw [hyl]; exact H
 have HCP := Z0.mk hcp
 clear hcp hyl
 have Ny140 := Z0.mk hy140
 clear hy140
 have H' := Z0.mk H
 clear H
 go_enter Tryz.func127, Tryz.ntmps127
 go_wp2_with (first | ((with_reducible refine gd_ 12 rfl ?_); refine Kd.R_make (Kd.int .u8) _ 5 rfl (N := 12) rfl 55 _ _ rfl (l0.length : Int) rfl rfl Tryz.underlying55 (.int .u8 0) 1 info5 rfl (by decide) (by omega) 0 (ok := fun _ => True) (okp := fun _ => True) rfl (fun _ hk => hk) trivial od (Nat.le_trans (Nat.mul_le_mul_right _ (od : (l0.length : Int).toNat ≤ 281474976710656)) (by omega)) (Below.refl _ _) (Nat.le_refl _) ?_; intro v141 w5 ho6 hb hg_ hnew_; clear hg_ hnew_; (first | rw [← Ny140.out] at ho6 | (simp only [Int.reduceToNat] at ho6; rw [← Ny140.out] at ho6)); have HO142 := Z0.mk (Kd.R_lower ho6 (below_size bqs)); replace HB := fB HB hb; clear hb ho6; obtain ⟨Ao7, co7, eo7⟩ := Kd.R_slice HO142.out; subst eo7) | ((with_reducible refine gate_builtin (b := .copy) (xs := #[.tmp 13, .tmp 14]) rfl ?_); refine Kd.R_copy (0 : Int) (w0 := w) w.heap.size rfl (.tmp 13) (.tmp 14) 55 55 5 rfl Tryz.underlying55 (by kernel_rfl) (.slice Ao7 y140.length co7) y140 l0 A0 l0.length c0 (fun _ => True) rfl rfl HO142.out (Kd.C_below HR0.out HB.out) HB.out (below_size HB.out) ?_; intro w9 ho9 hb9 hg9; rw [HCP.out] at ho9; clear HB; clear HO142; have HB := Z0.mk hb9; have HO142 := Z0.mk ho9; clear ho9 hb9 hg9))
 go_loopg [6, 18] k (fun kq v6 v18 w' => ∃ (x5_1 : List Int) (x6_1 : Int) (x18_1 : Int), v6 = .int .u8 x6_1 ∧ v18 = .int .i64 x18_1 ∧ Z0 (rAminus.l0 kq l1 x5_1 x6_1 (y140.length : Int) x18_1 = some r) ∧ Z0 (kq ≤ k) ∧ Z0 (Kd.Q (Kd.int .u8) 5 w' w.heap.size (fun _ => True) (.slice Ao7 y140.length co7) x5_1) ∧ Z0 (Below w.heap.size w w'))
 case atStart => exact ⟨(l0), (0), (0), fs, fs, H', ⟨Nat.le_refl _⟩, ⟨Kd.Q_of_R (rq HO142)⟩, ⟨bqs⟩⟩
 case round =>
  clear H'
  try clear c1
  try clear p2
  try clear c3
  try clear c3b0
  try clear c3b1
  try clear c4
  try clear c4b0
  try clear c4b1
  obtain ⟨x5_1, x6_1, x18_1, rfl, rfl, HA, HK1, HO_5, HB⟩ := hrel
  have hl5_1 := (Kd.Q_reads' HO_5.out).1
  rw [hl5_1] at HO_5
  (try simp only [hl5_1])
  cases gk with
  | zero => exact absurd HA.out (by simp [rAminus.l0])
  | succ k1 =>
   have H := HA.out
   clear HA
   simp only [rAminus.l0] at H
   rcases jd H with ⟨c8, c8b0, H⟩ | ⟨c8, c8b0, H⟩
   ·(try (have c8b0_ := c8b0; rw [hl5_1] at c8b0_))
    clear c8
    rcases jd H with ⟨c9, c9b0, H⟩ | ⟨c9, c9b0, H⟩
    ·(try (have c9b0_ := c9b0; rw [hl5_1] at c9b0_))
     clear c9
     obtain ⟨ji10, hji10⟩ : ∃ j_ : Int, (wrap64 ((wrap64 ((l1.length : Int) - 1)) - x18_1)) = j_ := ⟨_, rfl⟩
     replace H : (if 0 ≤ (ji10) then (if (ji10) < (l1.length : Int) then (if 0 ≤ (wrap64 ((wrap64 ((x5_1.length : Int) - 1)) - x18_1)) then (if (wrap64 ((wrap64 ((x5_1.length : Int) - 1)) - x18_1)) < (x5_1.length : Int) then (if (rd x5_1 (wrap64 ((wrap64 ((x5_1.length : Int) - 1)) - x18_1))) < ((x6_1 + (rd l1 (ji10))) % 256) then ((some (x5_1.set ((wrap64 ((wrap64 ((x5_1.length : Int) - 1)) - x18_1)) : Int).toNat (((rd x5_1 (wrap64 ((wrap64 ((x5_1.length : Int) - 1)) - x18_1))) + 10) % 256) : List Int)).bind fun y146 => (rAminus.l0 k1 l1 (y146.set ((wrap64 ((wrap64 ((x5_1.length : Int) - 1)) - x18_1)) : Int).toNat (((rd y146 (wrap64 ((wrap64 ((x5_1.length : Int) - 1)) - x18_1))) - ((x6_1 + (rd l1 (ji10))) % 256)) % 256)) 1 (y140.length : Int) (wrap64 (x18_1 + 1)))) else (rAminus.l0 k1 l1 (x5_1.set ((wrap64 ((wrap64 ((x5_1.length : Int) - 1)) - x18_1)) : Int).toNat (((rd x5_1 (wrap64 ((wrap64 ((x5_1.length : Int) - 1)) - x18_1))) - ((x6_1 + (rd l1 (ji10))) % 256)) % 256)) 0 (y140.length : Int) (wrap64 (x18_1 + 1)))) else (none)) else (none)) else (none)) else (none)) = some r := by first | (rw [hji10] at H; exact H) | (simp only [hji10] at H ⊢; exact H)
     have hji10w : (IntKind.i64.wrap ((wrap64 ((l1.length : Int) - 1)) - x18_1)) = ji10 := (i64_w _).trans hji10
     obtain ⟨-, c11b0, H⟩ := gd H
     obtain ⟨c12, c12b0, H⟩ := gd H
     (try (have c12b0_ := c12b0; rw [hl5_1] at c12b0_))
     clear c12
     obtain ⟨ji13, hji13⟩ : ∃ j_ : Int, (wrap64 ((wrap64 ((x5_1.length : Int) - 1)) - x18_1)) = j_ := ⟨_, rfl⟩
     replace H : (if 0 ≤ (ji13) then (if (ji13) < (x5_1.length : Int) then (if (rd x5_1 (ji13)) < ((x6_1 + (rd l1 (ji10))) % 256) then ((some (x5_1.set ((ji13) : Int).toNat (((rd x5_1 (ji13)) + 10) % 256) : List Int)).bind fun y146 => (rAminus.l0 k1 l1 (y146.set ((ji13) : Int).toNat (((rd y146 (ji13)) - ((x6_1 + (rd l1 (ji10))) % 256)) % 256)) 1 (y140.length : Int) (wrap64 (x18_1 + 1)))) else (rAminus.l0 k1 l1 (x5_1.set ((ji13) : Int).toNat (((rd x5_1 (ji13)) - ((x6_1 + (rd l1 (ji10))) % 256)) % 256)) 0 (y140.length : Int) (wrap64 (x18_1 + 1)))) else (none)) else (none)) = some r := by first | (rw [hji13] at H; exact H) | (simp only [hji13] at H ⊢; exact H)
     have hji13w : (IntKind.i64.wrap ((wrap64 ((x5_1.length : Int) - 1)) - x18_1)) = ji13 := (i64_w _).trans hji13
     obtain ⟨-, c14b0, H⟩ := gd H
     obtain ⟨c15, c15b0, H⟩ := gd H
     (try (have c15b0_ := c15b0; rw [hl5_1] at c15b0_))
     clear c15
     rcases jd H with ⟨-, c16b0, H⟩ | ⟨-, c16b0, H⟩
     ·obtain ⟨y146, hy146⟩ : ∃ y_ : List Int, y_ = (x5_1.set ((ji13) : Int).toNat (((rd x5_1 (ji13)) + 10) % 256)) := ⟨_, rfl⟩
      replace H : (rAminus.l0 k1 l1 (y146.set ((ji13) : Int).toNat (((rd y146 (ji13)) - ((x6_1 + (rd l1 (ji10))) % 256)) % 256)) 1 (y140.length : Int) (wrap64 (x18_1 + 1))) = some r := by first | (rw [hy146]; with_reducible exact H) | (have H2_ := (Option.bind_some _ _).symm.trans H; rw [hy146]; with_reducible exact H2_) | (have H2_ := (Option.bind_some _ _).symm.trans H; with_reducible exact H2_) | with_reducible exact H | (rw [hy146]; exact H) | exact H
      have Ny146 := Z0.mk hy146
      clear hy146
      generalize hy148 : (y146.set ((ji13) : Int).toNat (((rd y146 (ji13)) - ((x6_1 + (rd l1 (ji10))) % 256)) % 256) : List Int) = y148 at H
      have Ny148 := Z0.mk hy148.symm
      clear hy148
      have H' := Z0.mk H
      clear H
      obtain ⟨ad143, e143, hx143_0, p143, q143⟩ := atB HB HR1.out (ji10)
      cases e143
      obtain ⟨ad144, e144, hx144_0, p144, q144⟩ := atI (Kd.Q_reads' HO_5.out).2.2 (ji13)
      cases e144
      obtain ⟨ad145, e145, hx145_0, p145, q145⟩ := atI (Kd.Q_reads' HO_5.out).2.2 (ji13)
      obtain rfl : ad144 = ad145 := (by injection e145)
      have p17 : 0 ≤ ((ji13) : Int) := od
      have q17 : ((ji13) : Int) < ((x5_1.length : Int) : Int) := od
      obtain ⟨go17, oo17, co17, eo17, gb17, gl17, cl17, HG17⟩ := Kd.Q_form HO_5.out (by omega)
      (first | cases eo17 | (injection eo17 with ea_ en_ ec_; (first | subst ea_ | (injection ea_ with ea_; subst ea_)); subst ec_; clear en_))
      have GB17 := Z0.mk gb17
      have GG17 := Z0.mk HG17
      clear gb17 gl17 HG17
      (first | simp only [add_at] at hx144_0 | skip)
      (first | simp only [add_at] at hx145_0 | skip)
      obtain ⟨hx17_0, hf17_0⟩ := Kd.Q_cell 0 HO_5.out ((ji13) : Int) p17 q17
      replace p17 := eq_true p17
      replace q17 := eq_true q17
      have HP19 := Kd.Q_putg HO_5.out ((ji13) : Int) od (by have h_ : ((ji13) : Int) < ((x5_1.length : Int) : Int) := od; first | exact h_ | (have e_ := (Kd.Q_reads' HO_5.out).1; omega) | simpa using h_) (((rd x5_1 (ji13)) + 10) % 256)
      go_wp2_with (first | ((with_reducible refine gate_store (t := 5) (p := 54) rfl ?_); refine store_event (t := 5) (p := 54) (v := ?vo_w20) (w1 := (wr.setCell ⟨go17, oo17 + ((ji13) : Int).toNat, none⟩ (.int .u8 (((rd x5_1 (ji13)) + 10) % 256)))) ?hg ?ho ?hn ?hr ?_; (case ho => rfl); (case hg => rfl); (case hn => rfl); (case hr => first | (go_simp; done) | (go_simp; rfl)); intro w20 hw; have hg : wr.grownBy w20 (some go17) := (by rw [hw]; exact HP19.2); have hp_ : Kd.Q (Kd.int .u8) 5 w20 w.heap.size (fun _ => True) (.slice (some ⟨go17, oo17, none⟩) x5_1.length co7) y146 := (by rw [hw, Ny146.out]; exact HP19.1); clear HP19; replace HO_5 := Z0.mk (hp_); replace HB := Z0.mk ((by rw [hw]; exact below_set (HB.out) GB17.out : Below w.heap.size w w20)); clear hg hw hp_; have p147 : 0 ≤ ((ji13) : Int) := od; have q147 : (ji13) < (y146.length : Int) := (by have h_ : ((ji13) : Int) < ((x5_1.length : Int) : Int) := od; first | (have e_ := (Kd.Q_reads' HO_5.out).1; omega) | simpa only [Ny146.out, List.length_set] using h_); have ql147 : (((ji13) : Int) < ((x5_1.length : Int) : Int)) = True := eq_true od; obtain ⟨ad147, e147, hx147_0⟩ := Kd.at_int (Kd.Q_reads' HO_5.out).2.2 (ji13) p147 q147; obtain rfl : (⟨go17, oo17, none⟩ : Addr) = ad147 := (by injection e147); (first | simp only [add_plain] at hx147_0 | simp only [add_at] at hx147_0 | simp only [Addr.add, Nat.zero_add] at hx147_0 | skip); replace p147 := eq_true p147; replace q147 := eq_true q147; have p18 : 0 ≤ ((ji13) : Int) := od; have q18 : ((ji13) : Int) < ((x5_1.length : Int) : Int) := od; obtain ⟨hx18_0, hf18_0⟩ := Kd.Q_cell 0 HO_5.out ((ji13) : Int) p18 q18; replace p18 := eq_true p18; replace q18 := eq_true q18; obtain ⟨hy21_, hz21_⟩ := Kd.Q_cell 0 HO_5.out ((ji13) : Int) od od; have HP21 := Kd.Q_putg HO_5.out ((ji13) : Int) od (by have h_ : ((ji13) : Int) < ((x5_1.length : Int) : Int) := od; first | exact h_ | (have e_ := (Kd.Q_reads' HO_5.out).1; omega) | simpa using h_) (((rd y146 (ji13)) - ((x6_1 + (rd l1 (ji10))) % 256)) % 256)) | ((with_reducible refine gate_store (t := 5) (p := 61) rfl ?_); refine store_event (t := 5) (p := 61) (v := ?vo_w22) (w1 := (w20.setCell ⟨go17, oo17 + ((ji13) : Int).toNat, none⟩ (.int .u8 (((rd y146 (ji13)) - ((x6_1 + (rd l1 (ji10))) % 256)) % 256)))) ?hg ?ho ?hn ?hr ?_; (case ho => rfl); (case hg => rfl); (case hn => rfl); (case hr => first | (go_simp; done) | (go_simp; rfl)); intro w22 hw; have hg : w20.grownBy w22 (some go17) := (by rw [hw]; exact HP21.2); have hp_ : Kd.Q (Kd.int .u8) 5 w22 w.heap.size (fun _ => True) (.slice (some ⟨go17, oo17, none⟩) x5_1.length co7) y148 := (by rw [hw, Ny148.out]; exact HP21.1); clear HP21; replace HO_5 := Z0.mk (hp_); replace HB := Z0.mk ((by rw [hw]; exact below_set (HB.out) GB17.out : Below w.heap.size w w22)); clear hg hw hp_))
      (try simp only [← hl5_1])
      go_roundg k1
      case measure => have := HK1.out; omega
      case rel => exact ⟨(y148), (1), (wrap64 (x18_1 + 1)), fs, fs, H', ⟨by have := HK1.out; omega⟩, ⟨by (try simp only [hl5_1]); (with_reducible repeat (first | apply Kd.Q_alloc | apply Kd.Q_drewN | apply Kd.Q_drew)); exact HO_5.out⟩, ⟨bqs⟩⟩
     obtain ⟨y150, hy150⟩ : ∃ y_ : List Int, y_ = (x5_1.set ((ji13) : Int).toNat (((rd x5_1 (ji13)) - ((x6_1 + (rd l1 (ji10))) % 256)) % 256)) := ⟨_, rfl⟩
     replace H : (rAminus.l0 k1 l1 y150 0 (y140.length : Int) (wrap64 (x18_1 + 1))) = some r := by first | (rw [hy150]; with_reducible exact H) | (have H2_ := (Option.bind_some _ _).symm.trans H; rw [hy150]; with_reducible exact H2_) | (have H2_ := (Option.bind_some _ _).symm.trans H; with_reducible exact H2_) | with_reducible exact H | (rw [hy150]; exact H) | exact H
     have Ny150 := Z0.mk hy150
     clear hy150
     have H' := Z0.mk H
     clear H
     obtain ⟨ad143, e143, hx143_0, p143, q143⟩ := atB HB HR1.out (ji10)
     cases e143
     obtain ⟨ad144, e144, hx144_0, p144, q144⟩ := atI (Kd.Q_reads' HO_5.out).2.2 (ji13)
     cases e144
     obtain ⟨ad149, e149, hx149_0, p149, q149⟩ := atI (Kd.Q_reads' HO_5.out).2.2 (ji13)
     obtain rfl : ad144 = ad149 := (by injection e149)
     have p23 : 0 ≤ ((ji13) : Int) := od
     have q23 : ((ji13) : Int) < ((x5_1.length : Int) : Int) := od
     obtain ⟨go23, oo23, co23, eo23, gb23, gl23, cl23, HG23⟩ := Kd.Q_form HO_5.out (by omega)
     (first | cases eo23 | (injection eo23 with ea_ en_ ec_; (first | subst ea_ | (injection ea_ with ea_; subst ea_)); subst ec_; clear en_))
     have GB23 := Z0.mk gb23
     have GG23 := Z0.mk HG23
     clear gb23 gl23 HG23
     (first | simp only [add_at] at hx144_0 | skip)
     (first | simp only [add_at] at hx149_0 | skip)
     obtain ⟨hx23_0, hf23_0⟩ := Kd.Q_cell 0 HO_5.out ((ji13) : Int) p23 q23
     replace p23 := eq_true p23
     replace q23 := eq_true q23
     have HP24 := Kd.Q_putg HO_5.out ((ji13) : Int) od (by have h_ : ((ji13) : Int) < ((x5_1.length : Int) : Int) := od; first | exact h_ | (have e_ := (Kd.Q_reads' HO_5.out).1; omega) | simpa using h_) (((rd x5_1 (ji13)) - ((x6_1 + (rd l1 (ji10))) % 256)) % 256)
     go_wp2_with (first | ((with_reducible refine gate_store (t := 5) (p := 61) rfl ?_); refine store_event (t := 5) (p := 61) (v := ?vo_w25) (w1 := (wr.setCell ⟨go23, oo23 + ((ji13) : Int).toNat, none⟩ (.int .u8 (((rd x5_1 (ji13)) - ((x6_1 + (rd l1 (ji10))) % 256)) % 256)))) ?hg ?ho ?hn ?hr ?_; (case ho => rfl); (case hg => rfl); (case hn => rfl); (case hr => first | (go_simp; done) | (go_simp; rfl)); intro w25 hw; have hg : wr.grownBy w25 (some go23) := (by rw [hw]; exact HP24.2); have hp_ : Kd.Q (Kd.int .u8) 5 w25 w.heap.size (fun _ => True) (.slice (some ⟨go23, oo23, none⟩) x5_1.length co7) y150 := (by rw [hw, Ny150.out]; exact HP24.1); clear HP24; replace HO_5 := Z0.mk (hp_); replace HB := Z0.mk ((by rw [hw]; exact below_set (HB.out) GB23.out : Below w.heap.size w w25)); clear hg hw hp_))
     (try simp only [← hl5_1])
     go_roundg k1
     case measure => have := HK1.out; omega
     case rel => exact ⟨(y150), (0), (wrap64 (x18_1 + 1)), fs, fs, H', ⟨by have := HK1.out; omega⟩, ⟨by (try simp only [hl5_1]); (with_reducible repeat (first | apply Kd.Q_alloc | apply Kd.Q_drewN | apply Kd.Q_drew)); exact HO_5.out⟩, ⟨bqs⟩⟩
    (try (have c9b0_ := c9b0; rw [hl5_1] at c9b0_))
    clear c9
    obtain ⟨ji26, hji26⟩ : ∃ j_ : Int, (wrap64 ((wrap64 ((x5_1.length : Int) - 1)) - x18_1)) = j_ := ⟨_, rfl⟩
    replace H : (if 0 ≤ (ji26) then (if (ji26) < (x5_1.length : Int) then (if (rd x5_1 (ji26)) < x6_1 then ((some (x5_1.set ((ji26) : Int).toNat (((rd x5_1 (ji26)) + 10) % 256) : List Int)).bind fun y153 => (rAminus.l0 k1 l1 (y153.set ((ji26) : Int).toNat (((rd y153 (ji26)) - x6_1) % 256)) 1 (y140.length : Int) (wrap64 (x18_1 + 1)))) else (rAminus.l0 k1 l1 (x5_1.set ((ji26) : Int).toNat (((rd x5_1 (ji26)) - x6_1) % 256)) 0 (y140.length : Int) (wrap64 (x18_1 + 1)))) else (none)) else (none)) = some r := by first | (rw [hji26] at H; exact H) | (simp only [hji26] at H ⊢; exact H)
    have hji26w : (IntKind.i64.wrap ((wrap64 ((x5_1.length : Int) - 1)) - x18_1)) = ji26 := (i64_w _).trans hji26
    obtain ⟨-, c27b0, H⟩ := gd H
    obtain ⟨c28, c28b0, H⟩ := gd H
    (try (have c28b0_ := c28b0; rw [hl5_1] at c28b0_))
    clear c28
    rcases jd H with ⟨-, c29b0, H⟩ | ⟨-, c29b0, H⟩
    ·obtain ⟨y153, hy153⟩ : ∃ y_ : List Int, y_ = (x5_1.set ((ji26) : Int).toNat (((rd x5_1 (ji26)) + 10) % 256)) := ⟨_, rfl⟩
     replace H : (rAminus.l0 k1 l1 (y153.set ((ji26) : Int).toNat (((rd y153 (ji26)) - x6_1) % 256)) 1 (y140.length : Int) (wrap64 (x18_1 + 1))) = some r := by first | (rw [hy153]; with_reducible exact H) | (have H2_ := (Option.bind_some _ _).symm.trans H; rw [hy153]; with_reducible exact H2_) | (have H2_ := (Option.bind_some _ _).symm.trans H; with_reducible exact H2_) | with_reducible exact H | (rw [hy153]; exact H) | exact H
     have Ny153 := Z0.mk hy153
     clear hy153
     generalize hy155 : (y153.set ((ji26) : Int).toNat (((rd y153 (ji26)) - x6_1) % 256) : List Int) = y155 at H
     have Ny155 := Z0.mk hy155.symm
     clear hy155
     have H' := Z0.mk H
     clear H
     obtain ⟨ad151, e151, hx151_0, p151, q151⟩ := atI (Kd.Q_reads' HO_5.out).2.2 (ji26)
     cases e151
     obtain ⟨ad152, e152, hx152_0, p152, q152⟩ := atI (Kd.Q_reads' HO_5.out).2.2 (ji26)
     obtain rfl : ad151 = ad152 := (by injection e152)
     have p30 : 0 ≤ ((ji26) : Int) := od
     have q30 : ((ji26) : Int) < ((x5_1.length : Int) : Int) := od
     obtain ⟨go30, oo30, co30, eo30, gb30, gl30, cl30, HG30⟩ := Kd.Q_form HO_5.out (by omega)
     (first | cases eo30 | (injection eo30 with ea_ en_ ec_; (first | subst ea_ | (injection ea_ with ea_; subst ea_)); subst ec_; clear en_))
     have GB30 := Z0.mk gb30
     have GG30 := Z0.mk HG30
     clear gb30 gl30 HG30
     (first | simp only [add_at] at hx151_0 | skip)
     (first | simp only [add_at] at hx152_0 | skip)
     obtain ⟨hx30_0, hf30_0⟩ := Kd.Q_cell 0 HO_5.out ((ji26) : Int) p30 q30
     replace p30 := eq_true p30
     replace q30 := eq_true q30
     have HP32 := Kd.Q_putg HO_5.out ((ji26) : Int) od (by have h_ : ((ji26) : Int) < ((x5_1.length : Int) : Int) := od; first | exact h_ | (have e_ := (Kd.Q_reads' HO_5.out).1; omega) | simpa using h_) (((rd x5_1 (ji26)) + 10) % 256)
     go_wp2_with (first | ((with_reducible refine gate_store (t := 5) (p := 54) rfl ?_); refine store_event (t := 5) (p := 54) (v := ?vo_w33) (w1 := (wr.setCell ⟨go30, oo30 + ((ji26) : Int).toNat, none⟩ (.int .u8 (((rd x5_1 (ji26)) + 10) % 256)))) ?hg ?ho ?hn ?hr ?_; (case ho => rfl); (case hg => rfl); (case hn => rfl); (case hr => first | (go_simp; done) | (go_simp; rfl)); intro w33 hw; have hg : wr.grownBy w33 (some go30) := (by rw [hw]; exact HP32.2); have hp_ : Kd.Q (Kd.int .u8) 5 w33 w.heap.size (fun _ => True) (.slice (some ⟨go30, oo30, none⟩) x5_1.length co7) y153 := (by rw [hw, Ny153.out]; exact HP32.1); clear HP32; replace HO_5 := Z0.mk (hp_); replace HB := Z0.mk ((by rw [hw]; exact below_set (HB.out) GB30.out : Below w.heap.size w w33)); clear hg hw hp_; have p154 : 0 ≤ ((ji26) : Int) := od; have q154 : (ji26) < (y153.length : Int) := (by have h_ : ((ji26) : Int) < ((x5_1.length : Int) : Int) := od; first | (have e_ := (Kd.Q_reads' HO_5.out).1; omega) | simpa only [Ny153.out, List.length_set] using h_); have ql154 : (((ji26) : Int) < ((x5_1.length : Int) : Int)) = True := eq_true od; obtain ⟨ad154, e154, hx154_0⟩ := Kd.at_int (Kd.Q_reads' HO_5.out).2.2 (ji26) p154 q154; obtain rfl : (⟨go30, oo30, none⟩ : Addr) = ad154 := (by injection e154); (first | simp only [add_plain] at hx154_0 | simp only [add_at] at hx154_0 | simp only [Addr.add, Nat.zero_add] at hx154_0 | skip); replace p154 := eq_true p154; replace q154 := eq_true q154; have p31 : 0 ≤ ((ji26) : Int) := od; have q31 : ((ji26) : Int) < ((x5_1.length : Int) : Int) := od; obtain ⟨hx31_0, hf31_0⟩ := Kd.Q_cell 0 HO_5.out ((ji26) : Int) p31 q31; replace p31 := eq_true p31; replace q31 := eq_true q31; obtain ⟨hy34_, hz34_⟩ := Kd.Q_cell 0 HO_5.out ((ji26) : Int) od od; have HP34 := Kd.Q_putg HO_5.out ((ji26) : Int) od (by have h_ : ((ji26) : Int) < ((x5_1.length : Int) : Int) := od; first | exact h_ | (have e_ := (Kd.Q_reads' HO_5.out).1; omega) | simpa using h_) (((rd y153 (ji26)) - x6_1) % 256)) | ((with_reducible refine gate_store (t := 5) (p := 61) rfl ?_); refine store_event (t := 5) (p := 61) (v := ?vo_w35) (w1 := (w33.setCell ⟨go30, oo30 + ((ji26) : Int).toNat, none⟩ (.int .u8 (((rd y153 (ji26)) - x6_1) % 256)))) ?hg ?ho ?hn ?hr ?_; (case ho => rfl); (case hg => rfl); (case hn => rfl); (case hr => first | (go_simp; done) | (go_simp; rfl)); intro w35 hw; have hg : w33.grownBy w35 (some go30) := (by rw [hw]; exact HP34.2); have hp_ : Kd.Q (Kd.int .u8) 5 w35 w.heap.size (fun _ => True) (.slice (some ⟨go30, oo30, none⟩) x5_1.length co7) y155 := (by rw [hw, Ny155.out]; exact HP34.1); clear HP34; replace HO_5 := Z0.mk (hp_); replace HB := Z0.mk ((by rw [hw]; exact below_set (HB.out) GB30.out : Below w.heap.size w w35)); clear hg hw hp_))
     (try simp only [← hl5_1])
     go_roundg k1
     case measure => have := HK1.out; omega
     case rel => exact ⟨(y155), (1), (wrap64 (x18_1 + 1)), fs, fs, H', ⟨by have := HK1.out; omega⟩, ⟨by (try simp only [hl5_1]); (with_reducible repeat (first | apply Kd.Q_alloc | apply Kd.Q_drewN | apply Kd.Q_drew)); exact HO_5.out⟩, ⟨bqs⟩⟩
    obtain ⟨y157, hy157⟩ : ∃ y_ : List Int, y_ = (x5_1.set ((ji26) : Int).toNat (((rd x5_1 (ji26)) - x6_1) % 256)) := ⟨_, rfl⟩
    replace H : (rAminus.l0 k1 l1 y157 0 (y140.length : Int) (wrap64 (x18_1 + 1))) = some r := by first | (rw [hy157]; with_reducible exact H) | (have H2_ := (Option.bind_some _ _).symm.trans H; rw [hy157]; with_reducible exact H2_) | (have H2_ := (Option.bind_some _ _).symm.trans H; with_reducible exact H2_) | with_reducible exact H | (rw [hy157]; exact H) | exact H
    have Ny157 := Z0.mk hy157
    clear hy157
    have H' := Z0.mk H
    clear H
    obtain ⟨ad151, e151, hx151_0, p151, q151⟩ := atI (Kd.Q_reads' HO_5.out).2.2 (ji26)
    cases e151
    obtain ⟨ad156, e156, hx156_0, p156, q156⟩ := atI (Kd.Q_reads' HO_5.out).2.2 (ji26)
    obtain rfl : ad151 = ad156 := (by injection e156)
    have p36 : 0 ≤ ((ji26) : Int) := od
    have q36 : ((ji26) : Int) < ((x5_1.length : Int) : Int) := od
    obtain ⟨go36, oo36, co36, eo36, gb36, gl36, cl36, HG36⟩ := Kd.Q_form HO_5.out (by omega)
    (first | cases eo36 | (injection eo36 with ea_ en_ ec_; (first | subst ea_ | (injection ea_ with ea_; subst ea_)); subst ec_; clear en_))
    have GB36 := Z0.mk gb36
    have GG36 := Z0.mk HG36
    clear gb36 gl36 HG36
    (first | simp only [add_at] at hx151_0 | skip)
    (first | simp only [add_at] at hx156_0 | skip)
    obtain ⟨hx36_0, hf36_0⟩ := Kd.Q_cell 0 HO_5.out ((ji26) : Int) p36 q36
    replace p36 := eq_true p36
    replace q36 := eq_true q36
    have HP37 := Kd.Q_putg HO_5.out ((ji26) : Int) od (by have h_ : ((ji26) : Int) < ((x5_1.length : Int) : Int) := od; first | exact h_ | (have e_ := (Kd.Q_reads' HO_5.out).1; omega) | simpa using h_) (((rd x5_1 (ji26)) - x6_1) % 256)
    go_wp2_with (first | ((with_reducible refine gate_store (t := 5) (p := 61) rfl ?_); refine store_event (t := 5) (p := 61) (v := ?vo_w38) (w1 := (wr.setCell ⟨go36, oo36 + ((ji26) : Int).toNat, none⟩ (.int .u8 (((rd x5_1 (ji26)) - x6_1) % 256)))) ?hg ?ho ?hn ?hr ?_; (case ho => rfl); (case hg => rfl); (case hn => rfl); (case hr => first | (go_simp; done) | (go_simp; rfl)); intro w38 hw; have hg : wr.grownBy w38 (some go36) := (by rw [hw]; exact HP37.2); have hp_ : Kd.Q (Kd.int .u8) 5 w38 w.heap.size (fun _ => True) (.slice (some ⟨go36, oo36, none⟩) x5_1.length co7) y157 := (by rw [hw, Ny157.out]; exact HP37.1); clear HP37; replace HO_5 := Z0.mk (hp_); replace HB := Z0.mk ((by rw [hw]; exact below_set (HB.out) GB36.out : Below w.heap.size w w38)); clear hg hw hp_))
    (try simp only [← hl5_1])
    go_roundg k1
    case measure => have := HK1.out; omega
    case rel => exact ⟨(y157), (0), (wrap64 (x18_1 + 1)), fs, fs, H', ⟨by have := HK1.out; omega⟩, ⟨by (try simp only [hl5_1]); (with_reducible repeat (first | apply Kd.Q_alloc | apply Kd.Q_drewN | apply Kd.Q_drew)); exact HO_5.out⟩, ⟨bqs⟩⟩
   (try (have c8b0_ := c8b0; rw [hl5_1] at c8b0_))
   clear c8
   have H' := Z0.mk H
   clear H
   go_wp2
   go_loopg [5] k1 (fun kq v5 w' => ∃ (x5_2 : List Int), Z0 (rAminus.l1 kq x5_2 = some r) ∧ Z0 (kq ≤ k1) ∧ Z0 (Kd.Q (Kd.int .u8) 5 w' w.heap.size (fun _ => True) v5 x5_2) ∧ Z0 (Below w.heap.size w w'))
   case atStart => exact ⟨(x5_1), H', ⟨Nat.le_refl _⟩, ⟨by (try simp only [hl5_1]); (with_reducible repeat (first | apply Kd.Q_alloc | apply Kd.Q_drewN | apply Kd.Q_drew)); exact HO_5.out⟩, ⟨bqs⟩⟩
   case round =>
    clear H'
    try clear c1
    try clear p1
    try clear q1
    try clear hx1
    try clear c2
    try clear p2
    try clear q2
    try clear hx2
    try clear hf2
    try clear c3
    try clear c3b0
    try clear c3b1
    try clear p3
    try clear q3
    try clear hx3
    try clear hf3
    try clear c4
    try clear c4b0
    try clear c4b1
    try clear p6
    try clear c8
    try clear c8b0
    try clear c9
    try clear c9b0
    try clear c11
    try clear c11b0
    try clear c12
    try clear c12b0
    try clear c14
    try clear c14b0
    try clear p14
    try clear q14
    try clear hx14
    try clear c15
    try clear c15b0
    try clear p15
    try clear q15
    try clear hx15
    try clear c16
    try clear c16b0
    try clear p17
    try clear q17
    try clear hx17
    try clear hf17
    try clear p18
    try clear q18
    try clear hx18
    try clear hf18
    try clear p23
    try clear q23
    try clear hx23
    try clear hf23
    try clear c27
    try clear c27b0
    try clear c28
    try clear c28b0
    try clear c29
    try clear c29b0
    try clear p30
    try clear q30
    try clear hx30
    try clear hf30
    try clear p31
    try clear q31
    try clear hx31
    try clear hf31
    try clear p36
    try clear q36
    try clear hx36
    try clear hf36
    try clear hx143_0
    try clear hx144_0
    try clear hx145_0
    try clear hx147_0
    try clear hx149_0
    try clear hx151_0
    try clear hx152_0
    try clear hx154_0
    try clear hx156_0
    try clear hx17_0
    try clear hx18_0
    try clear hx23_0
    try clear hx30_0
    try clear hx31_0
    try clear hx36_0
    try clear p143
    try clear p144
    try clear p145
    try clear p147
    try clear p149
    try clear p151
    try clear p152
    try clear p154
    try clear p156
    try clear p17
    try clear p18
    try clear p2
    try clear p23
    try clear p30
    try clear p31
    try clear p36
    try clear q143
    try clear q144
    try clear q145
    try clear q147
    try clear q149
    try clear q151
    try clear q152
    try clear q154
    try clear q156
    try clear q17
    try clear q18
    try clear q23
    try clear q30
    try clear q31
    try clear q36
    obtain ⟨x5_2, HA, HK2, HO_5, HB⟩ := hrel
    cases gk with
    | zero => exact absurd HA.out (by simp [rAminus.l1])
    | succ k2 =>
     have H := HA.out
     clear HA
     simp only [rAminus.l1] at H
     rcases jg H with ⟨c39, c39b0, H⟩ | ⟨c39, c39b0, H⟩
     ·(try (have c39b0_ := c39b0; rw [hl5_1] at c39b0_))
      have c39b1 : decide (0 < x5_2.length) = true := decide_eq_true (by omega)
      (try (have c39b1_ := c39b1; rw [hl5_1] at c39b1_))
      clear c39
      obtain ⟨c40, c40b0, H⟩ := gd H
      (try (have c40b0_ := c40b0; rw [hl5_1] at c40b0_))
      have c40b1 : decide (0 < x5_2.length) = true := decide_eq_true (by omega)
      (try (have c40b1_ := c40b1; rw [hl5_1] at c40b1_))
      clear c40
      rcases je H with ⟨-, c41b0, c41b1, H⟩ | ⟨c41, c41b0, c41b1, H⟩
      ·obtain ⟨c42, c42b0, c42b1, H⟩ := gt H
       (try (have c42b1_ := c42b1; rw [hl5_1] at c42b1_))
       clear c42
       generalize hy159 : (x5_2.drop (1 : Int).toNat : List Int) = y159 at H
       have Ny159 := Z0.mk hy159.symm
       clear hy159
       have H' := Z0.mk H
       clear H
       obtain ⟨Ao43, co43, eo43, _⟩ := Kd.Q_slice HO_5.out
       subst eo43
       have p158 : 0 ≤ (0 : Int) := (by omega)
       have q158 : 0 < (x5_2.length : Int) := od
       obtain ⟨ad158, e158, hx158_0⟩ := Kd.at_int (Kd.Q_reads' HO_5.out).2.2 0 p158 q158
       cases e158
       have qi158 : (0 < x5_2.length) = True := eq_true (by omega)
       (try rw [show ((0 : Int)).toNat = 0 from rfl] at hx158_0)
       (try rw [Addr.add_zero'] at hx158_0)
       replace p158 := eq_true p158
       replace q158 := eq_true q158
       have q44 : (1 : Int) ≤ ((x5_2.length : Int) : Int) := od
       obtain ⟨i044, hi044, _, hsz44, _⟩ := info_parts info5
       have hcut44 := cut_from (P := Tryz.prog) 55 5 .i64 Tryz.underlying55 hi044 1 hsz44 (some ad158) x5_2.length co43 1 (by omega) q44
       have hr44 := Kd.Q_drop (k := (1 : Int).toNat) HO_5.out (by omega)
       obtain ⟨A44, hA44⟩ : ∃ A1, A1 = (if co43 = (1 : Int).toNat then (some ad158) else ((some ad158) : Option Addr).map (·.add ((1 : Int).toNat * 1))) := ⟨_, rfl⟩
       obtain ⟨c44, hc44⟩ : ∃ c1, c1 = co43 - (1 : Int).toNat := ⟨_, rfl⟩
       have hy44 : y159.length = x5_2.length - (1 : Int).toNat := (by rw [Ny159.out, List.length_drop])
       rw [← Ny159.out] at hr44
       rw [← hy44, ← hA44, ← hc44] at hcut44
       replace hr44 : Kd.Q (Kd.int .u8) 5 wr w.heap.size (fun _ => True) (.slice A44 y159.length c44) y159 := (by rw [hA44, hc44, hy44]; exact hr44)
       have HE44 : Z0 ((Value.slice A44 y159.length c44).ownBlock = (.slice (some ad158) x5_2.length co43 : Value).ownBlock) := ⟨by rw [hA44]; split <;> (cases ((some ad158) : Option Addr) <;> rfl)⟩
       clear hy44 hi044 hsz44 HO_5 hA44 hc44
       have HO161 := Z0.mk hr44
       clear hr44
       replace q44 := eq_true q44
       go_wp2
       go_roundg k2
       case measure => have := HK1.out; have := HK2.out; omega
       case rel => exact ⟨(y159), H', ⟨by have := HK1.out; have := HK2.out; omega⟩, ⟨by (try simp only [hl5_1]); (with_reducible repeat (first | apply Kd.Q_alloc | apply Kd.Q_drewN | apply Kd.Q_drew)); exact HO161.out⟩, ⟨bqs⟩⟩
      obtain rfl := Option.some.inj H
      obtain ⟨Ao45, co45, eo45, _⟩ := Kd.Q_slice HO_5.out
      subst eo45
      have p158 : 0 ≤ (0 : Int) := (by omega)
      have q158 : 0 < (x5_2.length : Int) := od
      obtain ⟨ad158, e158, hx158_0⟩ := Kd.at_int (Kd.Q_reads' HO_5.out).2.2 0 p158 q158
      cases e158
      have qi158 : (0 < x5_2.length) = True := eq_true (by omega)
      (try rw [show ((0 : Int)).toNat = 0 from rfl] at hx158_0)
      (try rw [Addr.add_zero'] at hx158_0)
      replace p158 := eq_true p158
      replace q158 := eq_true q158
      go_wp2
      go_ret
      exact ⟨_, fe, by (with_reducible repeat (first | apply Kd.Q_alloc | apply Kd.Q_drewN | apply Kd.Q_drew)); exact HO_5.out, bqs⟩
     (try (have c39b0_ := c39b0; rw [hl5_1] at c39b0_))
     have c39b1 : decide (0 < x5_2.length) = false := decide_eq_false (by omega)
     (try (have c39b1_ := c39b1; rw [hl5_1] at c39b1_))
     clear c39
     obtain rfl := Option.some.inj H
     obtain ⟨Ao46, co46, eo46, _⟩ := Kd.Q_slice HO_5.out
     subst eo46
     go_wp2
     go_ret
     exact ⟨_, fe, by (with_reducible repeat (first | apply Kd.Q_alloc | apply Kd.Q_drewN | apply Kd.Q_drew)); exact HO_5.out, bqs⟩
end Go.Proofs.YtinpcbjjnlpblaaGreatDoor
namespace Go.Proofs.YtinpcbjjnlpblaaGreatDoor.PA
set_option linter.unusedVariables false
open Go.RowKit Go.Proofs.WWords Go.Proofs.WLast Go.Proofs.WMore
attribute [local go_sem] max2_int min2_int max_two min_two max_three min_three max_four min_four
set_option linter.unusedSimpArgs false
theorem rArest.calls (k : Nat) (A0 : Option Addr) (c0 : Nat) (l0 : List Int) (A1 : Option Addr) (c1 : Nat) (l1 : List Int) (r : List Int) (w : World) (hr0 : Kd.C (Kd.int .u8) w A0 l0.length l0) (hc0 : l0.length ≤ c0) (hr1 : Kd.C (Kd.int .u8) w A1 l1.length l1) (hc1 : l1.length ≤ c1) (h : rArest.f k l0 l1 = some r) :
  Calls Tryz.prog 93 #[.slice A0 l0.length c0, .slice A1 l1.length c1] w fun e w' => ∃ v0_ : Value, e = .returned (v0_) ∧ Kd.Q (Kd.int .u8) 5 w' w.heap.size (fun _ => True) v0_ r ∧ Below w.heap.size w w' := by
 have HR0 := Z0.mk hr0
 have HC0 := Z0.mk hc0
 clear hr0 hc0
 have HR1 := Z0.mk hr1
 have HC1 := Z0.mk hc1
 clear hr1 hc1
 have HB := Z0.mk (Below.refl w.heap.size w)
 have H := h
 clear h
 unfold rArest.f at H
 have H' := Z0.mk H
 clear H
 go_enter Tryz.func93, Tryz.ntmps93
 go_wp2
 go_loopg [5, 10] k (fun kq v5 v10 w' => ∃ (x5_1 : List Int) (x10_1 : Int), v10 = .int .i64 x10_1 ∧ Z0 (rArest.l0 kq l1 x5_1 l0 (l0.length : Int) x10_1 = some r) ∧ Z0 (kq ≤ k) ∧ Z0 (Kd.Q (Kd.int .u8) 5 w' w.heap.size (fun _ => True) v5 x5_1) ∧ Z0 (Below w.heap.size w w'))
 case atStart => exact ⟨(([] : List Int)), (0), fs, H', ⟨Nat.le_refl _⟩, ⟨Kd.Q_of_R (by first | exact Kd.R_nil _ _ _ _ _ | exact Kd.N_nil _ _ _ _ _ | exact Kd.V_nil _ _ _ _ _ | exact Kd.Q_nil _ _ _ _ _ | exact Kd.S_nil _ _ _ _ _)⟩, ⟨bqs⟩⟩
 case round =>
  clear H'
  try clear c1
  try clear p2
  obtain ⟨x5_1, x10_1, rfl, HA, HK1, HO_5, HB⟩ := hrel
  cases gk with
  | zero => exact absurd HA.out (by simp [rArest.l0])
  | succ k1 =>
   have H := HA.out
   clear HA
   simp only [rArest.l0] at H
   rcases jd H with ⟨-, c3b0, H⟩ | ⟨-, c3b0, H⟩
   ·obtain ⟨-, c4b0, H⟩ := gd H
    obtain ⟨-, c5b0, H⟩ := gd H
    have HC6 := Z0.mk H
    clear H
    obtain ⟨ad193, e193, hx193_0, p193, q193⟩ := atB HB HR0.out x10_1
    cases e193
    go_upto_region 5 with (fail)
    go_cut [20] (fun v20 wc => ∃ (kq : Nat) (x20_5 : Bool), v20 = .bool x20_5 ∧ Z0 (rArest.j1 kq l1 x5_1 (rd l0 x10_1) l0 (l0.length : Int) x10_1 x20_5 = some r) ∧ Z0 (kq ≤ k1) ∧ Z0 (Kd.Q (Kd.int .u8) 5 wc w.heap.size (fun _ => True) u5 x5_1) ∧ Z0 (Below w.heap.size w wc))
    case first =>
     have H := HC6.out
     clear HC6
     rcases jg H with ⟨c7, c7b0, H⟩ | ⟨c7, c7b0, H⟩
     ·have c7b1 : decide (0 < x5_1.length) = true := decide_eq_true (by omega)
      clear c7
      (first | rw [c7b0] | (simp only [i64_w, i32_w]; rw [c7b0]) | skip)
      have H' := Z0.mk H
      clear H
      obtain ⟨Ao8, co8, eo8, _⟩ := Kd.Q_slice HO_5.out
      subst eo8
      go_wp2
      go_meet
      case rel => exact ⟨_, (true), fs, H', ⟨by have := HK1.out; first | omega | exact Nat.le_refl _⟩, ⟨by (with_reducible repeat (first | apply Kd.Q_alloc | apply Kd.Q_drewN | apply Kd.Q_drew)); exact HO_5.out⟩, ⟨bqs⟩⟩
     have c7b1 : decide (0 < x5_1.length) = false := decide_eq_false (by omega)
     clear c7
     (first | rw [c7b0] | (simp only [i64_w, i32_w]; rw [c7b0]) | skip)
     have H' := Z0.mk H
     clear H
     obtain ⟨Ao9, co9, eo9, _⟩ := Kd.Q_slice HO_5.out
     subst eo9
     go_wp2
     go_meet
     case rel => exact ⟨_, (decide ((rd l0 x10_1) > 0)), fs, H', ⟨by have := HK1.out; first | omega | exact Nat.le_refl _⟩, ⟨by (with_reducible repeat (first | apply Kd.Q_alloc | apply Kd.Q_drewN | apply Kd.Q_drew)); exact HO_5.out⟩, ⟨bqs⟩⟩
    case rest =>
     clear HC6
     try clear c1
     try clear p1
     try clear q1
     try clear hx1
     try clear p2
     try clear c3
     try clear c3b0
     try clear c4
     try clear c4b0
     try clear c5
     try clear c5b0
     try clear c7
     try clear c7b0
     try clear c7b1
     try clear hx193_0
     try clear p193
     try clear p2
     try clear q193
     obtain ⟨kq, x20_5, rfl, HA, HJ5, HO_5, HB⟩ := hcut
     cases kq with
     | zero => exact absurd HA.out (by simp [rArest.j1])
     | succ kj5 =>
      have H := HA.out
      clear HA
      simp only [rArest.j1] at H
      have HC10 := Z0.mk H
      clear H
      go_upto_if 20 with (fail)
      go_cut [5] (fun v5 wc => ∃ (kq : Nat) (x5_9 : List Int), Z0 (rArest.j2 kq l1 x5_9 l0 (l0.length : Int) x10_1 = some r) ∧ Z0 (kq ≤ kj5) ∧ Z0 (Kd.Q (Kd.int .u8) 5 wc w.heap.size (fun _ => True) v5 x5_9) ∧ Z0 (Below w.heap.size w wc))
      case first =>
       have H := HC10.out
       clear HC10
       by_cases c11 : x20_5 = true
       ·subst c11
        have H1 : (if x5_1.length < 140737488355328 then (rArest.j2 kj5 l1 (x5_1 ++ [(rd l0 x10_1)]) l0 (l0.length : Int) x10_1) else (none)) = some r := by rw [if_pos rfl] at H; exact H
        clear H
        have H := H1
        clear H1
        obtain ⟨c12, H⟩ := gn H
        have LMc12 := Z0.mk c12
        clear c12
        generalize hy194 : (x5_1 ++ [(rd l0 x10_1)] : List Int) = y194 at H
        have Ny194 := Z0.mk hy194.symm
        clear hy194
        have H' := Z0.mk H
        clear H
        go_wp2_with (first | ((with_reducible refine gate_builtin (b := .append) (xs := #[.tmp 21, .tmp 23]) rfl ?_); at_builtin; refine Kd.Q_append (Kd.int .u8) (w0 := w) w.heap.size rfl (.tmp 21) (.tmp 23) 55 5 (.int .u8 0) 1 rfl Tryz.underlying55 info5 rfl (by decide) (by omega) u5 x5_1 (rd l0 x10_1) [.int .u8 (rd l0 x10_1)] (fun _ => True) (fun _ => False) rfl rfl ?aP (fun _ hk => hk.elim) ?aF ?aO ?aB ?aS ?aL ?_; (case aP => exact rfl); (case aB => exact bqs); (case aF => exact (fun _ _ => trivial)); (case aO => exact (by (with_reducible repeat (first | apply Kd.Q_alloc | apply Kd.Q_drewN | apply Kd.Q_drew)); exact HO_5.out)); (case aS => exact (below_size bqs)); (case aL => have := LMc12.out; omega); intro v195 w13 ho hb hg hat; rw [← Ny194.out] at ho; have HO196 := Z0.mk (ho); replace HB := Z0.mk (hb); clear HO_5; clear ho hb hg hat))
        go_meet
        case rel => exact ⟨_, (y194), H', ⟨by have := HK1.out; have := HJ5.out; first | omega | exact Nat.le_refl _⟩, ⟨by (with_reducible repeat (first | apply Kd.Q_alloc | apply Kd.Q_drewN | apply Kd.Q_drew)); exact HO196.out⟩, ⟨bqs⟩⟩
       replace c11 := Bool.eq_false_iff.mpr c11
       subst c11
       have H1 : (rArest.j2 kj5 l1 x5_1 l0 (l0.length : Int) x10_1) = some r := by rw [if_neg (show ¬ (false = true) by decide)] at H; exact H
       clear H
       have H := H1
       clear H1
       have H' := Z0.mk H
       clear H
       go_wp2
       go_meet
       case rel => exact ⟨_, (x5_1), H', ⟨by have := HK1.out; have := HJ5.out; first | omega | exact Nat.le_refl _⟩, ⟨by (with_reducible repeat (first | apply Kd.Q_alloc | apply Kd.Q_drewN | apply Kd.Q_drew)); exact HO_5.out⟩, ⟨bqs⟩⟩
      case rest =>
       clear HC10
       try clear c1
       try clear p1
       try clear q1
       try clear hx1
       try clear p2
       try clear c3
       try clear c3b0
       try clear c4
       try clear c4b0
       try clear c5
       try clear c5b0
       try clear c7
       try clear c7b0
       try clear c7b1
       try clear c11
       try clear c12
       try clear hx193_0
       try clear p1
       try clear p193
       try clear p2
       try clear q1
       try clear q193
       obtain ⟨kq, x5_9, HA, HJ9, HO_5, HB⟩ := hcut
       cases kq with
       | zero => exact absurd HA.out (by simp [rArest.j2])
       | succ kj9 =>
        have H := HA.out
        clear HA
        simp only [rArest.j2] at H
        have H' := Z0.mk H
        clear H
        go_wp2
        go_loopg [5] kj9 (fun kq v5 w' => ∃ (x5_4 : List Int), Z0 (rArest.l1 kq l1 x5_4 l0 (l0.length : Int) x10_1 = some r) ∧ Z0 (kq ≤ kj9) ∧ Z0 (Kd.Q (Kd.int .u8) 5 w' w.heap.size (fun _ => True) v5 x5_4) ∧ Z0 (Below w.heap.size w w'))
        case atStart => exact ⟨(x5_9), H', ⟨Nat.le_refl _⟩, ⟨by (with_reducible repeat (first | apply Kd.Q_alloc | apply Kd.Q_drewN | apply Kd.Q_drew)); exact HO_5.out⟩, ⟨bqs⟩⟩
        case round =>
         clear H'
         try clear c1
         try clear p1
         try clear q1
         try clear hx1
         try clear p2
         try clear c3
         try clear c3b0
         try clear c4
         try clear c4b0
         try clear c5
         try clear c5b0
         try clear c7
         try clear c7b0
         try clear c7b1
         try clear c11
         try clear c12
         try clear hx193_0
         try clear p1
         try clear p193
         try clear p2
         try clear q1
         try clear q193
         obtain ⟨x5_4, HA, HK4, HO_5, HB⟩ := hrel
         cases gk with
         | zero => exact absurd HA.out (by simp [rArest.l1])
         | succ k4 =>
          have H := HA.out
          clear HA
          simp only [rArest.l1] at H
          obtain ⟨t197, A14, H⟩ := bnd H
          by_cases c15 : t197 = true
          ·subst c15
           have H1 : (rArest.l0 k4 l1 x5_4 l0 (l0.length : Int) (wrap64 (x10_1 + 1))) = some r := by rw [if_pos rfl] at H; exact H
           clear H
           have H := H1
           clear H1
           have H' := Z0.mk H
           clear H
           obtain ⟨Ao16, co16, eo16, _⟩ := Kd.Q_slice HO_5.out
           subst eo16
           go_wp2_with (first | ((with_reducible refine gc_ 126 rfl ?_); refine goesL_ (some 27) rfl rfl Tryz.func126 (by kernel_rfl) rfl #[.slice Ao16 x5_4.length co16, .slice A1 l1.length c1] rfl (by (try simp only [List.map_toArray, List.map_cons, List.map_nil]); first | done | rfl | (simp only [List.length_drop, List.length_take]; rfl)) ?_; (with_reducible refine (rAless.calls _ _ x5_4 _ _ l1 true _ ?side1 ?side2 ?side3 ?side4 A14.out).mono ?_); (case side1 => exact cq (Kd.Q_reads' HO_5.out).2.2); (case side2 => exact (Kd.Q_reads' HO_5.out).2.1); (case side3 => exact cq (Kd.C_below HR1.out HB.out)); (case side4 => exact HC1.out); rintro e w' ⟨rfl, ⟨nd, rfl⟩⟩; refine ⟨_, rfl, ?_⟩))
           go_roundg k4
           case measure => have := HK1.out; have := HJ5.out; have := HJ9.out; have := HK4.out; omega
           case rel => exact ⟨(x5_4), (wrap64 (x10_1 + 1)), fs, H', ⟨by have := HK1.out; have := HJ5.out; have := HJ9.out; have := HK4.out; omega⟩, ⟨by (with_reducible repeat (first | apply Kd.Q_alloc | apply Kd.Q_drewN | apply Kd.Q_drew)); exact HO_5.out⟩, ⟨bqs⟩⟩
          replace c15 := Bool.eq_false_iff.mpr c15
          subst c15
          have H1 : ((rAminus.f k4 x5_4 l1).bind fun t198 => (rArest.l1 k4 l1 t198 l0 (l0.length : Int) x10_1)) = some r := by rw [if_neg (show ¬ (false = true) by decide)] at H; exact H
          clear H
          have H := H1
          clear H1
          obtain ⟨t198, A17, H⟩ := bnd H
          have H' := Z0.mk H
          clear H
          obtain ⟨Ao18, co18, eo18, _⟩ := Kd.Q_slice HO_5.out
          subst eo18
          go_wp2_with (first | ((with_reducible refine gc_ 126 rfl ?_); refine goesL_ (some 27) rfl rfl Tryz.func126 (by kernel_rfl) rfl #[.slice Ao18 x5_4.length co18, .slice A1 l1.length c1] rfl (by (try simp only [List.map_toArray, List.map_cons, List.map_nil]); first | done | rfl | (simp only [List.length_drop, List.length_take]; rfl)) ?_; (with_reducible refine (rAless.calls _ _ x5_4 _ _ l1 false _ ?side1 ?side2 ?side3 ?side4 A14.out).mono ?_); (case side1 => exact cq (Kd.Q_reads' HO_5.out).2.2); (case side2 => exact (Kd.Q_reads' HO_5.out).2.1); (case side3 => exact cq (Kd.C_below HR1.out HB.out)); (case side4 => exact HC1.out); rintro e w' ⟨rfl, ⟨nd, rfl⟩⟩; refine ⟨_, rfl, ?_⟩) | ((with_reducible refine gc_ 127 rfl ?_); refine gL 31 Tryz.func127 (rAminus.calls k4 _ _ x5_4 _ _ l1 t198 _ ?side1 ?side2 ?side3 ?side4 A17.out) ?_; (case side1 => exact cq (Kd.Q_reads' HO_5.out).2.2); (case side2 => exact (Kd.Q_reads' HO_5.out).2.1); (case side3 => exact cq (Kd.C_below HR1.out bqs)); (case side4 => exact HC1.out); rintro _ w19 ⟨v199, rfl, ho0, hb⟩; refine ⟨_, rfl, ?_⟩; have HO200 := Z0.mk (Kd.Q_lower (Kd.Q_new' ho0 (Kd.Q_lt (by (with_reducible repeat (first | apply Kd.Q_alloc | apply Kd.Q_drewN | apply Kd.Q_drew)); exact HO_5.out))) (below_size bqs)); replace HO_5 := Z0.mk (Kd.Q_elder' (by (with_reducible repeat (first | apply Kd.Q_alloc | apply Kd.Q_drewN | apply Kd.Q_drew)); exact HO_5.out) (Kd.Q_base ho0) hb); replace HB := fB HB hb; clear hb ho0))
          go_roundg k4
          case measure => have := HK1.out; have := HJ5.out; have := HJ9.out; have := HK4.out; omega
          case rel => exact ⟨(t198), H', ⟨by have := HK1.out; have := HJ5.out; have := HJ9.out; have := HK4.out; omega⟩, ⟨by (with_reducible repeat (first | apply Kd.Q_alloc | apply Kd.Q_drewN | apply Kd.Q_drew)); exact Kd.Q_mono HO200.out (fun _ hk => trivial)⟩, ⟨bqs⟩⟩
   obtain rfl := Option.some.inj H
   go_wp2
   go_ret
   exact ⟨_, fe, by (with_reducible repeat (first | apply Kd.Q_alloc | apply Kd.Q_drewN | apply Kd.Q_drew)); exact HO_5.out, bqs⟩
end Go.Proofs.YtinpcbjjnlpblaaGreatDoor.PA
namespace Go.Proofs.YtinpcbjjnlpblaaGreatDoor
set_option linter.unusedVariables false
open Go.RowKit Go.Proofs.WWords Go.Proofs.WLast Go.Proofs.WMore PA
attribute [local go_sem] max2_int min2_int max_two min_two max_three min_three max_four min_four
set_option linter.unusedSimpArgs false
theorem rAmagnitude.calls (k : Nat) (a0 : ByteArray) (r : List Int) (w : World) (h : rAmagnitude.f k a0 = some r) :
  Calls Tryz.prog 92 #[.string a0] w fun e w' => ∃ v0_ : Value, e = .returned (v0_) ∧ Kd.R (Kd.int .u8) 5 w' w.heap.size (fun _ => True) v0_ r ∧ Below w.heap.size w w' := by
 unfold rAmagnitude.f at h
 by_cases hmx : a0.size ≤ 9223372036854775807
 rotate_left
 ·rw [if_neg hmx] at h
  cases h
 rw [if_pos hmx] at h
 obtain ⟨l0, hl0⟩ : ∃ l, l = bytesOf a0 := ⟨_, rfl⟩
 have H : (rAmagnitude.l0 k ([] : List Int) l0 (l0.length : Int) 0) = some r := by rw [hl0]; exact h
 have hsz : l0.length = a0.size := by rw [hl0, bytesOf, List.length_map]; rfl
 clear h
 obtain ⟨w1, hw1⟩ : ∃ w1, w1 = Lib.bytesWorld w 5 a0 := ⟨_, rfl⟩
 have hB1 : Below w.heap.size w w1 := by rw [hw1]; exact Lib.bytesWorld_below w 5 a0
 have hr0 : Kd.C (Kd.int .u8) w1 (some ⟨w.heap.size, 0, none⟩) l0.length l0 := by
  refine Kd.C_of_reads (d := (0 : Int)) ⟨rfl, by omega, fun _ => ⟨_, rfl, fun j hj => ?_⟩⟩
  have e : (Addr.add ⟨w.heap.size, 0, none⟩ j) = ⟨w.heap.size, j, none⟩ := by simp [Addr.add]; exact fun h => h.symm
  rw [e, hw1, Lib.bytesWorld_cell w 5 a0 j (by omega), hl0, bytesOf]
  have hj2 : j < a0.data.toList.length := by have : a0.data.toList.length = a0.size := rfl; omega
  simp [List.getD_eq_getElem?_getD]
  rw [Array.getElem?_eq_getElem (by have : a0.data.size = a0.size := rfl; omega)]
  rfl
 have hconv : ∀ (W : World), W = w → (convert 26 55 (.string a0)).run Tryz.prog W = .ok (.slice (some ⟨w.heap.size, 0, none⟩) l0.length (grownCap w a0.size 0 5)) w1 := by
  rintro W rfl
  rw [hsz, hw1]
  exact Lib.run_convert_string_bytes W 26 55 5 a0 Tryz.underlying26 Tryz.underlying55 Tryz.underlying5
 obtain ⟨A0, hA0⟩ : ∃ A0 : Option Addr, A0 = some ⟨w.heap.size, 0, none⟩ := ⟨_, rfl⟩
 rw [← hA0] at hr0
 simp only [← hA0] at hconv
 obtain ⟨c0, hc0⟩ : ∃ c0, c0 = grownCap w a0.size 0 5 := ⟨_, rfl⟩
 rw [← hc0] at hconv
 have HR0 := Z0.mk hr0
 have HB := Z0.mk (Below.refl w1.heap.size w1)
 have H' := Z0.mk H
 clear H hr0 hsz hl0 hmx hc0 hw1 hA0
 go_enter Tryz.func92, Tryz.ntmps92
 go_wp2_with (first | ((with_reducible refine gd_ 7 rfl ?_); refine Kd.event_run rfl (v := .slice A0 l0.length c0) (w1 := w1) ?hr ?_; (case hr => exact hconv w rfl)))
 go_loopg [3, 9] k (fun kq v3 v9 w' => ∃ (x3_1 : List Int) (x9_1 : Int), v9 = .int .i64 x9_1 ∧ Z0 (rAmagnitude.l0 kq x3_1 l0 (l0.length : Int) x9_1 = some r) ∧ Z0 (kq ≤ k) ∧ Z0 (Kd.R (Kd.int .u8) 5 w' w1.heap.size (fun _ => True) v3 x3_1) ∧ Z0 (Below w1.heap.size w1 w'))
 case atStart => exact ⟨(([] : List Int)), (0), fs, H', ⟨Nat.le_refl _⟩, ⟨by first | exact Kd.R_nil _ _ _ _ _ | exact Kd.N_nil _ _ _ _ _ | exact Kd.V_nil _ _ _ _ _ | exact Kd.Q_nil _ _ _ _ _ | exact Kd.S_nil _ _ _ _ _⟩, ⟨bqs⟩⟩
 case round =>
  clear H'
  try clear c1
  obtain ⟨x3_1, x9_1, rfl, HA, HK1, HO_3, HB⟩ := hrel
  cases gk with
  | zero => exact absurd HA.out (by simp [rAmagnitude.l0])
  | succ k1 =>
   have H := HA.out
   clear HA
   simp only [rAmagnitude.l0] at H
   rcases jd H with ⟨-, c2b0, H⟩ | ⟨-, c2b0, H⟩
   ·obtain ⟨-, c3b0, H⟩ := gd H
    obtain ⟨-, c4b0, H⟩ := gd H
    rcases je H with ⟨-, c5b0, c5b1, H⟩ | ⟨c5, c5b0, c5b1, H⟩
    ·have H' := Z0.mk H
     clear H
     obtain ⟨ad133, e133, hx133_0, p133, q133⟩ := atI HR0.out x9_1
     cases e133
     replace hx133_0 := (HB.out.cell (World.block_lt_of_cell? w1 _ hx133_0)).trans hx133_0
     go_wp2
     go_roundg k1
     case measure => have := HK1.out; omega
     case rel => exact ⟨(x3_1), (wrap64 (x9_1 + 1)), fs, H', ⟨by have := HK1.out; omega⟩, ⟨rq HO_3⟩, ⟨bqs⟩⟩
    rcases je H with ⟨-, c6b0, c6b1, H⟩ | ⟨c6, c6b0, c6b1, H⟩
    ·rcases jg H with ⟨c7, c7b0, H⟩ | ⟨c7, c7b0, H⟩
     ·have c7b1 : decide (0 < x3_1.length) = true := decide_eq_true (by omega)
      clear c7
      obtain ⟨c8, H⟩ := gn H
      have LMc8 := Z0.mk c8
      clear c8
      generalize hy134 : (x3_1 ++ [((rd l0 x9_1) - 48) % 256] : List Int) = y134 at H
      have Ny134 := Z0.mk hy134.symm
      clear hy134
      have H' := Z0.mk H
      clear H
      obtain ⟨ad133, e133, hx133_0, p133, q133⟩ := atI HR0.out x9_1
      cases e133
      replace hx133_0 := (HB.out.cell (World.block_lt_of_cell? w1 _ hx133_0)).trans hx133_0
      obtain ⟨Ao9, co9, eo9⟩ := Kd.R_slice HO_3.out
      subst eo9
      go_wp2_with (first | ((with_reducible refine gate_builtin (b := .append) (xs := #[.tmp 24, .tmp 27]) rfl ?_); (try (refine gate_guard (by rfl) ?_; dsimp only)); at_builtin; refine Kd.R_append (Kd.int .u8) (w0 := w1) w1.heap.size rfl (.tmp 24) (.tmp 27) 55 5 (.int .u8 0) 1 rfl Tryz.underlying55 info5 rfl (by decide) (by omega) (.slice Ao9 x3_1.length co9) x3_1 (((rd l0 x9_1) - 48) % 256) [.int .u8 (((rd l0 x9_1) - 48) % 256)] (fun _ => True) (fun _ => False) rfl rfl ?aP (fun _ hk => hk.elim) ?aF ?aO ?aB ?aS ?aL ?_; (case aP => exact rfl); (case aB => exact bqs); (case aF => exact (fun _ _ => trivial)); (case aO => exact (rq HO_3)); (case aS => exact (below_size bqs)); (case aL => have := LMc8.out; omega); intro v135 w10 ho hb hg hat; rw [← Ny134.out] at ho; have HO136 := Z0.mk (ho); replace HB := Z0.mk (hb); clear HO_3; clear ho hb hg hat))
      go_roundg k1
      case measure => have := HK1.out; omega
      case rel => exact ⟨(y134), (wrap64 (x9_1 + 1)), fs, H', ⟨by have := HK1.out; omega⟩, ⟨rq HO136⟩, ⟨bqs⟩⟩
     have c7b1 : decide (0 < x3_1.length) = false := decide_eq_false (by omega)
     clear c7
     have H' := Z0.mk H
     clear H
     obtain ⟨ad133, e133, hx133_0, p133, q133⟩ := atI HR0.out x9_1
     cases e133
     replace hx133_0 := (HB.out.cell (World.block_lt_of_cell? w1 _ hx133_0)).trans hx133_0
     obtain ⟨Ao11, co11, eo11⟩ := Kd.R_slice HO_3.out
     subst eo11
     go_wp2
     go_roundg k1
     case measure => have := HK1.out; omega
     case rel => exact ⟨(x3_1), (wrap64 (x9_1 + 1)), fs, H', ⟨by have := HK1.out; omega⟩, ⟨rq HO_3⟩, ⟨bqs⟩⟩
    obtain ⟨c12, H⟩ := gn H
    have LMc12 := Z0.mk c12
    clear c12
    generalize hy137 : (x3_1 ++ [((rd l0 x9_1) - 48) % 256] : List Int) = y137 at H
    have Ny137 := Z0.mk hy137.symm
    clear hy137
    have H' := Z0.mk H
    clear H
    obtain ⟨ad133, e133, hx133_0, p133, q133⟩ := atI HR0.out x9_1
    cases e133
    replace hx133_0 := (HB.out.cell (World.block_lt_of_cell? w1 _ hx133_0)).trans hx133_0
    go_wp2_with (first | ((with_reducible refine gate_builtin (b := .append) (xs := #[.tmp 24, .tmp 27]) rfl ?_); (try (refine gate_guard (by rfl) ?_; dsimp only)); at_builtin; refine Kd.R_append (Kd.int .u8) (w0 := w1) w1.heap.size rfl (.tmp 24) (.tmp 27) 55 5 (.int .u8 0) 1 rfl Tryz.underlying55 info5 rfl (by decide) (by omega) u3 x3_1 (((rd l0 x9_1) - 48) % 256) [.int .u8 (((rd l0 x9_1) - 48) % 256)] (fun _ => True) (fun _ => False) rfl rfl ?aP (fun _ hk => hk.elim) ?aF ?aO ?aB ?aS ?aL ?_; (case aP => exact rfl); (case aB => exact bqs); (case aF => exact (fun _ _ => trivial)); (case aO => exact (rq HO_3)); (case aS => exact (below_size bqs)); (case aL => have := LMc12.out; omega); intro v138 w13 ho hb hg hat; rw [← Ny137.out] at ho; have HO139 := Z0.mk (ho); replace HB := Z0.mk (hb); clear HO_3; clear ho hb hg hat))
    go_roundg k1
    case measure => have := HK1.out; omega
    case rel => exact ⟨(y137), (wrap64 (x9_1 + 1)), fs, H', ⟨by have := HK1.out; omega⟩, ⟨rq HO139⟩, ⟨bqs⟩⟩
   obtain rfl := Option.some.inj H
   go_wp2
   go_ret
   exact ⟨_, fe, Kd.R_lower (rq HO_3) hB1.size, below_step hB1 bqs⟩
end Go.Proofs.YtinpcbjjnlpblaaGreatDoor
namespace Go.Proofs.YtinpcbjjnlpblaaGreatDoor.PA
set_option linter.unusedVariables false
open Go.RowKit Go.Proofs.WWords Go.Proofs.WLast Go.Proofs.WMore
attribute [local go_sem] max2_int min2_int max_two min_two max_three min_three max_four min_four
set_option linter.unusedSimpArgs false
theorem rAcommon.calls (k : Nat) (a0 : ByteArray) (a1 : ByteArray) (r : Bool) (w : World) (hL : LaidW w) (h : rAcommon.f k a0 a1 = some r) :
  Calls Tryz.prog 48 #[.string a0, .string a1] w fun e w' => e = .returned (.bool r) ∧ Below w.heap.size w w' := by
 have HB := Z0.mk (Below.refl w.heap.size w)
 have H := h
 clear h
 unfold rAcommon.f at H
 have HC3 := Z0.mk H
 clear H
 go_enter Tryz.func48, Tryz.ntmps48
 go_upto_region 1 with (fail)
 go_cut [16] (fun v16 wc => ∃ (kq : Nat) (x16_2 : Bool), v16 = .bool x16_2 ∧ Z0 (rAcommon.j0 kq a0 a1 x16_2 = some r) ∧ Z0 (kq ≤ k) ∧ Z0 (Below w.heap.size w wc))
 case first =>
  have H := HC3.out
  clear HC3
  obtain ⟨t201, A4, H⟩ := bnd H
  rcases jd H with ⟨-, c5b0, H⟩ | ⟨-, c5b0, H⟩
  ·(first | rw [c5b0] | (simp only [i64_w, i32_w]; rw [c5b0]) | skip)
   obtain ⟨t202, A6, H⟩ := bnd H
   have H' := Z0.mk H
   clear H
   go_wp2_with (first | ((with_reducible refine gc_ 49 rfl ?_); refine goD (some 10) Tryz.func49 #[.string a0] (rAdigits.calls a0 t201 _ A4.out) ?_; intro nd) | (go_at_call 49; (with_reducible refine (rAdigits.calls a1 t202 _ A6.out).mono ?_); rintro e w' ⟨rfl, ⟨nd, rfl⟩⟩))
   go_meet
   case rel => exact ⟨_, (decide (t202 ≤ 4096)), fs, H', ⟨by first | omega | exact Nat.le_refl _⟩, ⟨bqs⟩⟩
  (first | rw [c5b0] | (simp only [i64_w, i32_w]; rw [c5b0]) | skip)
  have H' := Z0.mk H
  clear H
  go_wp2_with (first | ((with_reducible refine gc_ 49 rfl ?_); refine goD (some 10) Tryz.func49 #[.string a0] (rAdigits.calls a0 t201 _ A4.out) ?_; intro nd))
  go_meet
  case rel => exact ⟨_, (false), fs, H', ⟨by first | omega | exact Nat.le_refl _⟩, ⟨bqs⟩⟩
 case rest =>
  clear HC3
  try clear p2
  try clear c5
  try clear c5b0
  obtain ⟨kq, x16_2, rfl, HA, HJ2, HB⟩ := hcut
  cases kq with
  | zero => exact absurd HA.out (by simp [rAcommon.j0])
  | succ kj2 =>
   have H := HA.out
   clear HA
   simp only [rAcommon.j0] at H
   by_cases c7 : x16_2 = true
   ·subst c7
    have H1 : ((bIGcd.f kj2 a0 a1).bind fun bt203 => (if bt203.2 = 0 then (some (bt203.1.toList != ([49] : List UInt8))) else (some true))) = some r := by rw [if_pos rfl] at H; exact H
    clear H
    have H := H1
    clear H1
    obtain ⟨⟨t203, t204⟩, A8, H⟩ := bnd H
    try dsimp only at H
    rcases je H with ⟨-, c9b0, c9b1, H⟩ | ⟨c9, c9b0, c9b1, H⟩
    ·obtain rfl := Option.some.inj H
     go_wp2_with (first | ((with_reducible refine gc_ 19 rfl ?_); refine goB (some 20) Tryz.func19 #[.string a0, .string a1] bq (bIGcd.calls kj2 a0 a1 t203 t204 _ (hL.below bq) A8.out) ?_; clear HB; intro w10 HB))
     go_ret
     exact finE
    obtain rfl := Option.some.inj H
    go_wp2_with (first | ((with_reducible refine gc_ 19 rfl ?_); refine goB (some 20) Tryz.func19 #[.string a0, .string a1] bq (bIGcd.calls kj2 a0 a1 t203 t204 _ (hL.below bq) A8.out) ?_; clear HB; intro w11 HB))
    go_ret
    exact finE
   replace c7 := Bool.eq_false_iff.mpr c7
   subst c7
   have H1 : ((rAmagnitude.f kj2 a0).bind fun t205 => ((rAmagnitude.f kj2 a1).bind fun t208 => (rAcommon.l0 kj2 t205 t208))) = some r := by rw [if_neg (show ¬ (false = true) by decide)] at H; exact H
   clear H
   have H := H1
   clear H1
   obtain ⟨t205, A12, H⟩ := bnd H
   obtain ⟨t208, A13, H⟩ := bnd H
   have H' := Z0.mk H
   clear H
   go_wp2_with (first | ((with_reducible refine gc_ 92 rfl ?_); refine gL 30 Tryz.func92 (rAmagnitude.calls _ _ _ _ A12.out) ?_; rintro _ w14 ⟨v206, rfl, ho0, hb⟩; refine ⟨_, rfl, ?_⟩; have HO207 := fN ho0; replace HB := fB HB hb; clear hb ho0) | ((with_reducible refine gc_ 92 rfl ?_); refine gL 32 Tryz.func92 (rAmagnitude.calls _ _ _ _ A13.out) ?_; rintro _ w15 ⟨v209, rfl, ho0, hb⟩; refine ⟨_, rfl, ?_⟩; have HO210 := Z0.mk (Kd.R_lower (Kd.R_new' ho0 (Kd.R_lt (rq HO207))) (below_size bqs)); replace HO207 := Z0.mk (Kd.R_elder' (rq HO207) (Kd.R_base ho0) hb); replace HB := fB HB hb; clear hb ho0))
   go_loopg [7, 8] kj2 (fun kq v7 v8 w' => ∃ (x7_2 : List Int) (x8_2 : List Int), Z0 (rAcommon.l0 kq x7_2 x8_2 = some r) ∧ Z0 (kq ≤ kj2) ∧ Z0 (Kd.Q (Kd.int .u8) 5 w' w.heap.size (fun k_ => some k_ ≠ (v8 : Value).ownBlock) v7 x7_2) ∧ Z0 (Kd.Q (Kd.int .u8) 5 w' w.heap.size (fun k_ => some k_ ≠ (v7 : Value).ownBlock) v8 x8_2) ∧ Z0 (Below w.heap.size w w'))
   case atStart => exact ⟨(t205), (t208), H', ⟨Nat.le_refl _⟩, ⟨Kd.Q_of_R (by (with_reducible repeat (first | apply Kd.R_alloc | apply Kd.R_drewN | apply Kd.R_drew)); exact Kd.R_mono HO207.out (fun _ hk => hk.2))⟩, ⟨Kd.Q_of_R (by (with_reducible repeat (first | apply Kd.R_alloc | apply Kd.R_drewN | apply Kd.R_drew)); exact Kd.R_mono HO210.out (fun _ hk => hk.2))⟩, ⟨bqs⟩⟩
   case round =>
    clear H'
    try clear c1
    try clear p2
    try clear c3
    try clear c5
    try clear c5b0
    try clear c7
    try clear c8
    try clear c9
    try clear c9b0
    try clear c9b1
    try clear c11
    try clear p2
    obtain ⟨x7_2, x8_2, HA, HK2, HO_7, HO_8, HB⟩ := hrel
    cases gk with
    | zero => exact absurd HA.out (by simp [rAcommon.l0])
    | succ k2 =>
     have H := HA.out
     clear HA
     simp only [rAcommon.l0] at H
     rcases jg H with ⟨c16, c16b0, H⟩ | ⟨c16, c16b0, H⟩
     ·have c16b1 : decide (0 < x8_2.length) = true := decide_eq_true (by omega)
      clear c16
      obtain ⟨t211, A17, H⟩ := bnd H
      have H' := Z0.mk H
      clear H
      obtain ⟨Ao18, co18, eo18, _⟩ := Kd.Q_slice HO_8.out
      subst eo18
      obtain ⟨Ao19, co19, eo19, _⟩ := Kd.Q_slice HO_7.out
      subst eo19
      go_wp2_with (first | ((with_reducible refine gc_ 93 rfl ?_); refine gL 39 Tryz.func93 (rArest.calls k2 _ _ x7_2 _ _ x8_2 t211 _ ?side1 ?side2 ?side3 ?side4 A17.out) ?_; (case side1 => exact cq (Kd.Q_reads' HO_7.out).2.2); (case side2 => exact (Kd.Q_reads' HO_7.out).2.1); (case side3 => exact cq (Kd.Q_reads' HO_8.out).2.2); (case side4 => exact (Kd.Q_reads' HO_8.out).2.1); rintro _ w20 ⟨v212, rfl, ho0, hb⟩; refine ⟨_, rfl, ?_⟩; have HO213 := Z0.mk (Kd.Q_lower (Kd.Q_new' (Kd.Q_new' ho0 (Kd.Q_lt (by (with_reducible repeat (first | apply Kd.Q_alloc | apply Kd.Q_drewN | apply Kd.Q_drew)); exact HO_7.out))) (Kd.Q_lt (by (with_reducible repeat (first | apply Kd.Q_alloc | apply Kd.Q_drewN | apply Kd.Q_drew)); exact HO_8.out))) (below_size bqs)); replace HO_7 := Z0.mk (Kd.Q_elder' (by (with_reducible repeat (first | apply Kd.Q_alloc | apply Kd.Q_drewN | apply Kd.Q_drew)); exact HO_7.out) (Kd.Q_base ho0) hb); replace HO_8 := Z0.mk (Kd.Q_elder' (by (with_reducible repeat (first | apply Kd.Q_alloc | apply Kd.Q_drewN | apply Kd.Q_drew)); exact HO_8.out) (Kd.Q_base ho0) hb); replace HB := fB HB hb; clear hb ho0))
      go_roundg k2
      case measure => have := HJ2.out; have := HK2.out; omega
      case rel => exact ⟨(x8_2), (t211), H', ⟨by have := HJ2.out; have := HK2.out; omega⟩, ⟨by (with_reducible repeat (first | apply Kd.Q_alloc | apply Kd.Q_drewN | apply Kd.Q_drew)); exact Kd.Q_mono HO_8.out (fun _ hk => hk.2)⟩, ⟨by (with_reducible repeat (first | apply Kd.Q_alloc | apply Kd.Q_drewN | apply Kd.Q_drew)); exact Kd.Q_mono HO213.out (fun _ hk => hk.2)⟩, ⟨bqs⟩⟩
     have c16b1 : decide (0 < x8_2.length) = false := decide_eq_false (by omega)
     clear c16
     rcases je H with ⟨-, c21b0, c21b1, H⟩ | ⟨c21, c21b0, c21b1, H⟩
     ·obtain ⟨c22, c22b0, H⟩ := gd H
      have c22b1 : decide (0 < x7_2.length) = true := decide_eq_true (by omega)
      clear c22
      obtain rfl := Option.some.inj H
      obtain ⟨Ao23, co23, eo23, _⟩ := Kd.Q_slice HO_8.out
      subst eo23
      obtain ⟨Ao24, co24, eo24, _⟩ := Kd.Q_slice HO_7.out
      subst eo24
      have p214 : 0 ≤ (0 : Int) := (by omega)
      have q214 : 0 < (x7_2.length : Int) := od
      obtain ⟨ad214, e214, hx214_0⟩ := Kd.at_int (Kd.Q_reads' HO_7.out).2.2 0 p214 q214
      cases e214
      have qi214 : (0 < x7_2.length) = True := eq_true (by omega)
      (try rw [show ((0 : Int)).toNat = 0 from rfl] at hx214_0)
      (try rw [Addr.add_zero'] at hx214_0)
      replace p214 := eq_true p214
      replace q214 := eq_true q214
      go_wp2
      go_ret
      exact finE
     obtain rfl := Option.some.inj H
     obtain ⟨Ao25, co25, eo25, _⟩ := Kd.Q_slice HO_8.out
     subst eo25
     obtain ⟨Ao26, co26, eo26, _⟩ := Kd.Q_slice HO_7.out
     subst eo26
     go_wp2
     go_ret
     exact finE
theorem rAsplit.calls (a0 : ByteArray) (r1 : ByteArray) (r2 : ByteArray) (w : World) (h : rAsplit.f a0 = some (r1, r2)) :
  Calls Tryz.prog 45 #[.string a0] w fun e w' => e = .returned (.tuple #[.string r1, .string r2]) ∧ Below w.heap.size w w' := by
 have HB := Z0.mk (Below.refl w.heap.size w)
 have H := h
 clear h
 unfold rAsplit.f at H
 obtain ⟨t101, A2, H⟩ := bnd H
 rcases jh H with ⟨-, c3b0, H⟩ | ⟨-, c3b0, H⟩
 ·obtain ⟨-, c4b0, c4b1, H⟩ := gt H
  obtain ⟨-, c5b0, c5b1, H⟩ := gt H
  obtain ⟨ji6, hji6⟩ : ∃ j_ : Int, (wrap64 (t101 + 1)) = j_ := ⟨_, rfl⟩
  replace H : (if 0 ≤ (ji6) then (if (ji6) ≤ (a0.size : Int) then (some (a0.extract 0 (t101 : Int).toNat, a0.extract ((ji6) : Int).toNat a0.size)) else (none)) else (none)) = some (r1, r2) := by first | (rw [hji6] at H; exact H) | (simp only [hji6] at H ⊢; exact H)
  (try rw [hji6] at A2)
  have hji6w : (IntKind.i64.wrap (t101 + 1)) = ji6 := (i64_w _).trans hji6
  obtain ⟨-, c7b0, c7b1, H⟩ := gt H
  obtain ⟨-, c8b0, c8b1, H⟩ := gt H
  simp only [Option.some.injEq, Prod.mk.injEq] at H
  obtain ⟨rfl, rfl⟩ := H
  go_enter Tryz.func45, Tryz.ntmps45
  go_wp2_with (first | (go_at_call 90; (with_reducible refine (strings_IndexByte.calls a0 47 t101 _ A2.out).mono ?_); rintro e w9 ⟨rfl, hb⟩; replace HB := fB HB hb; clear hb) | (go_quiet (first | (go_at_call 90; (with_reducible refine (strings_IndexByte.calls a0 47 t101 _ A2.out).mono ?_); rintro e w9 ⟨rfl, hb⟩; replace HB := fB HB hb; clear hb))))
  go_ret2
  exact ⟨by first | rfl | (simp [errW_none, errW_some] <;> rfl) | (simp only [← hji6]; first | rfl | (simp [errW_none, errW_some] <;> rfl)) | (simp [*, errW_none, errW_some] <;> rfl), bqs⟩
 simp only [Option.some.injEq, Prod.mk.injEq] at H
 obtain ⟨rfl, rfl⟩ := H
 go_enter Tryz.func45, Tryz.ntmps45
 go_wp2_with (first | (go_at_call 90; (with_reducible refine (strings_IndexByte.calls a0 47 t101 _ A2.out).mono ?_); rintro e w10 ⟨rfl, hb⟩; replace HB := fB HB hb; clear hb) | (go_quiet (first | (go_at_call 90; (with_reducible refine (strings_IndexByte.calls a0 47 t101 _ A2.out).mono ?_); rintro e w10 ⟨rfl, hb⟩; replace HB := fB HB hb; clear hb))))
 go_ret2
 exact finE
theorem rACheck.calls (k : Nat) (a0 : ByteArray) (r : Int) (w : World) (hL : LaidW w) (h : rACheck.f k a0 = some r) :
  Calls Tryz.prog 13 #[.string a0] w fun e w' => e = .returned (.int .i64 r) ∧ Below w.heap.size w w' := by
 have HB := Z0.mk (Below.refl w.heap.size w)
 have H := h
 clear h
 unfold rACheck.f at H
 obtain ⟨⟨t215, t216⟩, A2, H⟩ := bnd H
 try dsimp only at H
 have HC3 := Z0.mk H
 clear H
 go_enter Tryz.func13, Tryz.ntmps13
 go_upto_region 2 with (first | ((with_reducible refine gc_ 45 rfl ?_); refine goB (some 7) Tryz.func45 #[.string a0] bq (rAsplit.calls a0 t215 t216 _ A2.out) ?_; clear HB; intro w4 HB))
 (try simp only [Act.put, List.setIfInBounds_toArray, List.set_cons_zero, List.set_cons_succ])
 go_cut [17] (fun v17 wc => ∃ (kq : Nat) (x17_2 : Bool), v17 = .bool x17_2 ∧ Z0 (rACheck.j0 kq a0 t215 t216 x17_2 = some r) ∧ Z0 (kq ≤ k) ∧ Z0 (Below w.heap.size w wc))
 case first =>
  have H := HC3.out
  clear HC3
  obtain ⟨t217, A5, H⟩ := bnd H
  by_cases c6 : t217 = true
  ·subst c6
   have H1 : ((rAcanonical.f t216).bind fun t218 => (rACheck.j0 k a0 t215 t216 (!t218))) = some r := by rw [if_pos rfl] at H; exact H
   clear H
   have H := H1
   clear H1
   obtain ⟨t218, A7, H⟩ := bnd H
   have H' := Z0.mk H
   clear H
   go_wp2_with (first | ((with_reducible refine gc_ 46 rfl ?_); refine goB (some 11) Tryz.func46 #[.string t215] bq (rAcanonical.calls t215 true _ A5.out) ?_; clear HB; intro w8 HB) | (go_at_call 46; (with_reducible refine (rAcanonical.calls t216 t218 _ A7.out).mono ?_); rintro e w9 ⟨rfl, hb⟩; replace HB := fB HB hb; clear hb))
   go_meet
   case rel => exact ⟨_, (!t218), fs, H', ⟨by first | omega | exact Nat.le_refl _⟩, ⟨bqs⟩⟩
  replace c6 := Bool.eq_false_iff.mpr c6
  subst c6
  have H1 : (rACheck.j0 k a0 t215 t216 true) = some r := by rw [if_neg (show ¬ (false = true) by decide)] at H; exact H
  clear H
  have H := H1
  clear H1
  have H' := Z0.mk H
  clear H
  go_wp2_with (first | ((with_reducible refine gc_ 46 rfl ?_); refine goB (some 11) Tryz.func46 #[.string t215] bq (rAcanonical.calls t215 false _ A5.out) ?_; clear HB; intro w10 HB))
  go_meet
  case rel => exact ⟨_, (true), fs, H', ⟨by first | omega | exact Nat.le_refl _⟩, ⟨bqs⟩⟩
 case rest =>
  clear HC3
  try clear c2
  try clear p2
  try clear c6
  try clear c7
  obtain ⟨kq, x17_2, rfl, HA, HJ2, HB⟩ := hcut
  cases kq with
  | zero => exact absurd HA.out (by simp [rACheck.j0])
  | succ kj2 =>
   have H := HA.out
   clear HA
   simp only [rACheck.j0] at H
   by_cases c11 : x17_2 = true
   ·subst c11
    have H1 : (some 3) = some r := by rw [if_pos rfl] at H; exact H
    clear H
    have H := H1
    clear H1
    obtain rfl := Option.some.inj H
    go_wp2
    go_ret
    exact finE
   replace c11 := Bool.eq_false_iff.mpr c11
   subst c11
   have H1 : ((strings_Contains.f a0 (⟨#[47]⟩ : ByteArray)).bind fun t219 => (if t219 = true then (if t216.toList = ([48] : List UInt8) then (rACheck.j1 kj2 t215 t216 true) else (if t216.toList = ([49] : List UInt8) then (rACheck.j1 kj2 t215 t216 true) else (if 0 < (t216.size : Int) then (if (bt t216 0) = 45 then (rACheck.j1 kj2 t215 t216 true) else ((rAcommon.f kj2 t215 t216).bind fun t220 => (rACheck.j1 kj2 t215 t216 t220))) else (none)))) else (rACheck.j1 kj2 t215 t216 false))) = some r := by rw [if_neg (show ¬ (false = true) by decide)] at H; exact H
   clear H
   have H := H1
   clear H1
   have HC12 := Z0.mk H
   clear H
   go_upto_region 4 with (fail)
   go_cut [37] (fun v37 wc => ∃ (kq : Nat) (x37_11 : Bool), v37 = .bool x37_11 ∧ Z0 (rACheck.j1 kq t215 t216 x37_11 = some r) ∧ Z0 (kq ≤ kj2) ∧ Z0 (Below w.heap.size w wc))
   case first =>
    have H := HC12.out
    clear HC12
    obtain ⟨t219, A13, H⟩ := bnd H
    by_cases c14 : t219 = true
    ·subst c14
     have H1 : (if t216.toList = ([48] : List UInt8) then (rACheck.j1 kj2 t215 t216 true) else (if t216.toList = ([49] : List UInt8) then (rACheck.j1 kj2 t215 t216 true) else (if 0 < (t216.size : Int) then (if (bt t216 0) = 45 then (rACheck.j1 kj2 t215 t216 true) else ((rAcommon.f kj2 t215 t216).bind fun t220 => (rACheck.j1 kj2 t215 t216 t220))) else (none)))) = some r := by rw [if_pos rfl] at H; exact H
     clear H
     have H := H1
     clear H1
     rcases je H with ⟨-, c15b0, c15b1, H⟩ | ⟨c15, c15b0, c15b1, H⟩
     ·(first | rw [c15b0] | (simp only [i64_w, i32_w]; rw [c15b0]) | skip)
      have H' := Z0.mk H
      clear H
      go_wp2_with (first | ((with_reducible refine gc_ 47 rfl ?_); refine goB (some 19) Tryz.func47 #[.string a0, .string (⟨#[47]⟩ : ByteArray)] bq (strings_Contains.calls a0 (⟨#[47]⟩ : ByteArray) true _ A13.out) ?_; clear HB; intro w16 HB))
      go_meet
      case rel => exact ⟨_, (true), fs, H', ⟨by have := HJ2.out; first | omega | exact Nat.le_refl _⟩, ⟨bqs⟩⟩
     (first | rw [c15b0] | (simp only [i64_w, i32_w]; rw [c15b0]) | skip)
     rcases je H with ⟨-, c17b0, c17b1, H⟩ | ⟨c17, c17b0, c17b1, H⟩
     ·have H' := Z0.mk H
      clear H
      go_wp2_with (first | ((with_reducible refine gc_ 47 rfl ?_); refine goB (some 19) Tryz.func47 #[.string a0, .string (⟨#[47]⟩ : ByteArray)] bq (strings_Contains.calls a0 (⟨#[47]⟩ : ByteArray) true _ A13.out) ?_; clear HB; intro w18 HB))
      go_meet
      case rel => exact ⟨_, (true), fs, H', ⟨by have := HJ2.out; first | omega | exact Nat.le_refl _⟩, ⟨bqs⟩⟩
     obtain ⟨c19, c19b0, H⟩ := gd H
     have c19b1 : decide (0 < t216.size) = true := decide_eq_true (by omega)
     clear c19
     rcases je H with ⟨-, c21b0, c21b1, H⟩ | ⟨c21, c21b0, c21b1, H⟩
     ·have H' := Z0.mk H
      clear H
      go_wp2_with (first | ((with_reducible refine gc_ 47 rfl ?_); refine gL 19 Tryz.func47 (strings_Contains.calls _ _ _ _ A13.out) ?_; rintro _ w22 ⟨rfl, hb⟩; refine ⟨_, rfl, ?_⟩; replace HB := fB HB hb; clear hb; have p20 : 0 ≤ (0 : Int) := (by omega); have q20 : 0 < t216.size := (by have : (0 : Int) < (t216.size : Int) := od; omega); have hx20 : ∀ h : 0 < t216.size, ((t216[0]'h).toNat : Int) = bt t216 0 := bt_at t216 0; clear p20; have qi20 : (0 < (t216.size : Int)) = True := eq_true od; replace q20 := eq_true q20))
      go_meet
      case rel => exact ⟨_, (true), fs, H', ⟨by have := HJ2.out; first | omega | exact Nat.le_refl _⟩, ⟨bqs⟩⟩
     obtain ⟨t220, A23, H⟩ := bnd H
     have H' := Z0.mk H
     clear H
     go_wp2_with (first | ((with_reducible refine gc_ 47 rfl ?_); refine gL 19 Tryz.func47 (strings_Contains.calls _ _ _ _ A13.out) ?_; rintro _ w24 ⟨rfl, hb⟩; refine ⟨_, rfl, ?_⟩; replace HB := fB HB hb; clear hb; have p20 : 0 ≤ (0 : Int) := (by omega); have q20 : 0 < t216.size := (by have : (0 : Int) < (t216.size : Int) := od; omega); have hx20 : ∀ h : 0 < t216.size, ((t216[0]'h).toNat : Int) = bt t216 0 := bt_at t216 0; clear p20; have qi20 : (0 < (t216.size : Int)) = True := eq_true od; replace q20 := eq_true q20) | (go_at_call 48; (with_reducible refine (rAcommon.calls kj2 t215 t216 t220 _ ?side1 A23.out).mono ?_); (case side1 => exact LaidW.below hL bqs); rintro e w25 ⟨rfl, hb⟩; replace HB := fB HB hb; clear hb))
     go_meet
     case rel => exact ⟨_, (t220), fs, H', ⟨by have := HJ2.out; first | omega | exact Nat.le_refl _⟩, ⟨bqs⟩⟩
    replace c14 := Bool.eq_false_iff.mpr c14
    subst c14
    have H1 : (rACheck.j1 kj2 t215 t216 false) = some r := by rw [if_neg (show ¬ (false = true) by decide)] at H; exact H
    clear H
    have H := H1
    clear H1
    have H' := Z0.mk H
    clear H
    go_wp2_with (first | ((with_reducible refine gc_ 47 rfl ?_); refine goB (some 19) Tryz.func47 #[.string a0, .string (⟨#[47]⟩ : ByteArray)] bq (strings_Contains.calls a0 (⟨#[47]⟩ : ByteArray) false _ A13.out) ?_; clear HB; intro w26 HB))
    go_meet
    case rel => exact ⟨_, (false), fs, H', ⟨by have := HJ2.out; first | omega | exact Nat.le_refl _⟩, ⟨bqs⟩⟩
   case rest =>
    clear HC12
    try clear c1
    try clear c2
    try clear p2
    try clear q2
    try clear hx2
    try clear qi2
    try clear c6
    try clear c7
    try clear c11
    try clear c14
    try clear c15
    try clear c15b0
    try clear c15b1
    try clear c17
    try clear c17b0
    try clear c17b1
    try clear c19
    try clear c19b0
    try clear c19b1
    try clear p20
    try clear q20
    try clear hx20
    try clear qi20
    try clear c21
    try clear c21b0
    try clear c21b1
    try clear p2
    try clear p20
    try clear q20
    obtain ⟨kq, x37_11, rfl, HA, HJ11, HB⟩ := hcut
    cases kq with
    | zero => exact absurd HA.out (by simp [rACheck.j1])
    | succ kj11 =>
     have H := HA.out
     clear HA
     simp only [rACheck.j1] at H
     by_cases c27 : x37_11 = true
     ·subst c27
      have H1 : (some 3) = some r := by rw [if_pos rfl] at H; exact H
      clear H
      have H := H1
      clear H1
      obtain rfl := Option.some.inj H
      go_wp2
      go_ret
      exact finE
     replace c27 := Bool.eq_false_iff.mpr c27
     subst c27
     have H1 : ((rAdigits.f t215).bind fun t221 => (if t221 > 4096 then (some 10) else ((rAdigits.f t216).bind fun t222 => (if t222 > 4096 then (some 10) else (some 0))))) = some r := by rw [if_neg (show ¬ (false = true) by decide)] at H; exact H
     clear H
     have H := H1
     clear H1
     obtain ⟨t221, A28, H⟩ := bnd H
     rcases jg H with ⟨-, c29b0, H⟩ | ⟨-, c29b0, H⟩
     ·obtain rfl := Option.some.inj H
      go_wp2_with (first | ((with_reducible refine gc_ 49 rfl ?_); refine goD (some 39) Tryz.func49 #[.string t215] (rAdigits.calls t215 t221 _ A28.out) ?_; intro nd))
      go_ret
      exact finE
     obtain ⟨t222, A30, H⟩ := bnd H
     rcases jg H with ⟨-, c31b0, H⟩ | ⟨-, c31b0, H⟩
     ·obtain rfl := Option.some.inj H
      go_wp2_with (first | ((with_reducible refine gc_ 49 rfl ?_); refine goD (some 39) Tryz.func49 #[.string t215] (rAdigits.calls t215 t221 _ A28.out) ?_; intro nd) | (go_at_call 49; (with_reducible refine (rAdigits.calls t216 t222 _ A30.out).mono ?_); rintro e w' ⟨rfl, ⟨nd, rfl⟩⟩))
      go_ret
      exact finE
     obtain rfl := Option.some.inj H
     go_wp2_with (first | ((with_reducible refine gc_ 49 rfl ?_); refine goD (some 39) Tryz.func49 #[.string t215] (rAdigits.calls t215 t221 _ A28.out) ?_; intro nd) | (go_at_call 49; (with_reducible refine (rAdigits.calls t216 t222 _ A30.out).mono ?_); rintro e w' ⟨rfl, ⟨nd, rfl⟩⟩))
     go_ret
     exact finE
theorem rAnewPair.calls (k : Nat) (a0 : ByteArray) (a1 : ByteArray) (r1 : ByteArray) (r2 : ByteArray) (r3 : ByteArray) (r4 : ByteArray) (r5 : Int) (w : World) (hL : LaidW w) (h : rAnewPair.f k a0 a1 = some (r1, r2, r3, r4, r5)) :
  Calls Tryz.prog 36 #[.string a0, .string a1] w fun e w' => e = .returned (.tuple #[.agg #[.string r1, .string r2, .string r3, .string r4], .int .i64 r5]) ∧ Below w.heap.size w w' := by
 have hu95 := Tryz.underlying63
 have HB := Z0.mk (Below.refl w.heap.size w)
 have H := h
 clear h
 unfold rAnewPair.f at H
 obtain ⟨t367, A3, H⟩ := bnd H
 rcases je H with ⟨-, c4b0, c4b1, H⟩ | ⟨c4, c4b0, c4b1, H⟩
 ·obtain ⟨t368, A5, H⟩ := bnd H
  rcases je H with ⟨-, c6b0, c6b1, H⟩ | ⟨c6, c6b0, c6b1, H⟩
  ·obtain ⟨⟨t369, t370⟩, A7, H⟩ := bnd H
   try dsimp only at H
   obtain ⟨⟨t371, t372⟩, A8, H⟩ := bnd H
   try dsimp only at H
   simp only [Option.some.injEq, Prod.mk.injEq] at H
   obtain ⟨rfl, rfl, rfl, rfl, rfl⟩ := H
   go_enter Tryz.func36, Tryz.ntmps36
   go_wp2_with (first | ((with_reducible refine gd_ 4 rfl ?_); refine bxE 4 #[.string (⟨#[]⟩ : ByteArray), .string (⟨#[]⟩ : ByteArray), .string (⟨#[]⟩ : ByteArray), .string (⟨#[]⟩ : ByteArray)] 63 ?_; intro gb366 hg w9 hbox hb; have BK366 := Z0.mk hbox; have GW366 := fE HB hg; have GE366 := fE HB hg; replace HB := fB HB hb; clear hb hbox hg) | ((with_reducible refine gc_ 13 rfl ?_); refine gL 13 Tryz.func13 (rACheck.calls k a0 t367 _ ?side1 A3.out) ?_; (case side1 => exact LaidW.below hL bqs); rintro _ w10 ⟨rfl, hb⟩; refine ⟨_, rfl, ?_⟩; replace BK366 := fk BK366 hb; replace HB := fB HB hb; clear hb) | ((with_reducible refine gc_ 13 rfl ?_); refine gL 19 Tryz.func13 (rACheck.calls k a1 t368 _ ?side1 A5.out) ?_; (case side1 => exact LaidW.below hL bqs); rintro _ w11 ⟨rfl, hb⟩; refine ⟨_, rfl, ?_⟩; replace BK366 := fk BK366 hb; replace HB := fB HB hb; clear hb) | ((with_reducible refine gc_ 45 rfl ?_); refine gL 26 Tryz.func45 (rAsplit.calls _ _ _ _ A7.out) ?_; rintro _ w12 ⟨rfl, hb⟩; refine ⟨_, rfl, ?_⟩; replace BK366 := fk BK366 hb; replace HB := fB HB hb; clear hb) | ((with_reducible refine gc_ 45 rfl ?_); refine gL 31 Tryz.func45 (rAsplit.calls _ _ _ _ A8.out) ?_; rintro _ w13 ⟨rfl, hb⟩; refine ⟨_, rfl, ?_⟩; replace BK366 := fk BK366 hb; replace HB := fB HB hb; clear hb; obtain ⟨hcz14_0, hcz14_1, hcz14_2, hcz14_3, hfz14_0, hfz14_1, hfz14_2, hfz14_3⟩ := b4 BK366))
   refine bodyPost_ret (results_ct rfl _ _ gb366 63 #[.string t369, .string t370, .string t371, .string t372] (0, 0) _ rfl (by (with_reducible repeat (first | refine blk_drewN ?_ _ | refine blk_drew ?_ | refine blk_alloc ?_ _)); refine blk_put (cs := #[.string t369, .string t370, .string t371, .string (⟨#[]⟩ : ByteArray)]) ?_ 3 _ rfl; (with_reducible repeat (first | refine blk_drewN ?_ _ | refine blk_drew ?_ | refine blk_alloc ?_ _)); refine blk_put (cs := #[.string t369, .string t370, .string (⟨#[]⟩ : ByteArray), .string (⟨#[]⟩ : ByteArray)]) ?_ 2 _ rfl; (with_reducible repeat (first | refine blk_drewN ?_ _ | refine blk_drew ?_ | refine blk_alloc ?_ _)); refine blk_put (cs := #[.string t369, .string (⟨#[]⟩ : ByteArray), .string (⟨#[]⟩ : ByteArray), .string (⟨#[]⟩ : ByteArray)]) ?_ 1 _ rfl; (with_reducible repeat (first | refine blk_drewN ?_ _ | refine blk_drew ?_ | refine blk_alloc ?_ _)); refine blk_put (cs := #[.string (⟨#[]⟩ : ByteArray), .string (⟨#[]⟩ : ByteArray), .string (⟨#[]⟩ : ByteArray), .string (⟨#[]⟩ : ByteArray)]) ?_ 0 _ rfl; (with_reducible repeat (first | refine blk_drewN ?_ _ | refine blk_drew ?_ | refine blk_alloc ?_ _)); exact BK366.out) Tryz.underlying63 rfl (by kernel_rfl)) rfl ?_
   exact finE
  simp only [Option.some.injEq, Prod.mk.injEq] at H
  obtain ⟨rfl, rfl, rfl, rfl, rfl⟩ := H
  go_enter Tryz.func36, Tryz.ntmps36
  go_wp2_with (first | ((with_reducible refine gd_ 4 rfl ?_); refine bxE 4 #[.string (⟨#[]⟩ : ByteArray), .string (⟨#[]⟩ : ByteArray), .string (⟨#[]⟩ : ByteArray), .string (⟨#[]⟩ : ByteArray)] 63 ?_; intro gb366 hg w15 hbox hb; have BK366 := Z0.mk hbox; have GW366 := fE HB hg; have GE366 := fE HB hg; replace HB := fB HB hb; clear hb hbox hg) | ((with_reducible refine gc_ 13 rfl ?_); refine gL 13 Tryz.func13 (rACheck.calls k a0 t367 _ ?side1 A3.out) ?_; (case side1 => exact LaidW.below hL bqs); rintro _ w16 ⟨rfl, hb⟩; refine ⟨_, rfl, ?_⟩; replace BK366 := fk BK366 hb; replace HB := fB HB hb; clear hb) | ((with_reducible refine gc_ 13 rfl ?_); refine gL 19 Tryz.func13 (rACheck.calls k a1 t368 _ ?side1 A5.out) ?_; (case side1 => exact LaidW.below hL bqs); rintro _ w17 ⟨rfl, hb⟩; refine ⟨_, rfl, ?_⟩; replace BK366 := fk BK366 hb; replace HB := fB HB hb; clear hb; obtain ⟨hcz18_0, hcz18_1, hcz18_2, hcz18_3, hfz18_0, hfz18_1, hfz18_2, hfz18_3⟩ := b4 BK366))
  refine bodyPost_ret (results_ct rfl _ _ gb366 63 #[.string (⟨#[]⟩ : ByteArray), .string (⟨#[]⟩ : ByteArray), .string (⟨#[]⟩ : ByteArray), .string (⟨#[]⟩ : ByteArray)] (0, 0) _ rfl (by (with_reducible repeat (first | refine blk_drewN ?_ _ | refine blk_drew ?_ | refine blk_alloc ?_ _)); refine blk_put (cs := #[.string (⟨#[]⟩ : ByteArray), .string (⟨#[]⟩ : ByteArray), .string (⟨#[]⟩ : ByteArray), .string (⟨#[]⟩ : ByteArray)]) ?_ 3 _ rfl; (with_reducible repeat (first | refine blk_drewN ?_ _ | refine blk_drew ?_ | refine blk_alloc ?_ _)); refine blk_put (cs := #[.string (⟨#[]⟩ : ByteArray), .string (⟨#[]⟩ : ByteArray), .string (⟨#[]⟩ : ByteArray), .string (⟨#[]⟩ : ByteArray)]) ?_ 2 _ rfl; (with_reducible repeat (first | refine blk_drewN ?_ _ | refine blk_drew ?_ | refine blk_alloc ?_ _)); refine blk_put (cs := #[.string (⟨#[]⟩ : ByteArray), .string (⟨#[]⟩ : ByteArray), .string (⟨#[]⟩ : ByteArray), .string (⟨#[]⟩ : ByteArray)]) ?_ 1 _ rfl; (with_reducible repeat (first | refine blk_drewN ?_ _ | refine blk_drew ?_ | refine blk_alloc ?_ _)); refine blk_put (cs := #[.string (⟨#[]⟩ : ByteArray), .string (⟨#[]⟩ : ByteArray), .string (⟨#[]⟩ : ByteArray), .string (⟨#[]⟩ : ByteArray)]) ?_ 0 _ rfl; (with_reducible repeat (first | refine blk_drewN ?_ _ | refine blk_drew ?_ | refine blk_alloc ?_ _)); exact BK366.out) Tryz.underlying63 rfl (by kernel_rfl)) rfl ?_
  exact finE
 simp only [Option.some.injEq, Prod.mk.injEq] at H
 obtain ⟨rfl, rfl, rfl, rfl, rfl⟩ := H
 go_enter Tryz.func36, Tryz.ntmps36
 go_wp2_with (first | ((with_reducible refine gd_ 4 rfl ?_); refine bxE 4 #[.string (⟨#[]⟩ : ByteArray), .string (⟨#[]⟩ : ByteArray), .string (⟨#[]⟩ : ByteArray), .string (⟨#[]⟩ : ByteArray)] 63 ?_; intro gb366 hg w19 hbox hb; have BK366 := Z0.mk hbox; have GW366 := fE HB hg; have GE366 := fE HB hg; replace HB := fB HB hb; clear hb hbox hg) | ((with_reducible refine gc_ 13 rfl ?_); refine gL 13 Tryz.func13 (rACheck.calls k a0 t367 _ ?side1 A3.out) ?_; (case side1 => exact LaidW.below hL bqs); rintro _ w20 ⟨rfl, hb⟩; refine ⟨_, rfl, ?_⟩; replace BK366 := fk BK366 hb; replace HB := fB HB hb; clear hb; obtain ⟨hcz21_0, hcz21_1, hcz21_2, hcz21_3, hfz21_0, hfz21_1, hfz21_2, hfz21_3⟩ := b4 BK366))
 refine bodyPost_ret (results_ct rfl _ _ gb366 63 #[.string (⟨#[]⟩ : ByteArray), .string (⟨#[]⟩ : ByteArray), .string (⟨#[]⟩ : ByteArray), .string (⟨#[]⟩ : ByteArray)] (0, 0) _ rfl (by (with_reducible repeat (first | refine blk_drewN ?_ _ | refine blk_drew ?_ | refine blk_alloc ?_ _)); refine blk_put (cs := #[.string (⟨#[]⟩ : ByteArray), .string (⟨#[]⟩ : ByteArray), .string (⟨#[]⟩ : ByteArray), .string (⟨#[]⟩ : ByteArray)]) ?_ 3 _ rfl; (with_reducible repeat (first | refine blk_drewN ?_ _ | refine blk_drew ?_ | refine blk_alloc ?_ _)); refine blk_put (cs := #[.string (⟨#[]⟩ : ByteArray), .string (⟨#[]⟩ : ByteArray), .string (⟨#[]⟩ : ByteArray), .string (⟨#[]⟩ : ByteArray)]) ?_ 2 _ rfl; (with_reducible repeat (first | refine blk_drewN ?_ _ | refine blk_drew ?_ | refine blk_alloc ?_ _)); refine blk_put (cs := #[.string (⟨#[]⟩ : ByteArray), .string (⟨#[]⟩ : ByteArray), .string (⟨#[]⟩ : ByteArray), .string (⟨#[]⟩ : ByteArray)]) ?_ 1 _ rfl; (with_reducible repeat (first | refine blk_drewN ?_ _ | refine blk_drew ?_ | refine blk_alloc ?_ _)); refine blk_put (cs := #[.string (⟨#[]⟩ : ByteArray), .string (⟨#[]⟩ : ByteArray), .string (⟨#[]⟩ : ByteArray), .string (⟨#[]⟩ : ByteArray)]) ?_ 0 _ rfl; (with_reducible repeat (first | refine blk_drewN ?_ _ | refine blk_drew ?_ | refine blk_alloc ?_ _)); exact BK366.out) Tryz.underlying63 rfl (by kernel_rfl)) rfl ?_
 exact finE
theorem bINeg.calls (k : Nat) (a0 : ByteArray) (r1 : ByteArray) (r2 : Int) (w : World) (hL : LaidW w) (h : bINeg.f k a0 = some (r1, r2)) :
  Calls Tryz.prog 89 #[.string a0] w fun e w' => e = .returned (.tuple #[.string r1, .int .i64 r2]) ∧ Below w.heap.size w w' := by
 have HB := Z0.mk (Below.refl w.heap.size w)
 have H := h
 clear h
 unfold bINeg.f at H
 obtain ⟨⟨t321, t322⟩, A2, H⟩ := bnd H
 try dsimp only at H
 simp only [Option.some.injEq, Prod.mk.injEq] at H
 obtain ⟨rfl, rfl⟩ := H
 go_enter Tryz.func89, Tryz.ntmps89
 go_wp2_with (first | ((with_reducible refine gc_ 114 rfl ?_); refine goB (some 5) Tryz.func114 #[.string (⟨#[48]⟩ : ByteArray), .string a0] bq (bISub.calls k (⟨#[48]⟩ : ByteArray) a0 t321 t322 _ (hL.below bq) A2.out) ?_; clear HB; intro w3 HB))
 go_ret2
 exact finE
end Go.Proofs.YtinpcbjjnlpblaaGreatDoor.PA
